/-
  No cell of these rows narrows 'for every input' (looked for: loops, veiled, ifaces, maps, wideKeys, modest, calm, conditions, laid).
  DERIVED. THE GIVEN ROWS OF THIS SEAT. 12 by the template 'for every input the law returns true; each argument reads behind the call as it read before'; 0 by the template 'total and deterministic' (their statements: YtlbagejkjkfkjaaTotals.lean).
  GIVEN WITH THE SEED: the statements are not yours to turn. If you find one false, say at which input.
  Laid BY PROGRAM, IN A SANDBOX (cutbox-rows.mjs): the forced cells as the released guide's own fill.sh prints them over the translation 9cbf333b4c69ba8d… (all of the seat's roots in one cut). By AI agents, Wed Nov 11 2026. No macro, syntax, notation, axiom, sorry.
-/
import Derived.Test.YtlbagejkjkfkjaaChecked
import GoSem.Claim
import GoSem.ClaimJoined
import GoSem.ClaimMapViews
import Derived.JoinedTies
import Derived.KernelRfl
namespace Go.Proofs.Ytlbagejkjkfkjaa
/- THE CELL 'sum', in the pinned program and in every row, IS THE sha256 OF THE DUMP (.gsa) THAT YtlbagejkjkfkjaaProg.lean LOADS. Nothing in Lean hashes anything: it is a label: what it is worth is what the hold of that sum in a sandbox is worth. -/
noncomputable def Try.pinned : Pinned := { name := "ytlbagejkjkfkjaa", sum := "9cbf333b4c69ba8ddb7883be90a6814f7a0952dcceb9e37796ce349762bbd7c9", checked := Try.checked }
namespace Rows
def none {H : Type} : Left H := { results := [], args := [] }

/-- 'laws.FnTx': WHATEVER THE INPUT: true; the input reads as it did. -/
def fnTxSpec : ChangeSpec := { name := "fnTx", fn := fun _ => fun
  | [d] => { results := [.lit (.bool true)], args := [d] }
  | _ => none }
def fnTxRow : OpenClaim := { program := "ytlbagejkjkfkjaa", sum := "9cbf333b4c69ba8ddb7883be90a6814f7a0952dcceb9e37796ce349762bbd7c9", func := "loop.example/g00138/laws.FnTx", spec := "fnTx", apart := false }
def FnTxSaid : Prop := fnTxRow.holds Try.pinned (OpenSpec.ofChange fnTxSpec)

/-- ITS FALSE NEIGHBOUR: 'it returns false'. Refute it at one input. -/
def fnTxWrong : ChangeSpec := { name := "fnTx", fn := fun _ => fun
  | [d] => { results := [.lit (.bool false)], args := [d] }
  | _ => none }
def FnTxWrongFalsely : Prop := fnTxRow.holds Try.pinned (OpenSpec.ofChange fnTxWrong)

/-- 'laws.FnExactClientStop': WHATEVER THE INPUT: true; the input reads as it did. -/
def fnExactClientStopSpec : ChangeSpec := { name := "fnExactClientStop", fn := fun _ => fun
  | [d] => { results := [.lit (.bool true)], args := [d] }
  | _ => none }
def fnExactClientStopRow : OpenClaim := { program := "ytlbagejkjkfkjaa", sum := "9cbf333b4c69ba8ddb7883be90a6814f7a0952dcceb9e37796ce349762bbd7c9", func := "loop.example/g00138/laws.FnExactClientStop", spec := "fnExactClientStop", unfollowed := true, recurses := true, apart := false }
def FnExactClientStopSaid : Prop := fnExactClientStopRow.holds Try.pinned (OpenSpec.ofChange fnExactClientStopSpec)

/-- ITS FALSE NEIGHBOUR: 'it returns false'. Refute it at one input. -/
def fnExactClientStopWrong : ChangeSpec := { name := "fnExactClientStop", fn := fun _ => fun
  | [d] => { results := [.lit (.bool false)], args := [d] }
  | _ => none }
def FnExactClientStopWrongFalsely : Prop := fnExactClientStopRow.holds Try.pinned (OpenSpec.ofChange fnExactClientStopWrong)

/-- 'laws.FnExactClientAgain': WHATEVER THE INPUT: true; the input reads as it did. -/
def fnExactClientAgainSpec : ChangeSpec := { name := "fnExactClientAgain", fn := fun _ => fun
  | [d] => { results := [.lit (.bool true)], args := [d] }
  | _ => none }
def fnExactClientAgainRow : OpenClaim := { program := "ytlbagejkjkfkjaa", sum := "9cbf333b4c69ba8ddb7883be90a6814f7a0952dcceb9e37796ce349762bbd7c9", func := "loop.example/g00138/laws.FnExactClientAgain", spec := "fnExactClientAgain", unfollowed := true, recurses := true, apart := false }
def FnExactClientAgainSaid : Prop := fnExactClientAgainRow.holds Try.pinned (OpenSpec.ofChange fnExactClientAgainSpec)

/-- ITS FALSE NEIGHBOUR: 'it returns false'. Refute it at one input. -/
def fnExactClientAgainWrong : ChangeSpec := { name := "fnExactClientAgain", fn := fun _ => fun
  | [d] => { results := [.lit (.bool false)], args := [d] }
  | _ => none }
def FnExactClientAgainWrongFalsely : Prop := fnExactClientAgainRow.holds Try.pinned (OpenSpec.ofChange fnExactClientAgainWrong)

/-- 'laws.FnExactStoreOk': WHATEVER THE INPUT: true; the input reads as it did. -/
def fnExactStoreOkSpec : ChangeSpec := { name := "fnExactStoreOk", fn := fun _ => fun
  | [d] => { results := [.lit (.bool true)], args := [d] }
  | _ => none }
def fnExactStoreOkRow : OpenClaim := { program := "ytlbagejkjkfkjaa", sum := "9cbf333b4c69ba8ddb7883be90a6814f7a0952dcceb9e37796ce349762bbd7c9", func := "loop.example/g00138/laws.FnExactStoreOk", spec := "fnExactStoreOk", inPlace := ["math/bits.Add64"], apart := false }
def FnExactStoreOkSaid : Prop := fnExactStoreOkRow.holds Try.pinned (OpenSpec.ofChange fnExactStoreOkSpec)

/-- ITS FALSE NEIGHBOUR: 'it returns false'. Refute it at one input. -/
def fnExactStoreOkWrong : ChangeSpec := { name := "fnExactStoreOk", fn := fun _ => fun
  | [d] => { results := [.lit (.bool false)], args := [d] }
  | _ => none }
def FnExactStoreOkWrongFalsely : Prop := fnExactStoreOkRow.holds Try.pinned (OpenSpec.ofChange fnExactStoreOkWrong)

/-- 'laws.FnExactClientAsk': WHATEVER THE INPUT: true; the input reads as it did. -/
def fnExactClientAskSpec : ChangeSpec := { name := "fnExactClientAsk", fn := fun _ => fun
  | [d1, d2] => { results := [.lit (.bool true)], args := [d1, d2] }
  | _ => none }
def fnExactClientAskRow : OpenClaim := { program := "ytlbagejkjkfkjaa", sum := "9cbf333b4c69ba8ddb7883be90a6814f7a0952dcceb9e37796ce349762bbd7c9", func := "loop.example/g00138/laws.FnExactClientAsk", spec := "fnExactClientAsk", unfollowed := true, recurses := true, apart := false }
def FnExactClientAskSaid : Prop := fnExactClientAskRow.holds Try.pinned (OpenSpec.ofChange fnExactClientAskSpec)

/-- ITS FALSE NEIGHBOUR: 'it returns false'. Refute it at one input. -/
def fnExactClientAskWrong : ChangeSpec := { name := "fnExactClientAsk", fn := fun _ => fun
  | [d1, d2] => { results := [.lit (.bool false)], args := [d1, d2] }
  | _ => none }
def FnExactClientAskWrongFalsely : Prop := fnExactClientAskRow.holds Try.pinned (OpenSpec.ofChange fnExactClientAskWrong)

/-- 'laws.FnExactStoreTotal': WHATEVER THE INPUT: true; the input reads as it did. -/
def fnExactStoreTotalSpec : ChangeSpec := { name := "fnExactStoreTotal", fn := fun _ => fun
  | [d] => { results := [.lit (.bool true)], args := [d] }
  | _ => none }
def fnExactStoreTotalRow : OpenClaim := { program := "ytlbagejkjkfkjaa", sum := "9cbf333b4c69ba8ddb7883be90a6814f7a0952dcceb9e37796ce349762bbd7c9", func := "loop.example/g00138/laws.FnExactStoreTotal", spec := "fnExactStoreTotal", inPlace := ["math/bits.Add64"], apart := false }
def FnExactStoreTotalSaid : Prop := fnExactStoreTotalRow.holds Try.pinned (OpenSpec.ofChange fnExactStoreTotalSpec)

/-- ITS FALSE NEIGHBOUR: 'it returns false'. Refute it at one input. -/
def fnExactStoreTotalWrong : ChangeSpec := { name := "fnExactStoreTotal", fn := fun _ => fun
  | [d] => { results := [.lit (.bool false)], args := [d] }
  | _ => none }
def FnExactStoreTotalWrongFalsely : Prop := fnExactStoreTotalRow.holds Try.pinned (OpenSpec.ofChange fnExactStoreTotalWrong)

/-- 'laws.FnExactHandHas': WHATEVER THE INPUT: true; the input reads as it did. -/
def fnExactHandHasSpec : ChangeSpec := { name := "fnExactHandHas", fn := fun _ => fun
  | [d1, d2] => { results := [.lit (.bool true)], args := [d1, d2] }
  | _ => none }
def fnExactHandHasRow : OpenClaim := { program := "ytlbagejkjkfkjaa", sum := "9cbf333b4c69ba8ddb7883be90a6814f7a0952dcceb9e37796ce349762bbd7c9", func := "loop.example/g00138/laws.FnExactHandHas", spec := "fnExactHandHas", inPlace := ["math/bits.Add64"], unfollowed := true, recurses := true, apart := false }
def FnExactHandHasSaid : Prop := fnExactHandHasRow.holds Try.pinned (OpenSpec.ofChange fnExactHandHasSpec)

/-- ITS FALSE NEIGHBOUR: 'it returns false'. Refute it at one input. -/
def fnExactHandHasWrong : ChangeSpec := { name := "fnExactHandHas", fn := fun _ => fun
  | [d1, d2] => { results := [.lit (.bool false)], args := [d1, d2] }
  | _ => none }
def FnExactHandHasWrongFalsely : Prop := fnExactHandHasRow.holds Try.pinned (OpenSpec.ofChange fnExactHandHasWrong)

/-- 'laws.FnExactLiveTotal': WHATEVER THE INPUT: true; the input reads as it did. -/
def fnExactLiveTotalSpec : ChangeSpec := { name := "fnExactLiveTotal", fn := fun _ => fun
  | [d] => { results := [.lit (.bool true)], args := [d] }
  | _ => none }
def fnExactLiveTotalRow : OpenClaim := { program := "ytlbagejkjkfkjaa", sum := "9cbf333b4c69ba8ddb7883be90a6814f7a0952dcceb9e37796ce349762bbd7c9", func := "loop.example/g00138/laws.FnExactLiveTotal", spec := "fnExactLiveTotal", inPlace := ["math/bits.Add64"], unfollowed := true, recurses := true, apart := false }
def FnExactLiveTotalSaid : Prop := fnExactLiveTotalRow.holds Try.pinned (OpenSpec.ofChange fnExactLiveTotalSpec)

/-- ITS FALSE NEIGHBOUR: 'it returns false'. Refute it at one input. -/
def fnExactLiveTotalWrong : ChangeSpec := { name := "fnExactLiveTotal", fn := fun _ => fun
  | [d] => { results := [.lit (.bool false)], args := [d] }
  | _ => none }
def FnExactLiveTotalWrongFalsely : Prop := fnExactLiveTotalRow.holds Try.pinned (OpenSpec.ofChange fnExactLiveTotalWrong)

/-- 'laws.FnClient': WHATEVER THE INPUT: true; the input reads as it did. -/
def fnClientSpec : ChangeSpec := { name := "fnClient", fn := fun _ => fun
  | [d] => { results := [.lit (.bool true)], args := [d] }
  | _ => none }
def fnClientRow : OpenClaim := { program := "ytlbagejkjkfkjaa", sum := "9cbf333b4c69ba8ddb7883be90a6814f7a0952dcceb9e37796ce349762bbd7c9", func := "loop.example/g00138/laws.FnClient", spec := "fnClient", unfollowed := true, recurses := true, apart := false }
def FnClientSaid : Prop := fnClientRow.holds Try.pinned (OpenSpec.ofChange fnClientSpec)

/-- ITS FALSE NEIGHBOUR: 'it returns false'. Refute it at one input. -/
def fnClientWrong : ChangeSpec := { name := "fnClient", fn := fun _ => fun
  | [d] => { results := [.lit (.bool false)], args := [d] }
  | _ => none }
def FnClientWrongFalsely : Prop := fnClientRow.holds Try.pinned (OpenSpec.ofChange fnClientWrong)

/-- 'laws.FnExactDoMap': WHATEVER THE INPUT: true; the input reads as it did. -/
def fnExactDoMapSpec : ChangeSpec := { name := "fnExactDoMap", fn := fun _ => fun
  | [d1, d2] => { results := [.lit (.bool true)], args := [d1, d2] }
  | _ => none }
def fnExactDoMapRow : OpenClaim := { program := "ytlbagejkjkfkjaa", sum := "9cbf333b4c69ba8ddb7883be90a6814f7a0952dcceb9e37796ce349762bbd7c9", func := "loop.example/g00138/laws.FnExactDoMap", spec := "fnExactDoMap", inPlace := ["slices.overlaps[loop.example/g00138/impl.Range]"], unfollowed := true, recurses := true, apart := false }
def FnExactDoMapSaid : Prop := fnExactDoMapRow.holds Try.pinned (OpenSpec.ofChange fnExactDoMapSpec)

/-- ITS FALSE NEIGHBOUR: 'it returns false'. Refute it at one input. -/
def fnExactDoMapWrong : ChangeSpec := { name := "fnExactDoMap", fn := fun _ => fun
  | [d1, d2] => { results := [.lit (.bool false)], args := [d1, d2] }
  | _ => none }
def FnExactDoMapWrongFalsely : Prop := fnExactDoMapRow.holds Try.pinned (OpenSpec.ofChange fnExactDoMapWrong)

/-- 'laws.FnCharts': WHATEVER THE INPUT: true; the input reads as it did. -/
def fnChartsSpec : ChangeSpec := { name := "fnCharts", fn := fun _ => fun
  | [d] => { results := [.lit (.bool true)], args := [d] }
  | _ => none }
def fnChartsRow : OpenClaim := { program := "ytlbagejkjkfkjaa", sum := "9cbf333b4c69ba8ddb7883be90a6814f7a0952dcceb9e37796ce349762bbd7c9", func := "loop.example/g00138/laws.FnCharts", spec := "fnCharts", inPlace := ["slices.overlaps[loop.example/g00138/impl.Range]"], unfollowed := true, recurses := true, apart := false }
def FnChartsSaid : Prop := fnChartsRow.holds Try.pinned (OpenSpec.ofChange fnChartsSpec)

/-- ITS FALSE NEIGHBOUR: 'it returns false'. Refute it at one input. -/
def fnChartsWrong : ChangeSpec := { name := "fnCharts", fn := fun _ => fun
  | [d] => { results := [.lit (.bool false)], args := [d] }
  | _ => none }
def FnChartsWrongFalsely : Prop := fnChartsRow.holds Try.pinned (OpenSpec.ofChange fnChartsWrong)

/-- 'laws.FnExactExportShard': WHATEVER THE INPUT: true; the input reads as it did. -/
def fnExactExportShardSpec : ChangeSpec := { name := "fnExactExportShard", fn := fun _ => fun
  | [d1, d2] => { results := [.lit (.bool true)], args := [d1, d2] }
  | _ => none }
def fnExactExportShardRow : OpenClaim := { program := "ytlbagejkjkfkjaa", sum := "9cbf333b4c69ba8ddb7883be90a6814f7a0952dcceb9e37796ce349762bbd7c9", func := "loop.example/g00138/laws.FnExactExportShard", spec := "fnExactExportShard", inPlace := ["math/bits.Add64"], unfollowed := true, recurses := true, apart := false }
def FnExactExportShardSaid : Prop := fnExactExportShardRow.holds Try.pinned (OpenSpec.ofChange fnExactExportShardSpec)

/-- ITS FALSE NEIGHBOUR: 'it returns false'. Refute it at one input. -/
def fnExactExportShardWrong : ChangeSpec := { name := "fnExactExportShard", fn := fun _ => fun
  | [d1, d2] => { results := [.lit (.bool false)], args := [d1, d2] }
  | _ => none }
def FnExactExportShardWrongFalsely : Prop := fnExactExportShardRow.holds Try.pinned (OpenSpec.ofChange fnExactExportShardWrong)

/- THE SECOND FORM. 'bulk': how many values and letters a reading holds, each counted each time it is reached (what is shared counts as often as it is met; a slice's spare places count too). A statement '..UptoSaid' is the law's where the arguments, and the package variables that the reading takes, are together of bulk at most 1048576: NARROWER than '..Said'. Prove '..Said' where nothing that the law and all that it calls make is longer than what came in: it says more and counts as full. Else prove '..UptoSaid'. A law counts once. -/
mutual
def uptoBulk {H : Type} : DataW H → Nat
  | .lit (.string bytes) => bytes.length + 1
  | .lit _ => 1
  | .nil => 1
  | .ptr d => uptoBulk d + 1
  | .slice elems spare => uptoBulkAll elems + uptoBulkAll spare + 1
  | .agg parts => uptoBulkAll parts + 1
  | .iface _ d => uptoBulk d + 1
  | .map entries => uptoBulkEntries entries + 1
  | .held _ => 1
def uptoBulkAll {H : Type} : List (DataW H) → Nat
  | [] => 0
  | d :: r => uptoBulk d + uptoBulkAll r
def uptoBulkEntries {H : Type} : List (Lit × DataW H) → Nat
  | [] => 0
  | x :: r => uptoBulkEntry x + uptoBulkEntries r
def uptoBulkEntry {H : Type} : Lit × DataW H → Nat
  | (.string bytes, d) => bytes.length + uptoBulk d + 1
  | (_, d) => uptoBulk d + 1
 end
def uptoSmall : (H : Type) → List (DataW H) → Bool := fun _ ds => decide (uptoBulkAll ds ≤ 1048576)
def OpenSpec.upto (s : _root_.Go.ChangeSpec) : _root_.Go.OpenSpec := { _root_.Go.OpenSpec.ofChange s with cond := some uptoSmall }

/-- 'laws.FnTx', WHERE WHAT IT READS IS OF BULK AT MOST 1048576: true; the input reads as it did. -/
def fnTxUptoRow : OpenClaim := { program := "ytlbagejkjkfkjaa", sum := "9cbf333b4c69ba8ddb7883be90a6814f7a0952dcceb9e37796ce349762bbd7c9", func := "loop.example/g00138/laws.FnTx", spec := "fnTx", apart := false, narrowed := true }
def FnTxUptoSaid : Prop := fnTxUptoRow.holds Try.pinned (OpenSpec.upto fnTxSpec)

/-- 'laws.FnExactClientStop', WHERE WHAT IT READS IS OF BULK AT MOST 1048576: true; the input reads as it did. -/
def fnExactClientStopUptoRow : OpenClaim := { program := "ytlbagejkjkfkjaa", sum := "9cbf333b4c69ba8ddb7883be90a6814f7a0952dcceb9e37796ce349762bbd7c9", func := "loop.example/g00138/laws.FnExactClientStop", spec := "fnExactClientStop", unfollowed := true, recurses := true, apart := false, narrowed := true }
def FnExactClientStopUptoSaid : Prop := fnExactClientStopUptoRow.holds Try.pinned (OpenSpec.upto fnExactClientStopSpec)

/-- 'laws.FnExactClientAgain', WHERE WHAT IT READS IS OF BULK AT MOST 1048576: true; the input reads as it did. -/
def fnExactClientAgainUptoRow : OpenClaim := { program := "ytlbagejkjkfkjaa", sum := "9cbf333b4c69ba8ddb7883be90a6814f7a0952dcceb9e37796ce349762bbd7c9", func := "loop.example/g00138/laws.FnExactClientAgain", spec := "fnExactClientAgain", unfollowed := true, recurses := true, apart := false, narrowed := true }
def FnExactClientAgainUptoSaid : Prop := fnExactClientAgainUptoRow.holds Try.pinned (OpenSpec.upto fnExactClientAgainSpec)

/-- 'laws.FnExactStoreOk', WHERE WHAT IT READS IS OF BULK AT MOST 1048576: true; the input reads as it did. -/
def fnExactStoreOkUptoRow : OpenClaim := { program := "ytlbagejkjkfkjaa", sum := "9cbf333b4c69ba8ddb7883be90a6814f7a0952dcceb9e37796ce349762bbd7c9", func := "loop.example/g00138/laws.FnExactStoreOk", spec := "fnExactStoreOk", inPlace := ["math/bits.Add64"], apart := false, narrowed := true }
def FnExactStoreOkUptoSaid : Prop := fnExactStoreOkUptoRow.holds Try.pinned (OpenSpec.upto fnExactStoreOkSpec)

/-- 'laws.FnExactClientAsk', WHERE WHAT IT READS IS OF BULK AT MOST 1048576: true; the input reads as it did. -/
def fnExactClientAskUptoRow : OpenClaim := { program := "ytlbagejkjkfkjaa", sum := "9cbf333b4c69ba8ddb7883be90a6814f7a0952dcceb9e37796ce349762bbd7c9", func := "loop.example/g00138/laws.FnExactClientAsk", spec := "fnExactClientAsk", unfollowed := true, recurses := true, apart := false, narrowed := true }
def FnExactClientAskUptoSaid : Prop := fnExactClientAskUptoRow.holds Try.pinned (OpenSpec.upto fnExactClientAskSpec)

/-- 'laws.FnExactStoreTotal', WHERE WHAT IT READS IS OF BULK AT MOST 1048576: true; the input reads as it did. -/
def fnExactStoreTotalUptoRow : OpenClaim := { program := "ytlbagejkjkfkjaa", sum := "9cbf333b4c69ba8ddb7883be90a6814f7a0952dcceb9e37796ce349762bbd7c9", func := "loop.example/g00138/laws.FnExactStoreTotal", spec := "fnExactStoreTotal", inPlace := ["math/bits.Add64"], apart := false, narrowed := true }
def FnExactStoreTotalUptoSaid : Prop := fnExactStoreTotalUptoRow.holds Try.pinned (OpenSpec.upto fnExactStoreTotalSpec)

/-- 'laws.FnExactHandHas', WHERE WHAT IT READS IS OF BULK AT MOST 1048576: true; the input reads as it did. -/
def fnExactHandHasUptoRow : OpenClaim := { program := "ytlbagejkjkfkjaa", sum := "9cbf333b4c69ba8ddb7883be90a6814f7a0952dcceb9e37796ce349762bbd7c9", func := "loop.example/g00138/laws.FnExactHandHas", spec := "fnExactHandHas", inPlace := ["math/bits.Add64"], unfollowed := true, recurses := true, apart := false, narrowed := true }
def FnExactHandHasUptoSaid : Prop := fnExactHandHasUptoRow.holds Try.pinned (OpenSpec.upto fnExactHandHasSpec)

/-- 'laws.FnExactLiveTotal', WHERE WHAT IT READS IS OF BULK AT MOST 1048576: true; the input reads as it did. -/
def fnExactLiveTotalUptoRow : OpenClaim := { program := "ytlbagejkjkfkjaa", sum := "9cbf333b4c69ba8ddb7883be90a6814f7a0952dcceb9e37796ce349762bbd7c9", func := "loop.example/g00138/laws.FnExactLiveTotal", spec := "fnExactLiveTotal", inPlace := ["math/bits.Add64"], unfollowed := true, recurses := true, apart := false, narrowed := true }
def FnExactLiveTotalUptoSaid : Prop := fnExactLiveTotalUptoRow.holds Try.pinned (OpenSpec.upto fnExactLiveTotalSpec)

/-- 'laws.FnClient', WHERE WHAT IT READS IS OF BULK AT MOST 1048576: true; the input reads as it did. -/
def fnClientUptoRow : OpenClaim := { program := "ytlbagejkjkfkjaa", sum := "9cbf333b4c69ba8ddb7883be90a6814f7a0952dcceb9e37796ce349762bbd7c9", func := "loop.example/g00138/laws.FnClient", spec := "fnClient", unfollowed := true, recurses := true, apart := false, narrowed := true }
def FnClientUptoSaid : Prop := fnClientUptoRow.holds Try.pinned (OpenSpec.upto fnClientSpec)

/-- 'laws.FnExactDoMap', WHERE WHAT IT READS IS OF BULK AT MOST 1048576: true; the input reads as it did. -/
def fnExactDoMapUptoRow : OpenClaim := { program := "ytlbagejkjkfkjaa", sum := "9cbf333b4c69ba8ddb7883be90a6814f7a0952dcceb9e37796ce349762bbd7c9", func := "loop.example/g00138/laws.FnExactDoMap", spec := "fnExactDoMap", inPlace := ["slices.overlaps[loop.example/g00138/impl.Range]"], unfollowed := true, recurses := true, apart := false, narrowed := true }
def FnExactDoMapUptoSaid : Prop := fnExactDoMapUptoRow.holds Try.pinned (OpenSpec.upto fnExactDoMapSpec)

/-- 'laws.FnCharts', WHERE WHAT IT READS IS OF BULK AT MOST 1048576: true; the input reads as it did. -/
def fnChartsUptoRow : OpenClaim := { program := "ytlbagejkjkfkjaa", sum := "9cbf333b4c69ba8ddb7883be90a6814f7a0952dcceb9e37796ce349762bbd7c9", func := "loop.example/g00138/laws.FnCharts", spec := "fnCharts", inPlace := ["slices.overlaps[loop.example/g00138/impl.Range]"], unfollowed := true, recurses := true, apart := false, narrowed := true }
def FnChartsUptoSaid : Prop := fnChartsUptoRow.holds Try.pinned (OpenSpec.upto fnChartsSpec)

/-- 'laws.FnExactExportShard', WHERE WHAT IT READS IS OF BULK AT MOST 1048576: true; the input reads as it did. -/
def fnExactExportShardUptoRow : OpenClaim := { program := "ytlbagejkjkfkjaa", sum := "9cbf333b4c69ba8ddb7883be90a6814f7a0952dcceb9e37796ce349762bbd7c9", func := "loop.example/g00138/laws.FnExactExportShard", spec := "fnExactExportShard", inPlace := ["math/bits.Add64"], unfollowed := true, recurses := true, apart := false, narrowed := true }
def FnExactExportShardUptoSaid : Prop := fnExactExportShardUptoRow.holds Try.pinned (OpenSpec.upto fnExactExportShardSpec)

end Rows
end Go.Proofs.Ytlbagejkjkfkjaa
