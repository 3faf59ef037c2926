/-
  No cell of these rows narrows 'for every input' (looked for: loops, veiled, ifaces, maps, wideKeys, modest, calm, conditions, laid).
  DERIVED. THE GIVEN ROWS OF THIS SEAT. 9 by the template 'for every input the law returns true; each argument reads behind the call as it read before'; 0 by the template 'total and deterministic' (their statements: YtlfepembgjjejaaTotals.lean).
  GIVEN WITH THE SEED: the statements are not yours to turn. If you find one false, say at which input.
  Laid BY PROGRAM, IN A SANDBOX (cutbox-rows.mjs): the forced cells as the released guide's own fill.sh prints them over the translation b9baa7c941dedab6… (all of the seat's roots in one cut). By AI agents, Wed Nov 11 2026. No macro, syntax, notation, axiom, sorry.
-/
import Derived.Test.YtlfepembgjjejaaChecked
import GoSem.Claim
import GoSem.ClaimJoined
import GoSem.ClaimMapViews
import Derived.JoinedTies
import Derived.KernelRfl
namespace Go.Proofs.Ytlfepembgjjejaa
/- THE CELL 'sum', in the pinned program and in every row, IS THE sha256 OF THE DUMP (.gsa) THAT YtlfepembgjjejaaProg.lean LOADS. Nothing in Lean hashes anything: it is a label: what it is worth is what the hold of that sum in a sandbox is worth. -/
noncomputable def Try.pinned : Pinned := { name := "ytlfepembgjjejaa", sum := "b9baa7c941dedab6d2377513f35e4ea60b789f0a54e975006cb6de901d4ddcea", checked := Try.checked }
namespace Rows
def none {H : Type} : Left H := { results := [], args := [] }

/-- 'laws.FnExactHolders': WHATEVER THE INPUT: true; the input reads as it did. -/
def fnExactHoldersSpec : ChangeSpec := { name := "fnExactHolders", fn := fun _ => fun
  | [d1, d2] => { results := [.lit (.bool true)], args := [d1, d2] }
  | _ => none }
def fnExactHoldersRow : OpenClaim := { program := "ytlfepembgjjejaa", sum := "b9baa7c941dedab6d2377513f35e4ea60b789f0a54e975006cb6de901d4ddcea", func := "loop.example/g00138/laws.FnExactHolders", spec := "fnExactHolders", inPlace := ["math/bits.Add64"], unfollowed := true, recurses := true, apart := false }
def FnExactHoldersSaid : Prop := fnExactHoldersRow.holds Try.pinned (OpenSpec.ofChange fnExactHoldersSpec)

/-- ITS FALSE NEIGHBOUR: 'it returns false'. Refute it at one input. -/
def fnExactHoldersWrong : ChangeSpec := { name := "fnExactHolders", fn := fun _ => fun
  | [d1, d2] => { results := [.lit (.bool false)], args := [d1, d2] }
  | _ => none }
def FnExactHoldersWrongFalsely : Prop := fnExactHoldersRow.holds Try.pinned (OpenSpec.ofChange fnExactHoldersWrong)

/-- 'laws.FnExactRenewStore': WHATEVER THE INPUT: true; the input reads as it did. -/
def fnExactRenewStoreSpec : ChangeSpec := { name := "fnExactRenewStore", fn := fun _ => fun
  | [d1, d2] => { results := [.lit (.bool true)], args := [d1, d2] }
  | _ => none }
def fnExactRenewStoreRow : OpenClaim := { program := "ytlfepembgjjejaa", sum := "b9baa7c941dedab6d2377513f35e4ea60b789f0a54e975006cb6de901d4ddcea", func := "loop.example/g00138/laws.FnExactRenewStore", spec := "fnExactRenewStore", inPlace := ["math/bits.Add64"], apart := false }
def FnExactRenewStoreSaid : Prop := fnExactRenewStoreRow.holds Try.pinned (OpenSpec.ofChange fnExactRenewStoreSpec)

/-- ITS FALSE NEIGHBOUR: 'it returns false'. Refute it at one input. -/
def fnExactRenewStoreWrong : ChangeSpec := { name := "fnExactRenewStore", fn := fun _ => fun
  | [d1, d2] => { results := [.lit (.bool false)], args := [d1, d2] }
  | _ => none }
def FnExactRenewStoreWrongFalsely : Prop := fnExactRenewStoreRow.holds Try.pinned (OpenSpec.ofChange fnExactRenewStoreWrong)

/-- 'laws.FnExactDoLedger': WHATEVER THE INPUT: true; the input reads as it did. -/
def fnExactDoLedgerSpec : ChangeSpec := { name := "fnExactDoLedger", fn := fun _ => fun
  | [d1, d2] => { results := [.lit (.bool true)], args := [d1, d2] }
  | _ => none }
def fnExactDoLedgerRow : OpenClaim := { program := "ytlfepembgjjejaa", sum := "b9baa7c941dedab6d2377513f35e4ea60b789f0a54e975006cb6de901d4ddcea", func := "loop.example/g00138/laws.FnExactDoLedger", spec := "fnExactDoLedger", inPlace := ["math/bits.Add64", "slices.overlaps[loop.example/g00138/impl.Account]"], unfollowed := true, recurses := true, apart := false }
def FnExactDoLedgerSaid : Prop := fnExactDoLedgerRow.holds Try.pinned (OpenSpec.ofChange fnExactDoLedgerSpec)

/-- ITS FALSE NEIGHBOUR: 'it returns false'. Refute it at one input. -/
def fnExactDoLedgerWrong : ChangeSpec := { name := "fnExactDoLedger", fn := fun _ => fun
  | [d1, d2] => { results := [.lit (.bool false)], args := [d1, d2] }
  | _ => none }
def FnExactDoLedgerWrongFalsely : Prop := fnExactDoLedgerRow.holds Try.pinned (OpenSpec.ofChange fnExactDoLedgerWrong)

/-- 'laws.FnExactRetireShard': WHATEVER THE INPUT: true; the input reads as it did. -/
def fnExactRetireShardSpec : ChangeSpec := { name := "fnExactRetireShard", fn := fun _ => fun
  | [d1, d2, d3] => { results := [.lit (.bool true)], args := [d1, d2, d3] }
  | _ => none }
def fnExactRetireShardRow : OpenClaim := { program := "ytlfepembgjjejaa", sum := "b9baa7c941dedab6d2377513f35e4ea60b789f0a54e975006cb6de901d4ddcea", func := "loop.example/g00138/laws.FnExactRetireShard", spec := "fnExactRetireShard", inPlace := ["math/bits.Add64"], unfollowed := true, recurses := true, apart := false }
def FnExactRetireShardSaid : Prop := fnExactRetireShardRow.holds Try.pinned (OpenSpec.ofChange fnExactRetireShardSpec)

/-- ITS FALSE NEIGHBOUR: 'it returns false'. Refute it at one input. -/
def fnExactRetireShardWrong : ChangeSpec := { name := "fnExactRetireShard", fn := fun _ => fun
  | [d1, d2, d3] => { results := [.lit (.bool false)], args := [d1, d2, d3] }
  | _ => none }
def FnExactRetireShardWrongFalsely : Prop := fnExactRetireShardRow.holds Try.pinned (OpenSpec.ofChange fnExactRetireShardWrong)

/-- 'laws.FnExactFreezeShard': WHATEVER THE INPUT: true; the input reads as it did. -/
def fnExactFreezeShardSpec : ChangeSpec := { name := "fnExactFreezeShard", fn := fun _ => fun
  | [d1, d2, d3] => { results := [.lit (.bool true)], args := [d1, d2, d3] }
  | _ => none }
def fnExactFreezeShardRow : OpenClaim := { program := "ytlfepembgjjejaa", sum := "b9baa7c941dedab6d2377513f35e4ea60b789f0a54e975006cb6de901d4ddcea", func := "loop.example/g00138/laws.FnExactFreezeShard", spec := "fnExactFreezeShard", inPlace := ["math/bits.Add64"], unfollowed := true, recurses := true, apart := false }
def FnExactFreezeShardSaid : Prop := fnExactFreezeShardRow.holds Try.pinned (OpenSpec.ofChange fnExactFreezeShardSpec)

/-- ITS FALSE NEIGHBOUR: 'it returns false'. Refute it at one input. -/
def fnExactFreezeShardWrong : ChangeSpec := { name := "fnExactFreezeShard", fn := fun _ => fun
  | [d1, d2, d3] => { results := [.lit (.bool false)], args := [d1, d2, d3] }
  | _ => none }
def FnExactFreezeShardWrongFalsely : Prop := fnExactFreezeShardRow.holds Try.pinned (OpenSpec.ofChange fnExactFreezeShardWrong)

/-- 'laws.FnExactHandSend': WHATEVER THE INPUT: true; the input reads as it did. -/
def fnExactHandSendSpec : ChangeSpec := { name := "fnExactHandSend", fn := fun _ => fun
  | [d1, d2] => { results := [.lit (.bool true)], args := [d1, d2] }
  | _ => none }
def fnExactHandSendRow : OpenClaim := { program := "ytlfepembgjjejaa", sum := "b9baa7c941dedab6d2377513f35e4ea60b789f0a54e975006cb6de901d4ddcea", func := "loop.example/g00138/laws.FnExactHandSend", spec := "fnExactHandSend", inPlace := ["math/bits.Add64"], unfollowed := true, recurses := true, apart := false }
def FnExactHandSendSaid : Prop := fnExactHandSendRow.holds Try.pinned (OpenSpec.ofChange fnExactHandSendSpec)

/-- ITS FALSE NEIGHBOUR: 'it returns false'. Refute it at one input. -/
def fnExactHandSendWrong : ChangeSpec := { name := "fnExactHandSend", fn := fun _ => fun
  | [d1, d2] => { results := [.lit (.bool false)], args := [d1, d2] }
  | _ => none }
def FnExactHandSendWrongFalsely : Prop := fnExactHandSendRow.holds Try.pinned (OpenSpec.ofChange fnExactHandSendWrong)

/-- 'laws.FnExactInstallShard': WHATEVER THE INPUT: true; the input reads as it did. -/
def fnExactInstallShardSpec : ChangeSpec := { name := "fnExactInstallShard", fn := fun _ => fun
  | [d1, d2, d3] => { results := [.lit (.bool true)], args := [d1, d2, d3] }
  | _ => none }
def fnExactInstallShardRow : OpenClaim := { program := "ytlfepembgjjejaa", sum := "b9baa7c941dedab6d2377513f35e4ea60b789f0a54e975006cb6de901d4ddcea", func := "loop.example/g00138/laws.FnExactInstallShard", spec := "fnExactInstallShard", inPlace := ["math/bits.Add64", "slices.overlaps[loop.example/g00138/impl.Shard]"], apart := false }
def FnExactInstallShardSaid : Prop := fnExactInstallShardRow.holds Try.pinned (OpenSpec.ofChange fnExactInstallShardSpec)

/-- ITS FALSE NEIGHBOUR: 'it returns false'. Refute it at one input. -/
def fnExactInstallShardWrong : ChangeSpec := { name := "fnExactInstallShard", fn := fun _ => fun
  | [d1, d2, d3] => { results := [.lit (.bool false)], args := [d1, d2, d3] }
  | _ => none }
def FnExactInstallShardWrongFalsely : Prop := fnExactInstallShardRow.holds Try.pinned (OpenSpec.ofChange fnExactInstallShardWrong)

/-- 'laws.FnExactCutShard': WHATEVER THE INPUT: true; the input reads as it did. -/
def fnExactCutShardSpec : ChangeSpec := { name := "fnExactCutShard", fn := fun _ => fun
  | [d1, d2, d3] => { results := [.lit (.bool true)], args := [d1, d2, d3] }
  | _ => none }
def fnExactCutShardRow : OpenClaim := { program := "ytlfepembgjjejaa", sum := "b9baa7c941dedab6d2377513f35e4ea60b789f0a54e975006cb6de901d4ddcea", func := "loop.example/g00138/laws.FnExactCutShard", spec := "fnExactCutShard", inPlace := ["math/bits.Add64", "slices.overlaps[loop.example/g00138/impl.Shard]"], unfollowed := true, recurses := true, apart := false }
def FnExactCutShardSaid : Prop := fnExactCutShardRow.holds Try.pinned (OpenSpec.ofChange fnExactCutShardSpec)

/-- ITS FALSE NEIGHBOUR: 'it returns false'. Refute it at one input. -/
def fnExactCutShardWrong : ChangeSpec := { name := "fnExactCutShard", fn := fun _ => fun
  | [d1, d2, d3] => { results := [.lit (.bool false)], args := [d1, d2, d3] }
  | _ => none }
def FnExactCutShardWrongFalsely : Prop := fnExactCutShardRow.holds Try.pinned (OpenSpec.ofChange fnExactCutShardWrong)

/-- 'laws.FnExactHandTake': WHATEVER THE INPUT: true; the input reads as it did. -/
def fnExactHandTakeSpec : ChangeSpec := { name := "fnExactHandTake", fn := fun _ => fun
  | [d1, d2] => { results := [.lit (.bool true)], args := [d1, d2] }
  | _ => none }
def fnExactHandTakeRow : OpenClaim := { program := "ytlfepembgjjejaa", sum := "b9baa7c941dedab6d2377513f35e4ea60b789f0a54e975006cb6de901d4ddcea", func := "loop.example/g00138/laws.FnExactHandTake", spec := "fnExactHandTake", inPlace := ["math/bits.Add64", "slices.overlaps[loop.example/g00138/impl.Shard]"], unfollowed := true, recurses := true, apart := false }
def FnExactHandTakeSaid : Prop := fnExactHandTakeRow.holds Try.pinned (OpenSpec.ofChange fnExactHandTakeSpec)

/-- ITS FALSE NEIGHBOUR: 'it returns false'. Refute it at one input. -/
def fnExactHandTakeWrong : ChangeSpec := { name := "fnExactHandTake", fn := fun _ => fun
  | [d1, d2] => { results := [.lit (.bool false)], args := [d1, d2] }
  | _ => none }
def FnExactHandTakeWrongFalsely : Prop := fnExactHandTakeRow.holds Try.pinned (OpenSpec.ofChange fnExactHandTakeWrong)

/- THE SECOND FORM. 'bulk': how many values and letters a reading holds, each counted each time it is reached (what is shared counts as often as it is met; a slice's spare places count too). A statement '..UptoSaid' is the law's where the arguments, and the package variables that the reading takes, are together of bulk at most 1048576: NARROWER than '..Said'. Prove '..Said' where nothing that the law and all that it calls make is longer than what came in: it says more and counts as full. Else prove '..UptoSaid'. A law counts once. -/
mutual
def uptoBulk {H : Type} : DataW H → Nat
  | .lit (.string bytes) => bytes.length + 1
  | .lit _ => 1
  | .nil => 1
  | .ptr d => uptoBulk d + 1
  | .slice elems spare => uptoBulkAll elems + uptoBulkAll spare + 1
  | .agg parts => uptoBulkAll parts + 1
  | .iface _ d => uptoBulk d + 1
  | .map entries => uptoBulkEntries entries + 1
  | .held _ => 1
def uptoBulkAll {H : Type} : List (DataW H) → Nat
  | [] => 0
  | d :: r => uptoBulk d + uptoBulkAll r
def uptoBulkEntries {H : Type} : List (Lit × DataW H) → Nat
  | [] => 0
  | x :: r => uptoBulkEntry x + uptoBulkEntries r
def uptoBulkEntry {H : Type} : Lit × DataW H → Nat
  | (.string bytes, d) => bytes.length + uptoBulk d + 1
  | (_, d) => uptoBulk d + 1
 end
def uptoSmall : (H : Type) → List (DataW H) → Bool := fun _ ds => decide (uptoBulkAll ds ≤ 1048576)
def OpenSpec.upto (s : _root_.Go.ChangeSpec) : _root_.Go.OpenSpec := { _root_.Go.OpenSpec.ofChange s with cond := some uptoSmall }

/-- 'laws.FnExactHolders', WHERE WHAT IT READS IS OF BULK AT MOST 1048576: true; the input reads as it did. -/
def fnExactHoldersUptoRow : OpenClaim := { program := "ytlfepembgjjejaa", sum := "b9baa7c941dedab6d2377513f35e4ea60b789f0a54e975006cb6de901d4ddcea", func := "loop.example/g00138/laws.FnExactHolders", spec := "fnExactHolders", inPlace := ["math/bits.Add64"], unfollowed := true, recurses := true, apart := false, narrowed := true }
def FnExactHoldersUptoSaid : Prop := fnExactHoldersUptoRow.holds Try.pinned (OpenSpec.upto fnExactHoldersSpec)

/-- 'laws.FnExactRenewStore', WHERE WHAT IT READS IS OF BULK AT MOST 1048576: true; the input reads as it did. -/
def fnExactRenewStoreUptoRow : OpenClaim := { program := "ytlfepembgjjejaa", sum := "b9baa7c941dedab6d2377513f35e4ea60b789f0a54e975006cb6de901d4ddcea", func := "loop.example/g00138/laws.FnExactRenewStore", spec := "fnExactRenewStore", inPlace := ["math/bits.Add64"], apart := false, narrowed := true }
def FnExactRenewStoreUptoSaid : Prop := fnExactRenewStoreUptoRow.holds Try.pinned (OpenSpec.upto fnExactRenewStoreSpec)

/-- 'laws.FnExactDoLedger', WHERE WHAT IT READS IS OF BULK AT MOST 1048576: true; the input reads as it did. -/
def fnExactDoLedgerUptoRow : OpenClaim := { program := "ytlfepembgjjejaa", sum := "b9baa7c941dedab6d2377513f35e4ea60b789f0a54e975006cb6de901d4ddcea", func := "loop.example/g00138/laws.FnExactDoLedger", spec := "fnExactDoLedger", inPlace := ["math/bits.Add64", "slices.overlaps[loop.example/g00138/impl.Account]"], unfollowed := true, recurses := true, apart := false, narrowed := true }
def FnExactDoLedgerUptoSaid : Prop := fnExactDoLedgerUptoRow.holds Try.pinned (OpenSpec.upto fnExactDoLedgerSpec)

/-- 'laws.FnExactRetireShard', WHERE WHAT IT READS IS OF BULK AT MOST 1048576: true; the input reads as it did. -/
def fnExactRetireShardUptoRow : OpenClaim := { program := "ytlfepembgjjejaa", sum := "b9baa7c941dedab6d2377513f35e4ea60b789f0a54e975006cb6de901d4ddcea", func := "loop.example/g00138/laws.FnExactRetireShard", spec := "fnExactRetireShard", inPlace := ["math/bits.Add64"], unfollowed := true, recurses := true, apart := false, narrowed := true }
def FnExactRetireShardUptoSaid : Prop := fnExactRetireShardUptoRow.holds Try.pinned (OpenSpec.upto fnExactRetireShardSpec)

/-- 'laws.FnExactFreezeShard', WHERE WHAT IT READS IS OF BULK AT MOST 1048576: true; the input reads as it did. -/
def fnExactFreezeShardUptoRow : OpenClaim := { program := "ytlfepembgjjejaa", sum := "b9baa7c941dedab6d2377513f35e4ea60b789f0a54e975006cb6de901d4ddcea", func := "loop.example/g00138/laws.FnExactFreezeShard", spec := "fnExactFreezeShard", inPlace := ["math/bits.Add64"], unfollowed := true, recurses := true, apart := false, narrowed := true }
def FnExactFreezeShardUptoSaid : Prop := fnExactFreezeShardUptoRow.holds Try.pinned (OpenSpec.upto fnExactFreezeShardSpec)

/-- 'laws.FnExactHandSend', WHERE WHAT IT READS IS OF BULK AT MOST 1048576: true; the input reads as it did. -/
def fnExactHandSendUptoRow : OpenClaim := { program := "ytlfepembgjjejaa", sum := "b9baa7c941dedab6d2377513f35e4ea60b789f0a54e975006cb6de901d4ddcea", func := "loop.example/g00138/laws.FnExactHandSend", spec := "fnExactHandSend", inPlace := ["math/bits.Add64"], unfollowed := true, recurses := true, apart := false, narrowed := true }
def FnExactHandSendUptoSaid : Prop := fnExactHandSendUptoRow.holds Try.pinned (OpenSpec.upto fnExactHandSendSpec)

/-- 'laws.FnExactInstallShard', WHERE WHAT IT READS IS OF BULK AT MOST 1048576: true; the input reads as it did. -/
def fnExactInstallShardUptoRow : OpenClaim := { program := "ytlfepembgjjejaa", sum := "b9baa7c941dedab6d2377513f35e4ea60b789f0a54e975006cb6de901d4ddcea", func := "loop.example/g00138/laws.FnExactInstallShard", spec := "fnExactInstallShard", inPlace := ["math/bits.Add64", "slices.overlaps[loop.example/g00138/impl.Shard]"], apart := false, narrowed := true }
def FnExactInstallShardUptoSaid : Prop := fnExactInstallShardUptoRow.holds Try.pinned (OpenSpec.upto fnExactInstallShardSpec)

/-- 'laws.FnExactCutShard', WHERE WHAT IT READS IS OF BULK AT MOST 1048576: true; the input reads as it did. -/
def fnExactCutShardUptoRow : OpenClaim := { program := "ytlfepembgjjejaa", sum := "b9baa7c941dedab6d2377513f35e4ea60b789f0a54e975006cb6de901d4ddcea", func := "loop.example/g00138/laws.FnExactCutShard", spec := "fnExactCutShard", inPlace := ["math/bits.Add64", "slices.overlaps[loop.example/g00138/impl.Shard]"], unfollowed := true, recurses := true, apart := false, narrowed := true }
def FnExactCutShardUptoSaid : Prop := fnExactCutShardUptoRow.holds Try.pinned (OpenSpec.upto fnExactCutShardSpec)

/-- 'laws.FnExactHandTake', WHERE WHAT IT READS IS OF BULK AT MOST 1048576: true; the input reads as it did. -/
def fnExactHandTakeUptoRow : OpenClaim := { program := "ytlfepembgjjejaa", sum := "b9baa7c941dedab6d2377513f35e4ea60b789f0a54e975006cb6de901d4ddcea", func := "loop.example/g00138/laws.FnExactHandTake", spec := "fnExactHandTake", inPlace := ["math/bits.Add64", "slices.overlaps[loop.example/g00138/impl.Shard]"], unfollowed := true, recurses := true, apart := false, narrowed := true }
def FnExactHandTakeUptoSaid : Prop := fnExactHandTakeUptoRow.holds Try.pinned (OpenSpec.upto fnExactHandTakeSpec)

end Rows
end Go.Proofs.Ytlfepembgjjejaa
