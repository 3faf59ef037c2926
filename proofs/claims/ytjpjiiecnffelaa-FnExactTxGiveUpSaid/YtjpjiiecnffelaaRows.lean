/-
  No cell of these rows narrows 'for every input' (looked for: loops, veiled, ifaces, maps, wideKeys, modest, calm, conditions, laid).
  DERIVED. THE GIVEN ROWS OF THIS SEAT. 6 by the template 'for every input the law returns true; each argument reads behind the call as it read before'; 0 by the template 'total and deterministic' (their statements: YtjpjiiecnffelaaTotals.lean).
  GIVEN WITH THE SEED: the statements are not yours to turn. If you find one false, say at which input.
  Laid BY PROGRAM, IN A SANDBOX (cutbox-rows.mjs): the forced cells as the released guide's own fill.sh prints them over the translation 8ad4e96a47a2cf64… (all of the seat's roots in one cut). By AI agents, Wed Nov 11 2026. No macro, syntax, notation, axiom, sorry.
-/
import Derived.Test.YtjpjiiecnffelaaChecked
import GoSem.Claim
import GoSem.ClaimJoined
import GoSem.ClaimMapViews
import Derived.JoinedTies
import Derived.KernelRfl
namespace Go.Proofs.Ytjpjiiecnffelaa
/- THE CELL 'sum', in the pinned program and in every row, IS THE sha256 OF THE DUMP (.gsa) THAT YtjpjiiecnffelaaProg.lean LOADS. Nothing in Lean hashes anything: it is a label: what it is worth is what the hold of that sum in a sandbox is worth. -/
noncomputable def Try.pinned : Pinned := { name := "ytjpjiiecnffelaa", sum := "8ad4e96a47a2cf64281b531e4deaa965ec008d9a5470da51fb28bbef7a7c8b05", checked := Try.checked }
namespace Rows
def none {H : Type} : Left H := { results := [], args := [] }

/-- 'laws.FnExactHandOk': WHATEVER THE INPUT: true; the input reads as it did. -/
def fnExactHandOkSpec : ChangeSpec := { name := "fnExactHandOk", fn := fun _ => fun
  | [d] => { results := [.lit (.bool true)], args := [d] }
  | _ => none }
def fnExactHandOkRow : OpenClaim := { program := "ytjpjiiecnffelaa", sum := "8ad4e96a47a2cf64281b531e4deaa965ec008d9a5470da51fb28bbef7a7c8b05", func := "loop.example/g00138/laws.FnExactHandOk", spec := "fnExactHandOk", apart := false }
def FnExactHandOkSaid : Prop := fnExactHandOkRow.holds Try.pinned (OpenSpec.ofChange fnExactHandOkSpec)

/-- ITS FALSE NEIGHBOUR: 'it returns false'. Refute it at one input. -/
def fnExactHandOkWrong : ChangeSpec := { name := "fnExactHandOk", fn := fun _ => fun
  | [d] => { results := [.lit (.bool false)], args := [d] }
  | _ => none }
def FnExactHandOkWrongFalsely : Prop := fnExactHandOkRow.holds Try.pinned (OpenSpec.ofChange fnExactHandOkWrong)

/-- 'laws.FnExactAhead': WHATEVER THE INPUT: true; the input reads as it did. -/
def fnExactAheadSpec : ChangeSpec := { name := "fnExactAhead", fn := fun _ => fun
  | [d1, d2] => { results := [.lit (.bool true)], args := [d1, d2] }
  | _ => none }
def fnExactAheadRow : OpenClaim := { program := "ytjpjiiecnffelaa", sum := "8ad4e96a47a2cf64281b531e4deaa965ec008d9a5470da51fb28bbef7a7c8b05", func := "loop.example/g00138/laws.FnExactAhead", spec := "fnExactAhead", apart := false }
def FnExactAheadSaid : Prop := fnExactAheadRow.holds Try.pinned (OpenSpec.ofChange fnExactAheadSpec)

/-- ITS FALSE NEIGHBOUR: 'it returns false'. Refute it at one input. -/
def fnExactAheadWrong : ChangeSpec := { name := "fnExactAhead", fn := fun _ => fun
  | [d1, d2] => { results := [.lit (.bool false)], args := [d1, d2] }
  | _ => none }
def FnExactAheadWrongFalsely : Prop := fnExactAheadRow.holds Try.pinned (OpenSpec.ofChange fnExactAheadWrong)

/-- 'laws.FnExactTxOk': WHATEVER THE INPUT: true; the input reads as it did. -/
def fnExactTxOkSpec : ChangeSpec := { name := "fnExactTxOk", fn := fun _ => fun
  | [d] => { results := [.lit (.bool true)], args := [d] }
  | _ => none }
def fnExactTxOkRow : OpenClaim := { program := "ytjpjiiecnffelaa", sum := "8ad4e96a47a2cf64281b531e4deaa965ec008d9a5470da51fb28bbef7a7c8b05", func := "loop.example/g00138/laws.FnExactTxOk", spec := "fnExactTxOk", apart := false }
def FnExactTxOkSaid : Prop := fnExactTxOkRow.holds Try.pinned (OpenSpec.ofChange fnExactTxOkSpec)

/-- ITS FALSE NEIGHBOUR: 'it returns false'. Refute it at one input. -/
def fnExactTxOkWrong : ChangeSpec := { name := "fnExactTxOk", fn := fun _ => fun
  | [d] => { results := [.lit (.bool false)], args := [d] }
  | _ => none }
def FnExactTxOkWrongFalsely : Prop := fnExactTxOkRow.holds Try.pinned (OpenSpec.ofChange fnExactTxOkWrong)

/-- 'laws.FnExactTxOutcome': WHATEVER THE INPUT: true; the input reads as it did. -/
def fnExactTxOutcomeSpec : ChangeSpec := { name := "fnExactTxOutcome", fn := fun _ => fun
  | [d] => { results := [.lit (.bool true)], args := [d] }
  | _ => none }
def fnExactTxOutcomeRow : OpenClaim := { program := "ytjpjiiecnffelaa", sum := "8ad4e96a47a2cf64281b531e4deaa965ec008d9a5470da51fb28bbef7a7c8b05", func := "loop.example/g00138/laws.FnExactTxOutcome", spec := "fnExactTxOutcome", apart := false }
def FnExactTxOutcomeSaid : Prop := fnExactTxOutcomeRow.holds Try.pinned (OpenSpec.ofChange fnExactTxOutcomeSpec)

/-- ITS FALSE NEIGHBOUR: 'it returns false'. Refute it at one input. -/
def fnExactTxOutcomeWrong : ChangeSpec := { name := "fnExactTxOutcome", fn := fun _ => fun
  | [d] => { results := [.lit (.bool false)], args := [d] }
  | _ => none }
def FnExactTxOutcomeWrongFalsely : Prop := fnExactTxOutcomeRow.holds Try.pinned (OpenSpec.ofChange fnExactTxOutcomeWrong)

/-- 'laws.FnExactNewTx': WHATEVER THE INPUT: true; the input reads as it did. -/
def fnExactNewTxSpec : ChangeSpec := { name := "fnExactNewTx", fn := fun _ => fun
  | [d1, d2, d3, d4] => { results := [.lit (.bool true)], args := [d1, d2, d3, d4] }
  | _ => none }
def fnExactNewTxRow : OpenClaim := { program := "ytjpjiiecnffelaa", sum := "8ad4e96a47a2cf64281b531e4deaa965ec008d9a5470da51fb28bbef7a7c8b05", func := "loop.example/g00138/laws.FnExactNewTx", spec := "fnExactNewTx", apart := false }
def FnExactNewTxSaid : Prop := fnExactNewTxRow.holds Try.pinned (OpenSpec.ofChange fnExactNewTxSpec)

/-- ITS FALSE NEIGHBOUR: 'it returns false'. Refute it at one input. -/
def fnExactNewTxWrong : ChangeSpec := { name := "fnExactNewTx", fn := fun _ => fun
  | [d1, d2, d3, d4] => { results := [.lit (.bool false)], args := [d1, d2, d3, d4] }
  | _ => none }
def FnExactNewTxWrongFalsely : Prop := fnExactNewTxRow.holds Try.pinned (OpenSpec.ofChange fnExactNewTxWrong)

/-- 'laws.FnExactTxGiveUp': WHATEVER THE INPUT: true; the input reads as it did. -/
def fnExactTxGiveUpSpec : ChangeSpec := { name := "fnExactTxGiveUp", fn := fun _ => fun
  | [d1, d2] => { results := [.lit (.bool true)], args := [d1, d2] }
  | _ => none }
def fnExactTxGiveUpRow : OpenClaim := { program := "ytjpjiiecnffelaa", sum := "8ad4e96a47a2cf64281b531e4deaa965ec008d9a5470da51fb28bbef7a7c8b05", func := "loop.example/g00138/laws.FnExactTxGiveUp", spec := "fnExactTxGiveUp", apart := false }
def FnExactTxGiveUpSaid : Prop := fnExactTxGiveUpRow.holds Try.pinned (OpenSpec.ofChange fnExactTxGiveUpSpec)

/-- ITS FALSE NEIGHBOUR: 'it returns false'. Refute it at one input. -/
def fnExactTxGiveUpWrong : ChangeSpec := { name := "fnExactTxGiveUp", fn := fun _ => fun
  | [d1, d2] => { results := [.lit (.bool false)], args := [d1, d2] }
  | _ => none }
def FnExactTxGiveUpWrongFalsely : Prop := fnExactTxGiveUpRow.holds Try.pinned (OpenSpec.ofChange fnExactTxGiveUpWrong)

/- THE SECOND FORM. 'bulk': how many values and letters a reading holds, each counted each time it is reached (what is shared counts as often as it is met; a slice's spare places count too). A statement '..UptoSaid' is the law's where the arguments, and the package variables that the reading takes, are together of bulk at most 1048576: NARROWER than '..Said'. Prove '..Said' where nothing that the law and all that it calls make is longer than what came in: it says more and counts as full. Else prove '..UptoSaid'. A law counts once. -/
mutual
def uptoBulk {H : Type} : DataW H → Nat
  | .lit (.string bytes) => bytes.length + 1
  | .lit _ => 1
  | .nil => 1
  | .ptr d => uptoBulk d + 1
  | .slice elems spare => uptoBulkAll elems + uptoBulkAll spare + 1
  | .agg parts => uptoBulkAll parts + 1
  | .iface _ d => uptoBulk d + 1
  | .map entries => uptoBulkEntries entries + 1
  | .held _ => 1
def uptoBulkAll {H : Type} : List (DataW H) → Nat
  | [] => 0
  | d :: r => uptoBulk d + uptoBulkAll r
def uptoBulkEntries {H : Type} : List (Lit × DataW H) → Nat
  | [] => 0
  | x :: r => uptoBulkEntry x + uptoBulkEntries r
def uptoBulkEntry {H : Type} : Lit × DataW H → Nat
  | (.string bytes, d) => bytes.length + uptoBulk d + 1
  | (_, d) => uptoBulk d + 1
 end
def uptoSmall : (H : Type) → List (DataW H) → Bool := fun _ ds => decide (uptoBulkAll ds ≤ 1048576)
def OpenSpec.upto (s : _root_.Go.ChangeSpec) : _root_.Go.OpenSpec := { _root_.Go.OpenSpec.ofChange s with cond := some uptoSmall }

/-- 'laws.FnExactHandOk', WHERE WHAT IT READS IS OF BULK AT MOST 1048576: true; the input reads as it did. -/
def fnExactHandOkUptoRow : OpenClaim := { program := "ytjpjiiecnffelaa", sum := "8ad4e96a47a2cf64281b531e4deaa965ec008d9a5470da51fb28bbef7a7c8b05", func := "loop.example/g00138/laws.FnExactHandOk", spec := "fnExactHandOk", apart := false, narrowed := true }
def FnExactHandOkUptoSaid : Prop := fnExactHandOkUptoRow.holds Try.pinned (OpenSpec.upto fnExactHandOkSpec)

/-- 'laws.FnExactAhead', WHERE WHAT IT READS IS OF BULK AT MOST 1048576: true; the input reads as it did. -/
def fnExactAheadUptoRow : OpenClaim := { program := "ytjpjiiecnffelaa", sum := "8ad4e96a47a2cf64281b531e4deaa965ec008d9a5470da51fb28bbef7a7c8b05", func := "loop.example/g00138/laws.FnExactAhead", spec := "fnExactAhead", apart := false, narrowed := true }
def FnExactAheadUptoSaid : Prop := fnExactAheadUptoRow.holds Try.pinned (OpenSpec.upto fnExactAheadSpec)

/-- 'laws.FnExactTxOk', WHERE WHAT IT READS IS OF BULK AT MOST 1048576: true; the input reads as it did. -/
def fnExactTxOkUptoRow : OpenClaim := { program := "ytjpjiiecnffelaa", sum := "8ad4e96a47a2cf64281b531e4deaa965ec008d9a5470da51fb28bbef7a7c8b05", func := "loop.example/g00138/laws.FnExactTxOk", spec := "fnExactTxOk", apart := false, narrowed := true }
def FnExactTxOkUptoSaid : Prop := fnExactTxOkUptoRow.holds Try.pinned (OpenSpec.upto fnExactTxOkSpec)

/-- 'laws.FnExactTxOutcome', WHERE WHAT IT READS IS OF BULK AT MOST 1048576: true; the input reads as it did. -/
def fnExactTxOutcomeUptoRow : OpenClaim := { program := "ytjpjiiecnffelaa", sum := "8ad4e96a47a2cf64281b531e4deaa965ec008d9a5470da51fb28bbef7a7c8b05", func := "loop.example/g00138/laws.FnExactTxOutcome", spec := "fnExactTxOutcome", apart := false, narrowed := true }
def FnExactTxOutcomeUptoSaid : Prop := fnExactTxOutcomeUptoRow.holds Try.pinned (OpenSpec.upto fnExactTxOutcomeSpec)

/-- 'laws.FnExactNewTx', WHERE WHAT IT READS IS OF BULK AT MOST 1048576: true; the input reads as it did. -/
def fnExactNewTxUptoRow : OpenClaim := { program := "ytjpjiiecnffelaa", sum := "8ad4e96a47a2cf64281b531e4deaa965ec008d9a5470da51fb28bbef7a7c8b05", func := "loop.example/g00138/laws.FnExactNewTx", spec := "fnExactNewTx", apart := false, narrowed := true }
def FnExactNewTxUptoSaid : Prop := fnExactNewTxUptoRow.holds Try.pinned (OpenSpec.upto fnExactNewTxSpec)

/-- 'laws.FnExactTxGiveUp', WHERE WHAT IT READS IS OF BULK AT MOST 1048576: true; the input reads as it did. -/
def fnExactTxGiveUpUptoRow : OpenClaim := { program := "ytjpjiiecnffelaa", sum := "8ad4e96a47a2cf64281b531e4deaa965ec008d9a5470da51fb28bbef7a7c8b05", func := "loop.example/g00138/laws.FnExactTxGiveUp", spec := "fnExactTxGiveUp", apart := false, narrowed := true }
def FnExactTxGiveUpUptoSaid : Prop := fnExactTxGiveUpUptoRow.holds Try.pinned (OpenSpec.upto fnExactTxGiveUpSpec)

end Rows
end Go.Proofs.Ytjpjiiecnffelaa
