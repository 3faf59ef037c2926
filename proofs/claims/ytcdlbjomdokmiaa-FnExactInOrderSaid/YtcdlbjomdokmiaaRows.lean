/-
  No cell of these rows narrows 'for every input' (looked for: loops, veiled, ifaces, maps, wideKeys, modest, calm, conditions, laid).
  DERIVED. THE GIVEN ROWS OF THIS SEAT. 2 by the template 'for every input the law returns true; each argument reads behind the call as it read before'; 0 by the template 'total and deterministic' (their statements: YtcdlbjomdokmiaaTotals.lean).
  GIVEN WITH THE SEED: the statements are not yours to turn. If you find one false, say at which input.
  Laid BY PROGRAM, IN A SANDBOX (cutbox-rows.mjs): the forced cells as the released guide's own fill.sh prints them over the translation f23e40209ab9321c… (all of the seat's roots in one cut). By AI agents, Wed Nov 11 2026. No macro, syntax, notation, axiom, sorry.
-/
import Derived.Test.YtcdlbjomdokmiaaChecked
import GoSem.Claim
import GoSem.ClaimJoined
import GoSem.ClaimMapViews
import Derived.JoinedTies
import Derived.KernelRfl
namespace Go.Proofs.Ytcdlbjomdokmiaa
/- THE CELL 'sum', in the pinned program and in every row, IS THE sha256 OF THE DUMP (.gsa) THAT YtcdlbjomdokmiaaProg.lean LOADS. Nothing in Lean hashes anything: it is a label: what it is worth is what the hold of that sum in a sandbox is worth. -/
noncomputable def Try.pinned : Pinned := { name := "ytcdlbjomdokmiaa", sum := "f23e40209ab9321ce2b886a3add025900a717946cc9d2bac21bac0c927143798", checked := Try.checked }
namespace Rows
def none {H : Type} : Left H := { results := [], args := [] }

/-- 'laws.FnExactPlayMap': WHATEVER THE INPUT: true; the input reads as it did. -/
def fnExactPlayMapSpec : ChangeSpec := { name := "fnExactPlayMap", fn := fun _ => fun
  | [d1, d2] => { results := [.lit (.bool true)], args := [d1, d2] }
  | _ => none }
def fnExactPlayMapRow : OpenClaim := { program := "ytcdlbjomdokmiaa", sum := "f23e40209ab9321ce2b886a3add025900a717946cc9d2bac21bac0c927143798", func := "loop.example/g00138/laws.FnExactPlayMap", spec := "fnExactPlayMap", inPlace := ["slices.overlaps[loop.example/g00138/impl.Range]"], unfollowed := true, recurses := true, apart := false }
def FnExactPlayMapSaid : Prop := fnExactPlayMapRow.holds Try.pinned (OpenSpec.ofChange fnExactPlayMapSpec)

/-- ITS FALSE NEIGHBOUR: 'it returns false'. Refute it at one input. -/
def fnExactPlayMapWrong : ChangeSpec := { name := "fnExactPlayMap", fn := fun _ => fun
  | [d1, d2] => { results := [.lit (.bool false)], args := [d1, d2] }
  | _ => none }
def FnExactPlayMapWrongFalsely : Prop := fnExactPlayMapRow.holds Try.pinned (OpenSpec.ofChange fnExactPlayMapWrong)

/-- 'laws.FnExactInOrder': WHATEVER THE INPUT: true; the input reads as it did. -/
def fnExactInOrderSpec : ChangeSpec := { name := "fnExactInOrder", fn := fun _ => fun
  | [d1, d2] => { results := [.lit (.bool true)], args := [d1, d2] }
  | _ => none }
def fnExactInOrderRow : OpenClaim := { program := "ytcdlbjomdokmiaa", sum := "f23e40209ab9321ce2b886a3add025900a717946cc9d2bac21bac0c927143798", func := "loop.example/g00138/laws.FnExactInOrder", spec := "fnExactInOrder", inPlace := ["math/bits.Add64", "slices.overlaps[loop.example/g00138/impl.Account]"], unfollowed := true, recurses := true, apart := false }
def FnExactInOrderSaid : Prop := fnExactInOrderRow.holds Try.pinned (OpenSpec.ofChange fnExactInOrderSpec)

/-- ITS FALSE NEIGHBOUR: 'it returns false'. Refute it at one input. -/
def fnExactInOrderWrong : ChangeSpec := { name := "fnExactInOrder", fn := fun _ => fun
  | [d1, d2] => { results := [.lit (.bool false)], args := [d1, d2] }
  | _ => none }
def FnExactInOrderWrongFalsely : Prop := fnExactInOrderRow.holds Try.pinned (OpenSpec.ofChange fnExactInOrderWrong)

/- THE SECOND FORM. 'bulk': how many values and letters a reading holds, each counted each time it is reached (what is shared counts as often as it is met; a slice's spare places count too). A statement '..UptoSaid' is the law's where the arguments, and the package variables that the reading takes, are together of bulk at most 1048576: NARROWER than '..Said'. Prove '..Said' where nothing that the law and all that it calls make is longer than what came in: it says more and counts as full. Else prove '..UptoSaid'. A law counts once. -/
mutual
def uptoBulk {H : Type} : DataW H → Nat
  | .lit (.string bytes) => bytes.length + 1
  | .lit _ => 1
  | .nil => 1
  | .ptr d => uptoBulk d + 1
  | .slice elems spare => uptoBulkAll elems + uptoBulkAll spare + 1
  | .agg parts => uptoBulkAll parts + 1
  | .iface _ d => uptoBulk d + 1
  | .map entries => uptoBulkEntries entries + 1
  | .held _ => 1
def uptoBulkAll {H : Type} : List (DataW H) → Nat
  | [] => 0
  | d :: r => uptoBulk d + uptoBulkAll r
def uptoBulkEntries {H : Type} : List (Lit × DataW H) → Nat
  | [] => 0
  | x :: r => uptoBulkEntry x + uptoBulkEntries r
def uptoBulkEntry {H : Type} : Lit × DataW H → Nat
  | (.string bytes, d) => bytes.length + uptoBulk d + 1
  | (_, d) => uptoBulk d + 1
 end
def uptoSmall : (H : Type) → List (DataW H) → Bool := fun _ ds => decide (uptoBulkAll ds ≤ 1048576)
def OpenSpec.upto (s : _root_.Go.ChangeSpec) : _root_.Go.OpenSpec := { _root_.Go.OpenSpec.ofChange s with cond := some uptoSmall }

/-- 'laws.FnExactPlayMap', WHERE WHAT IT READS IS OF BULK AT MOST 1048576: true; the input reads as it did. -/
def fnExactPlayMapUptoRow : OpenClaim := { program := "ytcdlbjomdokmiaa", sum := "f23e40209ab9321ce2b886a3add025900a717946cc9d2bac21bac0c927143798", func := "loop.example/g00138/laws.FnExactPlayMap", spec := "fnExactPlayMap", inPlace := ["slices.overlaps[loop.example/g00138/impl.Range]"], unfollowed := true, recurses := true, apart := false, narrowed := true }
def FnExactPlayMapUptoSaid : Prop := fnExactPlayMapUptoRow.holds Try.pinned (OpenSpec.upto fnExactPlayMapSpec)

/-- 'laws.FnExactInOrder', WHERE WHAT IT READS IS OF BULK AT MOST 1048576: true; the input reads as it did. -/
def fnExactInOrderUptoRow : OpenClaim := { program := "ytcdlbjomdokmiaa", sum := "f23e40209ab9321ce2b886a3add025900a717946cc9d2bac21bac0c927143798", func := "loop.example/g00138/laws.FnExactInOrder", spec := "fnExactInOrder", inPlace := ["math/bits.Add64", "slices.overlaps[loop.example/g00138/impl.Account]"], unfollowed := true, recurses := true, apart := false, narrowed := true }
def FnExactInOrderUptoSaid : Prop := fnExactInOrderUptoRow.holds Try.pinned (OpenSpec.upto fnExactInOrderSpec)

end Rows
end Go.Proofs.Ytcdlbjomdokmiaa
