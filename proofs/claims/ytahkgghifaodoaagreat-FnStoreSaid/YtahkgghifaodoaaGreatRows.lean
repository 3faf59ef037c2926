/-
  No cell of these rows narrows 'for every input' (looked for: loops, veiled, ifaces, maps, wideKeys, modest, calm, conditions, laid).
  DERIVED. THE GIVEN ROWS OF THIS SEAT. 3 by the template 'for every input the law returns true; each argument reads behind the call as it read before'; 0 by the template 'total and deterministic' (their statements: YtahkgghifaodoaaGreatTotals.lean).
  GIVEN WITH THE SEED: the statements are not yours to turn. If you find one false, say at which input.
  Laid BY PROGRAM, IN A SANDBOX (cutbox-rows.mjs): the forced cells as the released guide's own fill.sh prints them over the translation 3ae0f78da007123e… (all of the seat's roots in one cut). By AI agents, Wed Nov 11 2026. No macro, syntax, notation, axiom, sorry.
-/
import Derived.Test.YtahkgghifaodoaaGreatChecked
import GoSem.Claim
import GoSem.ClaimJoined
import GoSem.ClaimMapViews
import Derived.JoinedTies
import Derived.KernelRfl
namespace Go.Proofs.YtahkgghifaodoaaGreat
/- THE CELL 'sum', in the pinned program and in every row, IS THE sha256 OF THE DUMP (.gsa) THAT YtahkgghifaodoaaGreatProg.lean LOADS. Nothing in Lean hashes anything: it is a label: what it is worth is what the hold of that sum in a sandbox is worth. -/
noncomputable def Tryz.pinned : Pinned := { name := "ytahkgghifaodoaagreat", sum := "3ae0f78da007123ea6d275dc47ab1c157192da374ad0be43ca720cdb3a64af63", checked := Tryz.checked }
namespace Rows
def none {H : Type} : Left H := { results := [], args := [] }

/-- 'laws.FnOver': WHATEVER THE INPUT: true; the input reads as it did. -/
def fnOverSpec : ChangeSpec := { name := "fnOver", fn := fun _ => fun
  | [d] => { results := [.lit (.bool true)], args := [d] }
  | _ => none }
def fnOverRow : OpenClaim := { program := "ytahkgghifaodoaagreat", sum := "3ae0f78da007123ea6d275dc47ab1c157192da374ad0be43ca720cdb3a64af63", func := "loop.example/g00138/laws.FnOver", spec := "fnOver", inPlace := ["math/bits.Add64", "slices.overlaps[loop.example/g00138/impl.Account]"], unfollowed := true, recurses := true, apart := false }
def FnOverSaid : Prop := fnOverRow.holds Tryz.pinned (OpenSpec.ofChange fnOverSpec)

/-- ITS FALSE NEIGHBOUR: 'it returns false'. Refute it at one input. -/
def fnOverWrong : ChangeSpec := { name := "fnOver", fn := fun _ => fun
  | [d] => { results := [.lit (.bool false)], args := [d] }
  | _ => none }
def FnOverWrongFalsely : Prop := fnOverRow.holds Tryz.pinned (OpenSpec.ofChange fnOverWrong)

/-- 'laws.FnStore': WHATEVER THE INPUT: true; the input reads as it did. -/
def fnStoreSpec : ChangeSpec := { name := "fnStore", fn := fun _ => fun
  | [d] => { results := [.lit (.bool true)], args := [d] }
  | _ => none }
def fnStoreRow : OpenClaim := { program := "ytahkgghifaodoaagreat", sum := "3ae0f78da007123ea6d275dc47ab1c157192da374ad0be43ca720cdb3a64af63", func := "loop.example/g00138/laws.FnStore", spec := "fnStore", inPlace := ["math/bits.Add64", "slices.overlaps[loop.example/g00138/impl.Account]"], unfollowed := true, recurses := true, apart := false }
def FnStoreSaid : Prop := fnStoreRow.holds Tryz.pinned (OpenSpec.ofChange fnStoreSpec)

/-- ITS FALSE NEIGHBOUR: 'it returns false'. Refute it at one input. -/
def fnStoreWrong : ChangeSpec := { name := "fnStore", fn := fun _ => fun
  | [d] => { results := [.lit (.bool false)], args := [d] }
  | _ => none }
def FnStoreWrongFalsely : Prop := fnStoreRow.holds Tryz.pinned (OpenSpec.ofChange fnStoreWrong)

/-- 'laws.FnExactDoStore': WHATEVER THE INPUT: true; the input reads as it did. -/
def fnExactDoStoreSpec : ChangeSpec := { name := "fnExactDoStore", fn := fun _ => fun
  | [d1, d2] => { results := [.lit (.bool true)], args := [d1, d2] }
  | _ => none }
def fnExactDoStoreRow : OpenClaim := { program := "ytahkgghifaodoaagreat", sum := "3ae0f78da007123ea6d275dc47ab1c157192da374ad0be43ca720cdb3a64af63", func := "loop.example/g00138/laws.FnExactDoStore", spec := "fnExactDoStore", inPlace := ["math/bits.Add64", "slices.overlaps[loop.example/g00138/impl.Account]"], unfollowed := true, recurses := true, apart := false }
def FnExactDoStoreSaid : Prop := fnExactDoStoreRow.holds Tryz.pinned (OpenSpec.ofChange fnExactDoStoreSpec)

/-- ITS FALSE NEIGHBOUR: 'it returns false'. Refute it at one input. -/
def fnExactDoStoreWrong : ChangeSpec := { name := "fnExactDoStore", fn := fun _ => fun
  | [d1, d2] => { results := [.lit (.bool false)], args := [d1, d2] }
  | _ => none }
def FnExactDoStoreWrongFalsely : Prop := fnExactDoStoreRow.holds Tryz.pinned (OpenSpec.ofChange fnExactDoStoreWrong)

/- THE SECOND FORM. 'bulk': how many values and letters a reading holds, each counted each time it is reached (what is shared counts as often as it is met; a slice's spare places count too). A statement '..UptoSaid' is the law's where the arguments, and the package variables that the reading takes, are together of bulk at most 1048576: NARROWER than '..Said'. Prove '..Said' where nothing that the law and all that it calls make is longer than what came in: it says more and counts as full. Else prove '..UptoSaid'. A law counts once. -/
mutual
def uptoBulk {H : Type} : DataW H → Nat
  | .lit (.string bytes) => bytes.length + 1
  | .lit _ => 1
  | .nil => 1
  | .ptr d => uptoBulk d + 1
  | .slice elems spare => uptoBulkAll elems + uptoBulkAll spare + 1
  | .agg parts => uptoBulkAll parts + 1
  | .iface _ d => uptoBulk d + 1
  | .map entries => uptoBulkEntries entries + 1
  | .held _ => 1
def uptoBulkAll {H : Type} : List (DataW H) → Nat
  | [] => 0
  | d :: r => uptoBulk d + uptoBulkAll r
def uptoBulkEntries {H : Type} : List (Lit × DataW H) → Nat
  | [] => 0
  | x :: r => uptoBulkEntry x + uptoBulkEntries r
def uptoBulkEntry {H : Type} : Lit × DataW H → Nat
  | (.string bytes, d) => bytes.length + uptoBulk d + 1
  | (_, d) => uptoBulk d + 1
 end
def uptoSmall : (H : Type) → List (DataW H) → Bool := fun _ ds => decide (uptoBulkAll ds ≤ 1048576)
def OpenSpec.upto (s : _root_.Go.ChangeSpec) : _root_.Go.OpenSpec := { _root_.Go.OpenSpec.ofChange s with cond := some uptoSmall }

/-- 'laws.FnOver', WHERE WHAT IT READS IS OF BULK AT MOST 1048576: true; the input reads as it did. -/
def fnOverUptoRow : OpenClaim := { program := "ytahkgghifaodoaagreat", sum := "3ae0f78da007123ea6d275dc47ab1c157192da374ad0be43ca720cdb3a64af63", func := "loop.example/g00138/laws.FnOver", spec := "fnOver", inPlace := ["math/bits.Add64", "slices.overlaps[loop.example/g00138/impl.Account]"], unfollowed := true, recurses := true, apart := false, narrowed := true }
def FnOverUptoSaid : Prop := fnOverUptoRow.holds Tryz.pinned (OpenSpec.upto fnOverSpec)

/-- 'laws.FnStore', WHERE WHAT IT READS IS OF BULK AT MOST 1048576: true; the input reads as it did. -/
def fnStoreUptoRow : OpenClaim := { program := "ytahkgghifaodoaagreat", sum := "3ae0f78da007123ea6d275dc47ab1c157192da374ad0be43ca720cdb3a64af63", func := "loop.example/g00138/laws.FnStore", spec := "fnStore", inPlace := ["math/bits.Add64", "slices.overlaps[loop.example/g00138/impl.Account]"], unfollowed := true, recurses := true, apart := false, narrowed := true }
def FnStoreUptoSaid : Prop := fnStoreUptoRow.holds Tryz.pinned (OpenSpec.upto fnStoreSpec)

/-- 'laws.FnExactDoStore', WHERE WHAT IT READS IS OF BULK AT MOST 1048576: true; the input reads as it did. -/
def fnExactDoStoreUptoRow : OpenClaim := { program := "ytahkgghifaodoaagreat", sum := "3ae0f78da007123ea6d275dc47ab1c157192da374ad0be43ca720cdb3a64af63", func := "loop.example/g00138/laws.FnExactDoStore", spec := "fnExactDoStore", inPlace := ["math/bits.Add64", "slices.overlaps[loop.example/g00138/impl.Account]"], unfollowed := true, recurses := true, apart := false, narrowed := true }
def FnExactDoStoreUptoSaid : Prop := fnExactDoStoreUptoRow.holds Tryz.pinned (OpenSpec.upto fnExactDoStoreSpec)

end Rows
end Go.Proofs.YtahkgghifaodoaaGreat
