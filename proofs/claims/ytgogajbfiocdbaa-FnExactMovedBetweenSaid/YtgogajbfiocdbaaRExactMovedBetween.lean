/- FnExactMovedBetween: the row's statement, from the law of the abstract run. No condition. -/
import Derived.Test.YtgogajbfiocdbaaRows
import Derived.Test.YtgogajbfiocdbaaKExactMovedBetween
import Derived.Test.YtgogajbfiocdbaaWExactMovedBetween
import Derived.ProofKit
import Derived.OpenShut
import Derived.ShutString
import Derived.ChangeOld
import Derived.Below
import Derived.SizedLaws
namespace Go.Proofs.Ytgogajbfiocdbaa.A.ExactMovedBetween
open Go Go.ChangeShapes Go.WideShapes Go.ChangeAt Go.RowKit
theorem own : ownKnob Try.prog.godebug = none := by kernel_rfl
set_option maxRecDepth 100000 in
theorem lifted (os : Os) (started : os.Started) (H : Type) (enc : TypeId × Value → H) :
    ReturnsInHanded {} Try.checked os 7 .any (Rows.fnExactMovedBetweenSpec.pre6 enc Try.prog Try.f7 Rows.fnExactMovedBetweenRow.domain false) (Rows.fnExactMovedBetweenSpec.post enc Try.prog Try.f7 false true false false) := by
  refine returnsInHanded_of_change_sized (C := Try.checked) own started (by kernel_rfl) Try.func7
    (ChangeSpec.witness6 (enc := enc) (C := Try.checked) false ⟨#[], #[.agg #[.int .i64 0, .slice none 0 0, .bool false, .int .u64 0, .int .i64 0], .agg #[.int .i64 0, .slice none 0 0, .bool false, .int .u64 0, .int .i64 0], .int .u64 0], []⟩ 8 (by kernel_rfl) (by kernel_rfl) (by kernel_rfl) (by kernel_rfl)) ?_
  intro W base args ds gs before hval hW _ _ _
  have hW' := hW
  obtain ⟨p, q, hA, hV, rfl, hfz, hnd⟩ := hW
  obtain ⟨rfl, rfl⟩ := trodVars_none hV
  have r0 : DataW.TrodAll enc Try.prog W 0 (fun _ => true) true [42, 42, 29] args.toList ds p := hA
  obtain ⟨_, _, d0, _, _, _, _, rfl, _, _, r1⟩ := trodAll_cons r0
  obtain ⟨_, _, d1, _, _, _, _, rfl, _, _, r2⟩ := trodAll_cons r1
  obtain ⟨_, _, d2, _, _, _, _, rfl, _, _, r3⟩ := trodAll_cons r2
  obtain ⟨_, rfl, _⟩ := trodAll_nil r3
  refine (law_calls (ts := [42, 42, 29]) (ss := [shChart, shChart, (.int .u64)]) prog (show (mkCfg Try.prog tab tags).G 72 = some 7 from by kernel_rfl) ⟨show shIs Try.prog (mkCfg Try.prog tab tags).ET (mkCfg Try.prog tab tags).SZ 8 42 shChart = true from by kernel_rfl, show shIs Try.prog (mkCfg Try.prog tab tags).ET (mkCfg Try.prog tab tags).SZ 8 42 shChart = true from by kernel_rfl, show shIs Try.prog (mkCfg Try.prog tab tags).ET (mkCfg Try.prog tab tags).SZ 8 29 (.int .u64) = true from by kernel_rfl, trivial⟩ (law_ExactMovedBetween inI11 inI12 inLChart inLRange inLibslicesIndexFuncimplRangeimplRange inS01d inS11 inS12 inWMovedBetween) (fun j t v h1 => hval j t v (by rw [Try.params7]; exact (List.getElem?_toArray ..).trans h1)) hA).mono fun e W' ⟨he, bel⟩ => ?_
  subst he
  exact ⟨_, rfl, _, _, _, [], _, [], hW', trodAll_mk1 (shut_bool Try.underlying4 _), trodAll_below (by kernel_rfl) bel _ _ _ _ (by kernel_rfl) hA hA.lt, rfl, bel.frame _, fun h => by cases h⟩
theorem over : Rows.fnExactMovedBetweenRow.holds Try.pinned (OpenSpec.ofChange Rows.fnExactMovedBetweenSpec) :=
  OpenClaim.holds_of_wide 7 Try.f7 rfl rfl rfl rfl rfl rfl rfl ⟨rfl, rfl, rfl, rfl, rfl⟩ rfl rfl rfl rfl rfl (by kernel_rfl) Try.func7 (by kernel_rfl)
    (of_decide_eq_true (by kernel_rfl)) (by unfold Func.isWrapper; first | (rw [if_pos (by decide +kernel)]; kernel_rfl) | (rw [if_neg (by decide +kernel)]; exact ⟨rfl, rfl⟩))
    (fun os started H enc _ => lifted os started H enc)
end Go.Proofs.Ytgogajbfiocdbaa.A.ExactMovedBetween
namespace Go.Proofs.Ytgogajbfiocdbaa
/-- The row. -/
theorem fnExactMovedBetween_holds : Rows.FnExactMovedBetweenSaid := A.ExactMovedBetween.over
#print axioms fnExactMovedBetween_holds
end Go.Proofs.Ytgogajbfiocdbaa
