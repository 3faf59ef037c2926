/- What the converters of Hand compute. -/
import Derived.Test.YtgogajbfiocdbaaTHand
import Derived.Test.YtgogajbfiocdbaaGLHand
namespace Go.Proofs.Ytgogajbfiocdbaa.A
open Go
set_option linter.unusedSimpArgs false
set_option linter.unusedVariables false
section
variable {F : Nat → Option RF} {Z : CallF} {h : Heap} {x y : Cell} {xs ys : List Hand} {fp fq : List Nat}
def Hand.zero : List Cell := [.int .u64 0, .int .i64 0, .int .i64 0, .int .i64 0, .int .i64 0]
set_option maxHeartbeats 1000000 in
theorem eqHand_run (hL : Has F tLHand) (p q : Hand) (h : Heap) : call F Z 86 [.agg p.enc, .agg q.enc] h = some (.c (.bool (decide (p = q))), h) := by
  rw [call_run F Z (hL.lk (g := 86) rfl) _ _ rfl]
  obtain ⟨lo1, from_1, to1, epoch1, phase1⟩ := p
  obtain ⟨lo2, from_2, to2, epoch2, phase2⟩ := q
  simp only [Hand.enc, run0, run1, run2, run3, run4, noSlot, memN, RO.dst, lk, drop, forget, number, Nat.reduceBEq, cut?, splice?, builds, List.length_cons, List.length_nil, List.drop_succ_cons, List.drop_zero, List.take_succ_cons, List.take_zero, List.cons_append, List.nil_append, List.append_nil, List.drop_nil, List.take_nil, Nat.reduceAdd, Nat.reduceLeDiff, Nat.zero_add, Nat.add_zero, ↓reduceIte, Bool.not_true, Bool.not_false, decide_true, decide_false, eq_self, bne_self_eq_false, List.getElem?_cons_zero, List.getElem?_cons_succ, decide_eq_true_eq, Bool.false_eq_true, Bool.true_eq_false, reduceCtorEq, Nat.le_refl]
  (repeat' ((first | (rw [gF_if]; split) | (rw [condC_if]; split) | (rw [pickR_if]; split)) <;> (rename_i hh; (try simp only [Bool.not_eq_true, decide_eq_true_eq] at hh); simp only [hh, run0, run1, run2, run3, run4, noSlot, memN, RO.dst, lk, drop, forget, number, Nat.reduceBEq, cut?, splice?, builds, List.length_cons, List.length_nil, List.drop_succ_cons, List.drop_zero, List.take_succ_cons, List.take_zero, List.cons_append, List.nil_append, List.append_nil, List.drop_nil, List.take_nil, Nat.reduceAdd, Nat.reduceLeDiff, Nat.zero_add, Nat.add_zero, ↓reduceIte, Bool.not_true, Bool.not_false, decide_true, decide_false, eq_self, bne_self_eq_false, List.getElem?_cons_zero, List.getElem?_cons_succ, decide_eq_true_eq, Bool.false_eq_true, Bool.true_eq_false, reduceCtorEq, Nat.le_refl]))) <;> refine fin_bool ?_ <;> simp_all
theorem eqHand_lit (hL : Has F tLHand) (lo1 from_1 to1 epoch1 phase1 lo2 from_2 to2 epoch2 phase2 : Int) (h : Heap) : call F Z 86 [.agg [.int .u64 lo1, .int .i64 from_1, .int .i64 to1, .int .i64 epoch1, .int .i64 phase1], .agg [.int .u64 lo2, .int .i64 from_2, .int .i64 to2, .int .i64 epoch2, .int .i64 phase2]] h = some (.c (.bool (decide ((⟨lo1, from_1, to1, epoch1, phase1⟩ : Hand) = ⟨lo2, from_2, to2, epoch2, phase2⟩))), h) := eqHand_run hL ⟨lo1, from_1, to1, epoch1, phase1⟩ ⟨lo2, from_2, to2, epoch2, phase2⟩ h
end
end Go.Proofs.Ytgogajbfiocdbaa.A
