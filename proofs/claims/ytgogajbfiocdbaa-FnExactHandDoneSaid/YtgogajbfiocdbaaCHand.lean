/- What the functions of a hand-over's header compute: they are right just when each field lies in its bounds. -/
import Derived.Test.YtgogajbfiocdbaaCB
import Derived.Test.YtgogajbfiocdbaaGI11
import Derived.Test.YtgogajbfiocdbaaGI15
import Derived.Test.YtgogajbfiocdbaaGLHand
import Derived.Test.YtgogajbfiocdbaaGS01d
import Derived.Test.YtgogajbfiocdbaaGS15
namespace Go.Proofs.Ytgogajbfiocdbaa.A
open Go
set_option linter.unusedSimpArgs false
set_option linter.unusedVariables false
section
variable {F : Nat → Option RF} {Z : CallF}
def handOk (lo from_ to epoch phase : Int) : Bool := inR from_ 0 99 && inR to 0 99 && (from_ != to) && inR epoch 1 999999 && inR phase 0 3
theorem isHand_run (hI11 : AllT (fun x => F x.1 = some x.2) tI11) (hI15 : AllT (fun x => F x.1 = some x.2) tI15) (a b c d e : Int) (h : Heap) :
    call F Z 6 [.agg [.int .u64 a, .int .i64 b, .int .i64 c, .int .i64 d, .int .i64 e]] h = some (.c (.bool (handOk a b c d e)), h) := by
  rw [call_run F Z (hI15.lk (g := 6) rfl) _ _ rfl]
  simp only [run0, run1, run2, run3, run4, noSlot, memN, RO.dst, lk, drop, forget, number, Nat.reduceBEq, cut?, splice?, builds, List.length_cons, List.length_nil, List.drop_succ_cons, List.drop_zero, List.take_succ_cons, List.take_zero, List.cons_append, List.nil_append, List.append_nil, List.drop_nil, List.take_nil, Nat.reduceAdd, Nat.reduceLeDiff, Nat.zero_add, Nat.add_zero, ↓reduceIte, Bool.not_true, Bool.not_false, decide_true, decide_false, eq_self, bne_self_eq_false, List.getElem?_cons_zero, List.getElem?_cons_succ, decide_eq_true_eq, Bool.false_eq_true, Bool.true_eq_false, reduceCtorEq, Nat.le_refl, isGroupId_run hI11]
  (repeat' ((first | (rw [gF_if]; split) | (rw [condC_if]; split) | (rw [pickR_if]; split)) <;> (rename_i hh; (try simp only [Bool.not_eq_true, decide_eq_true_eq] at hh); simp only [hh, run0, run1, run2, run3, run4, noSlot, memN, RO.dst, lk, drop, forget, number, Nat.reduceBEq, cut?, splice?, builds, List.length_cons, List.length_nil, List.drop_succ_cons, List.drop_zero, List.take_succ_cons, List.take_zero, List.cons_append, List.nil_append, List.append_nil, List.drop_nil, List.take_nil, Nat.reduceAdd, Nat.reduceLeDiff, Nat.zero_add, Nat.add_zero, ↓reduceIte, Bool.not_true, Bool.not_false, decide_true, decide_false, eq_self, bne_self_eq_false, List.getElem?_cons_zero, List.getElem?_cons_succ, decide_eq_true_eq, Bool.false_eq_true, Bool.true_eq_false, reduceCtorEq, Nat.le_refl, isGroupId_run hI11]))) <;> refine fin_bool ?_ <;> simp_all [handOk, inR] <;> omega
theorem HandOk_run (hI11 : AllT (fun x => F x.1 = some x.2) tI11) (hI15 : AllT (fun x => F x.1 = some x.2) tI15) (a b c d e : Int) (h : Heap) :
    call F Z 4 [.agg [.int .u64 a, .int .i64 b, .int .i64 c, .int .i64 d, .int .i64 e]] h = some (.c (.bool (handOk a b c d e)), h) := by
  rw [call_run F Z (hI15.lk (g := 4) rfl) _ _ rfl]
  simp only [run0, run1, run2, run3, run4, noSlot, memN, RO.dst, lk, drop, forget, number, Nat.reduceBEq, cut?, splice?, builds, List.length_cons, List.length_nil, List.drop_succ_cons, List.drop_zero, List.take_succ_cons, List.take_zero, List.cons_append, List.nil_append, List.append_nil, List.drop_nil, List.take_nil, Nat.reduceAdd, Nat.reduceLeDiff, Nat.zero_add, Nat.add_zero, ↓reduceIte, Bool.not_true, Bool.not_false, decide_true, decide_false, eq_self, bne_self_eq_false, List.getElem?_cons_zero, List.getElem?_cons_succ, decide_eq_true_eq, Bool.false_eq_true, Bool.true_eq_false, reduceCtorEq, Nat.le_refl, isHand_run hI11 hI15]
theorem sHandOk_run (hS01d : AllT (fun x => F x.1 = some x.2) tS01d) (hS15 : AllT (fun x => F x.1 = some x.2) tS15) (a b c d e : Int) (h : Heap) :
    call F Z 3 [.agg [.int .u64 a, .int .i64 b, .int .i64 c, .int .i64 d, .int .i64 e]] h = some (.c (.bool (handOk a b c d e)), h) := by
  rw [call_run F Z (hS15.lk (g := 3) rfl) _ _ rfl]
  simp only [run0, run1, run2, run3, run4, noSlot, memN, RO.dst, lk, drop, forget, number, Nat.reduceBEq, cut?, splice?, builds, List.length_cons, List.length_nil, List.drop_succ_cons, List.drop_zero, List.take_succ_cons, List.take_zero, List.cons_append, List.nil_append, List.append_nil, List.drop_nil, List.take_nil, Nat.reduceAdd, Nat.reduceLeDiff, Nat.zero_add, Nat.add_zero, ↓reduceIte, Bool.not_true, Bool.not_false, decide_true, decide_false, eq_self, bne_self_eq_false, List.getElem?_cons_zero, List.getElem?_cons_succ, decide_eq_true_eq, Bool.false_eq_true, Bool.true_eq_false, reduceCtorEq, Nat.le_refl, l01In_run hS01d]
  (repeat' ((first | (rw [gF_if]; split) | (rw [condC_if]; split) | (rw [pickR_if]; split)) <;> (rename_i hh; (try simp only [Bool.not_eq_true, decide_eq_true_eq] at hh); simp only [hh, run0, run1, run2, run3, run4, noSlot, memN, RO.dst, lk, drop, forget, number, Nat.reduceBEq, cut?, splice?, builds, List.length_cons, List.length_nil, List.drop_succ_cons, List.drop_zero, List.take_succ_cons, List.take_zero, List.cons_append, List.nil_append, List.append_nil, List.drop_nil, List.take_nil, Nat.reduceAdd, Nat.reduceLeDiff, Nat.zero_add, Nat.add_zero, ↓reduceIte, Bool.not_true, Bool.not_false, decide_true, decide_false, eq_self, bne_self_eq_false, List.getElem?_cons_zero, List.getElem?_cons_succ, decide_eq_true_eq, Bool.false_eq_true, Bool.true_eq_false, reduceCtorEq, Nat.le_refl, l01In_run hS01d]))) <;> refine fin_bool ?_ <;> simp_all [handOk]
theorem toHand_run (hL : AllT (fun x => F x.1 = some x.2) tLHand) (a b c d e : Int) (h : Heap) :
    call F Z 2 [.agg [.int .u64 a, .int .i64 b, .int .i64 c, .int .i64 d, .int .i64 e]] h = some (.agg [.int .u64 a, .int .i64 b, .int .i64 c, .int .i64 d, .int .i64 e], h) := by
  rw [call_run F Z (hL.lk (g := 2) rfl) _ _ rfl]
  simp only [run0, run1, run2, run3, run4, noSlot, memN, RO.dst, lk, drop, forget, number, Nat.reduceBEq, cut?, splice?, builds, List.length_cons, List.length_nil, List.drop_succ_cons, List.drop_zero, List.take_succ_cons, List.take_zero, List.cons_append, List.nil_append, List.append_nil, List.drop_nil, List.take_nil, Nat.reduceAdd, Nat.reduceLeDiff, Nat.zero_add, Nat.add_zero, ↓reduceIte, Bool.not_true, Bool.not_false, decide_true, decide_false, eq_self, bne_self_eq_false, List.getElem?_cons_zero, List.getElem?_cons_succ, decide_eq_true_eq, Bool.false_eq_true, Bool.true_eq_false, reduceCtorEq, Nat.le_refl]
end
end Go.Proofs.Ytgogajbfiocdbaa.A
