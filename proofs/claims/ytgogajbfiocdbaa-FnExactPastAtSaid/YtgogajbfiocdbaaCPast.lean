/- What the functions of a call's record compute. -/
import Derived.Test.YtgogajbfiocdbaaCB
import Derived.Test.YtgogajbfiocdbaaD
import Derived.Test.YtgogajbfiocdbaaGI17
import Derived.Test.YtgogajbfiocdbaaGLPast
import Derived.Test.YtgogajbfiocdbaaGLLedgerCall
import Derived.Test.YtgogajbfiocdbaaGS17
namespace Go.Proofs.Ytgogajbfiocdbaa.A
open Go
set_option linter.unusedSimpArgs false
set_option linter.unusedVariables false
structure Past where
  kind : Int
  a : Int
  b : Int
  m : Int
  start : Int
  end_ : Int
  code : Int
  value : Int
  deriving DecidableEq
def Past.enc (p : Past) : List Cell := [.int .i64 p.kind, .int .u64 p.a, .int .u64 p.b, .int .u64 p.m, .int .i64 p.start, .int .i64 p.end_, .int .i64 p.code, .int .u64 p.value]
theorem Past.len (t : Past) : t.enc.length = 8 := rfl
theorem Past.tak (t : Past) : t.enc.take 8 = t.enc := rfl
theorem Wf.past {h : Heap} {n : Nat} {cs : List Cell} (w : Wf h (n + 3) shPast cs) : ∃ kind a b m start end_ code value, cs = [.int .i64 kind, .int .u64 a, .int .u64 b, .int .u64 m, .int .i64 start, .int .i64 end_, .int .i64 code, .int .u64 value] := by
  obtain ⟨_, _, rfl, _, ⟨_, _, rfl, _, ⟨k, rfl, _⟩, _, _, rfl, _, ⟨a, rfl, _⟩, _, _, rfl, _, ⟨b, rfl, _⟩, _, _, rfl, _, ⟨m, rfl, _⟩, rfl⟩, _, _, rfl, _, ⟨s, rfl, _⟩, _, _, rfl, _, ⟨e, rfl, _⟩, _, _, rfl, _, ⟨c, rfl, _⟩, _, _, rfl, _, ⟨v, rfl, _⟩, rfl⟩ := w
  exact ⟨k, a, b, m, s, e, c, v, rfl⟩
section
variable {F : Nat → Option RF} {Z : CallF}
theorem toLedgerCall_run (hL : Has F tLLedgerCall) (kind a b m : Int) (h : Heap) : call F Z 26 [.agg [.int .i64 kind, .int .u64 a, .int .u64 b, .int .u64 m]] h = some (.agg [.int .i64 kind, .int .u64 a, .int .u64 b, .int .u64 m], h) := by
  rw [call_run F Z (hL.lk (g := 26) rfl) _ _ rfl]
  simp only [run0, run1, run2, run3, run4, noSlot, memN, RO.dst, lk, drop, forget, number, Nat.reduceBEq, cond_true, cond_false, Option.bind_some, cut?, splice?, builds, List.length_cons, List.length_nil, List.drop_succ_cons, List.drop_zero, List.take_succ_cons, List.take_zero, List.cons_append, List.nil_append, List.append_nil, List.drop_nil, List.take_nil, Nat.reduceAdd, Nat.reduceLeDiff, Nat.zero_add, Nat.add_zero, ↓reduceIte, Bool.not_true, Bool.not_false, decide_true, decide_false, eq_self, bne_self_eq_false, List.getElem?_cons_zero, List.getElem?_cons_succ, decide_eq_true_eq, Bool.false_eq_true, Bool.true_eq_false, reduceCtorEq, Nat.le_refl]
theorem toPast_run (hL : Has F tLPast) (hLL : Has F tLLedgerCall) (kind a b m start end_ code value : Int) (h : Heap) : call F Z 9 [.agg [.int .i64 kind, .int .u64 a, .int .u64 b, .int .u64 m, .int .i64 start, .int .i64 end_, .int .i64 code, .int .u64 value]] h = some (.agg [.int .i64 kind, .int .u64 a, .int .u64 b, .int .u64 m, .int .i64 start, .int .i64 end_, .int .i64 code, .int .u64 value], h) := by
  rw [call_run F Z (hL.lk (g := 9) rfl) _ _ rfl]
  simp only [run0, run1, run2, run3, run4, noSlot, memN, RO.dst, lk, drop, forget, number, Nat.reduceBEq, cond_true, cond_false, Option.bind_some, cut?, splice?, builds, List.length_cons, List.length_nil, List.drop_succ_cons, List.drop_zero, List.take_succ_cons, List.take_zero, List.cons_append, List.nil_append, List.append_nil, List.drop_nil, List.take_nil, Nat.reduceAdd, Nat.reduceLeDiff, Nat.zero_add, Nat.add_zero, ↓reduceIte, Bool.not_true, Bool.not_false, decide_true, decide_false, eq_self, bne_self_eq_false, List.getElem?_cons_zero, List.getElem?_cons_succ, decide_eq_true_eq, Bool.false_eq_true, Bool.true_eq_false, reduceCtorEq, Nat.le_refl, toLedgerCall_run hLL]
def aheadB (end_ start' : Int) : Bool := (end_ != -1) && decide (end_ < start')
theorem ahead_run (hI17 : Has F tI17) (kind a b m start end_ code value : Int) (kind' a' b' m' start' end_' code' value' : Int) (h : Heap) : call F Z 27 [.agg [.int .i64 kind, .int .u64 a, .int .u64 b, .int .u64 m, .int .i64 start, .int .i64 end_, .int .i64 code, .int .u64 value], .agg [.int .i64 kind', .int .u64 a', .int .u64 b', .int .u64 m', .int .i64 start', .int .i64 end_', .int .i64 code', .int .u64 value']] h = some (.c (.bool (aheadB end_ start')), h) := by
  rw [call_run F Z (hI17.lk (g := 27) rfl) _ _ rfl]
  simp only [run0, run1, run2, run3, run4, noSlot, memN, RO.dst, lk, drop, forget, number, Nat.reduceBEq, cond_true, cond_false, Option.bind_some, cut?, splice?, builds, List.length_cons, List.length_nil, List.drop_succ_cons, List.drop_zero, List.take_succ_cons, List.take_zero, List.cons_append, List.nil_append, List.append_nil, List.drop_nil, List.take_nil, Nat.reduceAdd, Nat.reduceLeDiff, Nat.zero_add, Nat.add_zero, ↓reduceIte, Bool.not_true, Bool.not_false, decide_true, decide_false, eq_self, bne_self_eq_false, List.getElem?_cons_zero, List.getElem?_cons_succ, decide_eq_true_eq, Bool.false_eq_true, Bool.true_eq_false, reduceCtorEq, Nat.le_refl]
  (repeat' ((first | (rw [gF_if]; split) | (rw [condC_if]; split) | (rw [pickR_if]; split)) <;> (rename_i hh; (try simp only [Bool.not_eq_true, decide_eq_true_eq] at hh); simp only [hh, run0, run1, run2, run3, run4, noSlot, memN, RO.dst, lk, drop, forget, number, Nat.reduceBEq, cond_true, cond_false, Option.bind_some, cut?, splice?, builds, List.length_cons, List.length_nil, List.drop_succ_cons, List.drop_zero, List.take_succ_cons, List.take_zero, List.cons_append, List.nil_append, List.append_nil, List.drop_nil, List.take_nil, Nat.reduceAdd, Nat.reduceLeDiff, Nat.zero_add, Nat.add_zero, ↓reduceIte, Bool.not_true, Bool.not_false, decide_true, decide_false, eq_self, bne_self_eq_false, List.getElem?_cons_zero, List.getElem?_cons_succ, decide_eq_true_eq, Bool.false_eq_true, Bool.true_eq_false, reduceCtorEq, Nat.le_refl]))) <;> refine fin_bool ?_ <;> simp_all [aheadB]
theorem Ahead_run (hI17 : Has F tI17) (kind a b m start end_ code value : Int) (kind' a' b' m' start' end_' code' value' : Int) (h : Heap) : call F Z 11 [.agg [.int .i64 kind, .int .u64 a, .int .u64 b, .int .u64 m, .int .i64 start, .int .i64 end_, .int .i64 code, .int .u64 value], .agg [.int .i64 kind', .int .u64 a', .int .u64 b', .int .u64 m', .int .i64 start', .int .i64 end_', .int .i64 code', .int .u64 value']] h = some (.c (.bool (aheadB end_ start')), h) := by
  rw [call_run F Z (hI17.lk (g := 11) rfl) _ _ rfl]
  simp only [run0, run1, run2, run3, run4, noSlot, memN, RO.dst, lk, drop, forget, number, Nat.reduceBEq, cond_true, cond_false, Option.bind_some, cut?, splice?, builds, List.length_cons, List.length_nil, List.drop_succ_cons, List.drop_zero, List.take_succ_cons, List.take_zero, List.cons_append, List.nil_append, List.append_nil, List.drop_nil, List.take_nil, Nat.reduceAdd, Nat.reduceLeDiff, Nat.zero_add, Nat.add_zero, ↓reduceIte, Bool.not_true, Bool.not_false, decide_true, decide_false, eq_self, bne_self_eq_false, List.getElem?_cons_zero, List.getElem?_cons_succ, decide_eq_true_eq, Bool.false_eq_true, Bool.true_eq_false, reduceCtorEq, Nat.le_refl, ahead_run hI17]
theorem sAhead_run (hS17 : Has F tS17) (kind a b m start end_ code value : Int) (kind' a' b' m' start' end_' code' value' : Int) (h : Heap) : call F Z 10 [.agg [.int .i64 kind, .int .u64 a, .int .u64 b, .int .u64 m, .int .i64 start, .int .i64 end_, .int .i64 code, .int .u64 value], .agg [.int .i64 kind', .int .u64 a', .int .u64 b', .int .u64 m', .int .i64 start', .int .i64 end_', .int .i64 code', .int .u64 value']] h = some (.c (.bool (aheadB end_ start')), h) := by
  rw [call_run F Z (hS17.lk (g := 10) rfl) _ _ rfl]
  simp only [run0, run1, run2, run3, run4, noSlot, memN, RO.dst, lk, drop, forget, number, Nat.reduceBEq, cond_true, cond_false, Option.bind_some, cut?, splice?, builds, List.length_cons, List.length_nil, List.drop_succ_cons, List.drop_zero, List.take_succ_cons, List.take_zero, List.cons_append, List.nil_append, List.append_nil, List.drop_nil, List.take_nil, Nat.reduceAdd, Nat.reduceLeDiff, Nat.zero_add, Nat.add_zero, ↓reduceIte, Bool.not_true, Bool.not_false, decide_true, decide_false, eq_self, bne_self_eq_false, List.getElem?_cons_zero, List.getElem?_cons_succ, decide_eq_true_eq, Bool.false_eq_true, Bool.true_eq_false, reduceCtorEq, Nat.le_refl]
  (repeat' ((first | (rw [gF_if]; split) | (rw [condC_if]; split) | (rw [pickR_if]; split)) <;> (rename_i hh; (try simp only [Bool.not_eq_true, decide_eq_true_eq] at hh); simp only [hh, run0, run1, run2, run3, run4, noSlot, memN, RO.dst, lk, drop, forget, number, Nat.reduceBEq, cond_true, cond_false, Option.bind_some, cut?, splice?, builds, List.length_cons, List.length_nil, List.drop_succ_cons, List.drop_zero, List.take_succ_cons, List.take_zero, List.cons_append, List.nil_append, List.append_nil, List.drop_nil, List.take_nil, Nat.reduceAdd, Nat.reduceLeDiff, Nat.zero_add, Nat.add_zero, ↓reduceIte, Bool.not_true, Bool.not_false, decide_true, decide_false, eq_self, bne_self_eq_false, List.getElem?_cons_zero, List.getElem?_cons_succ, decide_eq_true_eq, Bool.false_eq_true, Bool.true_eq_false, reduceCtorEq, Nat.le_refl]))) <;> refine fin_bool ?_ <;> simp_all [aheadB]
end
end Go.Proofs.Ytgogajbfiocdbaa.A
