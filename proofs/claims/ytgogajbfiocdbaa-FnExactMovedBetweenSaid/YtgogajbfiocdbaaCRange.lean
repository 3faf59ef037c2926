/- What the functions of ranges compute. -/
import Derived.Test.YtgogajbfiocdbaaVRange
import Derived.Test.YtgogajbfiocdbaaS3
import Derived.Test.YtgogajbfiocdbaaGS11
import Derived.Test.YtgogajbfiocdbaaGLibslicesIndexFuncimplRangeimplRange
namespace Go.Proofs.Ytgogajbfiocdbaa.A
open Go
set_option linter.unusedSimpArgs false
set_option linter.unusedVariables false
def Range.at_ (xs : List Range) (i : Nat) : Range := xs[i]?.getD Range.none_
def Range.fits (xs : List Range) (i : Nat) : Bool := decide ((Range.at_ xs i).lo ≤ (Range.at_ xs i).hi) && (inR (Range.at_ xs i).group 0 99 && (i == 0 || decide ((Range.at_ xs i).lo = (Range.at_ xs (i - 1)).hi + 1)))
/-- Are ranges all ids? -/
def rangesOk (xs : List Range) : Bool := inR xs.length 1 24 && ((Range.at_ xs 0).lo == 0 && ((Range.at_ xs (xs.length - 1)).hi == 18446744073709551615 && (List.range xs.length).all (Range.fits xs)))
section
variable {F : Nat → Option RF} {Z : CallF} {h : Heap} {x : Cell} {xs : List Range} {fp : List Nat}
set_option maxHeartbeats 4000000 in
theorem areRanges_turn (hI11 : Has F tI11) (w : SlR 7 (Fl Range.enc) h x xs fp) (hok : ∀ t, t ∈ xs → t.Ok) (i : Nat) (hi : i < xs.length) :
    Turn (loop F Z [0, 30, 31, 32] r124L0 ⟨[(0, .c x), (30, .c x), (31, .c (.int .i64 (xs.length : Nat))), (32, .c (.int .i64 (i : Nat)))], [], [], h⟩)
      (loop F Z [0, 30, 31, 32] r124L0 ⟨[(0, .c x), (30, .c x), (31, .c (.int .i64 (xs.length : Nat))), (32, .c (.int .i64 ((i + 1 : Nat) : Int)))], [], [], h⟩) (Range.fits xs i) (fun s => lk s.env 2 = some (.c (.bool false)) ∧ s.hp = h) := by
  have hle := w.le2
  have hlt : (i : Int) < xs.length := by omega
  have hws := wrapS i (by omega)
  have o1 := hok _ (List.getElem_mem hi)
  rw [loop_run]
  conv in (codeF _ _ r124L0 _) => unfold r124L0
  cases i with
  | zero =>
    have g0 : ¬ ((0 : Nat) : Int) > 0 := by omega
    simp only [run0, run1, run2, run3, run4, noSlot, memN, RO.dst, lk, drop, forget, number, Nat.reduceBEq, cut?, splice?, builds, List.length_cons, List.length_nil, List.drop_succ_cons, List.drop_zero, List.take_succ_cons, List.take_zero, List.cons_append, List.nil_append, List.append_nil, List.drop_nil, List.take_nil, Nat.reduceAdd, Nat.reduceLeDiff, Nat.zero_add, Nat.add_zero, ↓reduceIte, Bool.not_true, Bool.not_false, decide_true, decide_false, eq_self, bne_self_eq_false, List.getElem?_cons_zero, List.getElem?_cons_succ, decide_eq_true_eq, Bool.false_eq_true, Bool.true_eq_false, reduceCtorEq, Nat.le_refl, w.len, hlt, w.idx hi, w.load hi, Range.enc, isGroupId_run hI11, g0]
    have e0 : Range.at_ xs 0 = xs[0] := by simp [Range.at_, List.getElem?_eq_getElem hi]
    have hf : Range.fits xs 0 = (decide (xs[0].lo ≤ xs[0].hi) && (inR xs[0].group 0 99 && true)) := by simp only [Range.fits, e0]; rfl
    rw [hf]
    clear w hle hf e0
    generalize xs[0] = r at *
    obtain ⟨lo, hi_, g⟩ := r
    (repeat' ((first | (rw [gF_if]; split) | (rw [condC_if]; split) | (rw [pickR_if]; split)) <;> (rename_i hh; (try simp only [Bool.not_eq_true, decide_eq_true_eq] at hh); simp only [hh, run0, run1, run2, run3, run4, noSlot, memN, RO.dst, lk, drop, forget, number, Nat.reduceBEq, cut?, splice?, builds, List.length_cons, List.length_nil, List.drop_succ_cons, List.drop_zero, List.take_succ_cons, List.take_zero, List.cons_append, List.nil_append, List.append_nil, List.drop_nil, List.take_nil, Nat.reduceAdd, Nat.reduceLeDiff, Nat.zero_add, Nat.add_zero, ↓reduceIte, Bool.not_true, Bool.not_false, decide_true, decide_false, eq_self, bne_self_eq_false, List.getElem?_cons_zero, List.getElem?_cons_succ, decide_eq_true_eq, Bool.false_eq_true, Bool.true_eq_false, reduceCtorEq, Nat.le_refl, hws, isGroupId_run hI11, g0]))) <;> first
      | exact .inl ⟨by simp_all <;> omega, rfl⟩
      | exact .inr ⟨by simp_all <;> omega, _, rfl, rfl, rfl⟩
  | succ j =>
    have hj : j < xs.length := by omega
    have o2 := hok _ (List.getElem_mem hj)
    have g1 : ((j + 1 : Nat) : Int) > 0 := by omega
    have hw1 : IntKind.i64.wrap (((j + 1 : Nat) : Int) - 1) = (j : Int) := by rw [wrapI _ (by omega) (by omega)]; omega
    simp only [run0, run1, run2, run3, run4, noSlot, memN, RO.dst, lk, drop, forget, number, Nat.reduceBEq, cut?, splice?, builds, List.length_cons, List.length_nil, List.drop_succ_cons, List.drop_zero, List.take_succ_cons, List.take_zero, List.cons_append, List.nil_append, List.append_nil, List.drop_nil, List.take_nil, Nat.reduceAdd, Nat.reduceLeDiff, Nat.zero_add, Nat.add_zero, ↓reduceIte, Bool.not_true, Bool.not_false, decide_true, decide_false, eq_self, bne_self_eq_false, List.getElem?_cons_zero, List.getElem?_cons_succ, decide_eq_true_eq, Bool.false_eq_true, Bool.true_eq_false, reduceCtorEq, Nat.le_refl, w.len, hlt, w.idx hi, w.load hi, Range.enc, isGroupId_run hI11, g1, hw1, w.idx hj, w.load hj]
    have e1 : Range.at_ xs (j + 1) = xs[j + 1] := by simp [Range.at_, List.getElem?_eq_getElem hi]
    have e2 : Range.at_ xs j = xs[j] := by simp [Range.at_, List.getElem?_eq_getElem hj]
    have hf : Range.fits xs (j + 1) = (decide (xs[j + 1].lo ≤ xs[j + 1].hi) && (inR xs[j + 1].group 0 99 && decide (xs[j + 1].lo = xs[j].hi + 1))) := by
      simp only [Range.fits, e1, Nat.add_sub_cancel, e2]
      rfl
    rw [hf]
    have hx := w.idx hj
    have hl := w.load hj
    clear hf e1 e2 
    generalize hr : xs[j + 1] = r at *
    generalize hq : xs[j] = q at *
    obtain ⟨lo, hi_, g⟩ := r
    obtain ⟨lo', hi', g'⟩ := q
    obtain ⟨a1, a2, a3⟩ := o1
    obtain ⟨b1, b2, b3⟩ := o2
    dsimp only at a1 a2 a3 b1 b2 b3
    have hwl : lo ≠ 0 → IntKind.u64.wrap (lo - 1) = lo - 1 := fun h0 => wrapU _ (by omega) (by omega)
    clear hok hle w
    (repeat' ((first | (rw [gF_if]; split) | (rw [condC_if]; split) | (rw [pickR_if]; split)) <;> (rename_i hh; (try simp only [Bool.not_eq_true, decide_eq_true_eq] at hh); simp only [hh, run0, run1, run2, run3, run4, noSlot, memN, RO.dst, lk, drop, forget, number, Nat.reduceBEq, cut?, splice?, builds, List.length_cons, List.length_nil, List.drop_succ_cons, List.drop_zero, List.take_succ_cons, List.take_zero, List.cons_append, List.nil_append, List.append_nil, List.drop_nil, List.take_nil, Nat.reduceAdd, Nat.reduceLeDiff, Nat.zero_add, Nat.add_zero, ↓reduceIte, Bool.not_true, Bool.not_false, decide_true, decide_false, eq_self, bne_self_eq_false, List.getElem?_cons_zero, List.getElem?_cons_succ, decide_eq_true_eq, Bool.false_eq_true, Bool.true_eq_false, reduceCtorEq, Nat.le_refl, hws, isGroupId_run hI11, g1, hw1, hx, hl, Range.enc]))) <;> clear hx hl hr hq <;> first
      | exact .inl ⟨by simp_all <;> omega, rfl⟩
      | exact .inr ⟨by simp_all <;> omega, _, rfl, rfl, rfl⟩
theorem areRanges_run (hI11 : Has F tI11) (w : SlR 7 (Fl Range.enc) h x xs fp) (hok : ∀ t, t ∈ xs → t.Ok) : call F Z 124 [.c x] h = some (.c (.bool (rangesOk xs)), h) := by
  have hle := w.le2
  rw [call_run F Z (hI11.lk (g := 124) rfl) _ _ rfl]
  simp only [run0, run1, run2, run3, run4, noSlot, memN, RO.dst, lk, drop, forget, number, Nat.reduceBEq, cut?, splice?, builds, List.length_cons, List.length_nil, List.drop_succ_cons, List.drop_zero, List.take_succ_cons, List.take_zero, List.cons_append, List.nil_append, List.append_nil, List.drop_nil, List.take_nil, Nat.reduceAdd, Nat.reduceLeDiff, Nat.zero_add, Nat.add_zero, ↓reduceIte, Bool.not_true, Bool.not_false, decide_true, decide_false, eq_self, bne_self_eq_false, List.getElem?_cons_zero, List.getElem?_cons_succ, decide_eq_true_eq, Bool.false_eq_true, Bool.true_eq_false, reduceCtorEq, Nat.le_refl, w.len]
  by_cases hn : 1 ≤ xs.length ∧ xs.length ≤ 24
  · have d1 : ¬ (xs.length : Int) < 1 := by omega
    have d2 : ¬ (xs.length : Int) > 24 := by omega
    have h0 : 0 < xs.length := by omega
    have h1 : xs.length - 1 < xs.length := by omega
    have hw1 : IntKind.i64.wrap ((xs.length : Int) - 1) = ((xs.length - 1 : Nat) : Int) := by rw [wrapI _ (by omega) (by omega)]; omega
    have x0 : idxR 7 (some x) (some 0) = some (.ptr x.sid 0 0) := w.idx h0
    have inr : inR (xs.length : Int) 1 24 = true := by simp [inR]; omega
    have l0 : ∀ j n, loadP h x.sid 0 j n = cut? (Range.at_ xs 0).enc j n := w.loadD Range.none_ h0
    have l1 : ∀ j n, loadP h x.sid (xs.length - 1) j n = cut? (Range.at_ xs (xs.length - 1)).enc j n := w.loadD Range.none_ h1
    simp only [run0, run1, run2, run3, run4, noSlot, memN, RO.dst, lk, drop, forget, number, Nat.reduceBEq, cut?, splice?, builds, List.length_cons, List.length_nil, List.drop_succ_cons, List.drop_zero, List.take_succ_cons, List.take_zero, List.cons_append, List.nil_append, List.append_nil, List.drop_nil, List.take_nil, Nat.reduceAdd, Nat.reduceLeDiff, Nat.zero_add, Nat.add_zero, ↓reduceIte, Bool.not_true, Bool.not_false, decide_true, decide_false, eq_self, bne_self_eq_false, List.getElem?_cons_zero, List.getElem?_cons_succ, decide_eq_true_eq, Bool.false_eq_true, Bool.true_eq_false, reduceCtorEq, Nat.le_refl, w.len, d1, d2, x0, l0, hw1, w.idx h1, l1, Range.enc]
    have key := loop_allN (F := F) (Z := Z) (live := [0, 30, 31, 32]) (b := r124L0) xs.length (fun i => ⟨[(0, .c x), (30, .c x), (31, .c (.int .i64 (xs.length : Nat))), (32, .c (.int .i64 (i : Nat)))], [], [], h⟩) (Range.fits xs) (fun s => lk s.env 2 = some (.c (.bool false)) ∧ s.hp = h) fun i hi => areRanges_turn hI11 w hok i hi
    simp only [show ((0 : Nat) : Int) = 0 from rfl] at key
    have hlt : ¬ (xs.length : Int) < xs.length := by omega
    have hx1 := w.idx h1
    have hwl := w.len
    clear w
    (repeat' ((first | (rw [gF_if]; split) | (rw [condC_if]; split) | (rw [pickR_if]; split)) <;> (rename_i hh; (try simp only [Bool.not_eq_true, decide_eq_true_eq] at hh); simp only [hh, run0, run1, run2, run3, run4, noSlot, memN, RO.dst, lk, drop, forget, number, Nat.reduceBEq, cut?, splice?, builds, List.length_cons, List.length_nil, List.drop_succ_cons, List.drop_zero, List.take_succ_cons, List.take_zero, List.cons_append, List.nil_append, List.append_nil, List.drop_nil, List.take_nil, Nat.reduceAdd, Nat.reduceLeDiff, Nat.zero_add, Nat.add_zero, ↓reduceIte, Bool.not_true, Bool.not_false, decide_true, decide_false, eq_self, bne_self_eq_false, List.getElem?_cons_zero, List.getElem?_cons_succ, decide_eq_true_eq, Bool.false_eq_true, Bool.true_eq_false, reduceCtorEq, Nat.le_refl, hw1, hx1, l0, l1, hwl, Range.enc])))
    all_goals first
      | (rcases key with ⟨k1, k2⟩ | ⟨k1, s, k2, k3, k4⟩
         · rw [k2, loop_run]
           conv in (codeF _ _ r124L0 _) => unfold r124L0
           simp only [run0, run1, run2, run3, run4, noSlot, memN, RO.dst, lk, drop, forget, number, Nat.reduceBEq, cut?, splice?, builds, List.length_cons, List.length_nil, List.drop_succ_cons, List.drop_zero, List.take_succ_cons, List.take_zero, List.cons_append, List.nil_append, List.append_nil, List.drop_nil, List.take_nil, Nat.reduceAdd, Nat.reduceLeDiff, Nat.zero_add, Nat.add_zero, ↓reduceIte, Bool.not_true, Bool.not_false, decide_true, decide_false, eq_self, bne_self_eq_false, List.getElem?_cons_zero, List.getElem?_cons_succ, decide_eq_true_eq, Bool.false_eq_true, Bool.true_eq_false, reduceCtorEq, Nat.le_refl, hlt]
           simp_all [rangesOk]
         · rw [k2]
           simp only [run0, run1, run2, run3, run4, noSlot, memN, RO.dst, lk, drop, forget, number, Nat.reduceBEq, cut?, splice?, builds, List.length_cons, List.length_nil, List.drop_succ_cons, List.drop_zero, List.take_succ_cons, List.take_zero, List.cons_append, List.nil_append, List.append_nil, List.drop_nil, List.take_nil, Nat.reduceAdd, Nat.reduceLeDiff, Nat.zero_add, Nat.add_zero, ↓reduceIte, Bool.not_true, Bool.not_false, decide_true, decide_false, eq_self, bne_self_eq_false, List.getElem?_cons_zero, List.getElem?_cons_succ, decide_eq_true_eq, Bool.false_eq_true, Bool.true_eq_false, reduceCtorEq, Nat.le_refl, k3, k4]
           simp_all [rangesOk])
      | (clear key; simp_all [rangesOk])
  · have inr : inR (xs.length : Int) 1 24 = false := by simp [inR]; omega
    have hr : rangesOk xs = false := by simp [rangesOk, inr]
    rw [hr]
    (repeat' ((first | (rw [gF_if]; split) | (rw [condC_if]; split) | (rw [pickR_if]; split)) <;> (rename_i hh; (try simp only [Bool.not_eq_true, decide_eq_true_eq] at hh); simp only [hh, run0, run1, run2, run3, run4, noSlot, memN, RO.dst, lk, drop, forget, number, Nat.reduceBEq, cut?, splice?, builds, List.length_cons, List.length_nil, List.drop_succ_cons, List.drop_zero, List.take_succ_cons, List.take_zero, List.cons_append, List.nil_append, List.append_nil, List.drop_nil, List.take_nil, Nat.reduceAdd, Nat.reduceLeDiff, Nat.zero_add, Nat.add_zero, ↓reduceIte, Bool.not_true, Bool.not_false, decide_true, decide_false, eq_self, bne_self_eq_false, List.getElem?_cons_zero, List.getElem?_cons_succ, decide_eq_true_eq, Bool.false_eq_true, Bool.true_eq_false, reduceCtorEq, Nat.le_refl, w.len])))
    all_goals first | rfl | (exfalso; apply hn; simp_all <;> omega)
set_option maxHeartbeats 4000000 in
theorem sRangesOk_turn (hS : Has F tS01d) (hS11 : Has F tS11) (w : SlR 7 (Fl Range.enc) h x xs fp) (hok : ∀ t, t ∈ xs → t.Ok) (i : Nat) (hi : i < xs.length) :
    Turn (loop F Z [0, 3] r120L0 ⟨[(0, .c x), (3, .c (.int .i64 (i : Nat)))], [], [], h⟩)
      (loop F Z [0, 3] r120L0 ⟨[(0, .c x), (3, .c (.int .i64 ((i + 1 : Nat) : Int)))], [], [], h⟩) (Range.fits xs i) (fun s => lk s.env 2 = some (.c (.bool false)) ∧ s.hp = h) := by
  have hle := w.le2
  have hlt : (i : Int) < xs.length := by omega
  have hws := wrapS i (by omega)
  have o1 := hok _ (List.getElem_mem hi)
  rw [loop_run]
  conv in (codeF _ _ r120L0 _) => unfold r120L0
  cases i with
  | zero =>
    have g0 : ¬ ((0 : Nat) : Int) > 0 := by omega
    simp only [run0, run1, run2, run3, run4, noSlot, memN, RO.dst, lk, drop, forget, number, Nat.reduceBEq, cut?, splice?, builds, List.length_cons, List.length_nil, List.drop_succ_cons, List.drop_zero, List.take_succ_cons, List.take_zero, List.cons_append, List.nil_append, List.append_nil, List.drop_nil, List.take_nil, Nat.reduceAdd, Nat.reduceLeDiff, Nat.zero_add, Nat.add_zero, ↓reduceIte, Bool.not_true, Bool.not_false, decide_true, decide_false, eq_self, bne_self_eq_false, List.getElem?_cons_zero, List.getElem?_cons_succ, decide_eq_true_eq, Bool.false_eq_true, Bool.true_eq_false, reduceCtorEq, Nat.le_refl, w.len, hlt, w.idx hi, w.load hi, Range.enc, l01In_run hS, g0]
    have e0 : Range.at_ xs 0 = xs[0] := by simp [Range.at_, List.getElem?_eq_getElem hi]
    have hf : Range.fits xs 0 = (decide (xs[0].lo ≤ xs[0].hi) && (inR xs[0].group 0 99 && true)) := by simp only [Range.fits, e0]; rfl
    rw [hf]
    clear w hle hf e0
    generalize xs[0] = r at *
    obtain ⟨lo, hi_, g⟩ := r
    (repeat' ((first | (rw [gF_if]; split) | (rw [condC_if]; split) | (rw [pickR_if]; split)) <;> (rename_i hh; (try simp only [Bool.not_eq_true, decide_eq_true_eq] at hh); simp only [hh, run0, run1, run2, run3, run4, noSlot, memN, RO.dst, lk, drop, forget, number, Nat.reduceBEq, cut?, splice?, builds, List.length_cons, List.length_nil, List.drop_succ_cons, List.drop_zero, List.take_succ_cons, List.take_zero, List.cons_append, List.nil_append, List.append_nil, List.drop_nil, List.take_nil, Nat.reduceAdd, Nat.reduceLeDiff, Nat.zero_add, Nat.add_zero, ↓reduceIte, Bool.not_true, Bool.not_false, decide_true, decide_false, eq_self, bne_self_eq_false, List.getElem?_cons_zero, List.getElem?_cons_succ, decide_eq_true_eq, Bool.false_eq_true, Bool.true_eq_false, reduceCtorEq, Nat.le_refl, hws, l01In_run hS, g0]))) <;> first
      | exact .inl ⟨by simp_all <;> omega, rfl⟩
      | exact .inr ⟨by simp_all <;> omega, _, rfl, rfl, rfl⟩
  | succ j =>
    have hj : j < xs.length := by omega
    have o2 := hok _ (List.getElem_mem hj)
    have g1 : ((j + 1 : Nat) : Int) > 0 := by omega
    have hw1 : IntKind.i64.wrap (((j + 1 : Nat) : Int) - 1) = (j : Int) := by rw [wrapI _ (by omega) (by omega)]; omega
    simp only [run0, run1, run2, run3, run4, noSlot, memN, RO.dst, lk, drop, forget, number, Nat.reduceBEq, cut?, splice?, builds, List.length_cons, List.length_nil, List.drop_succ_cons, List.drop_zero, List.take_succ_cons, List.take_zero, List.cons_append, List.nil_append, List.append_nil, List.drop_nil, List.take_nil, Nat.reduceAdd, Nat.reduceLeDiff, Nat.zero_add, Nat.add_zero, ↓reduceIte, Bool.not_true, Bool.not_false, decide_true, decide_false, eq_self, bne_self_eq_false, List.getElem?_cons_zero, List.getElem?_cons_succ, decide_eq_true_eq, Bool.false_eq_true, Bool.true_eq_false, reduceCtorEq, Nat.le_refl, w.len, hlt, w.idx hi, w.load hi, Range.enc, l01In_run hS, g1, hw1, w.idx hj, w.load hj]
    have e1 : Range.at_ xs (j + 1) = xs[j + 1] := by simp [Range.at_, List.getElem?_eq_getElem hi]
    have e2 : Range.at_ xs j = xs[j] := by simp [Range.at_, List.getElem?_eq_getElem hj]
    have hf : Range.fits xs (j + 1) = (decide (xs[j + 1].lo ≤ xs[j + 1].hi) && (inR xs[j + 1].group 0 99 && decide (xs[j + 1].lo = xs[j].hi + 1))) := by
      simp only [Range.fits, e1, Nat.add_sub_cancel, e2]
      rfl
    rw [hf]
    have hx := w.idx hj
    have hl := w.load hj
    clear hf e1 e2 
    generalize hr : xs[j + 1] = r at *
    generalize hq : xs[j] = q at *
    obtain ⟨lo, hi_, g⟩ := r
    obtain ⟨lo', hi', g'⟩ := q
    obtain ⟨a1, a2, a3⟩ := o1
    obtain ⟨b1, b2, b3⟩ := o2
    dsimp only at a1 a2 a3 b1 b2 b3
    have hwl : hi' ≠ 18446744073709551615 → IntKind.u64.wrap (hi' + 1) = hi' + 1 := fun h0 => wrapU _ (by omega) (by omega)
    clear hok hle w
    (repeat' ((first | (rw [gF_if]; split) | (rw [condC_if]; split) | (rw [pickR_if]; split)) <;> (rename_i hh; (try simp only [Bool.not_eq_true, decide_eq_true_eq] at hh); simp only [hh, run0, run1, run2, run3, run4, noSlot, memN, RO.dst, lk, drop, forget, number, Nat.reduceBEq, cut?, splice?, builds, List.length_cons, List.length_nil, List.drop_succ_cons, List.drop_zero, List.take_succ_cons, List.take_zero, List.cons_append, List.nil_append, List.append_nil, List.drop_nil, List.take_nil, Nat.reduceAdd, Nat.reduceLeDiff, Nat.zero_add, Nat.add_zero, ↓reduceIte, Bool.not_true, Bool.not_false, decide_true, decide_false, eq_self, bne_self_eq_false, List.getElem?_cons_zero, List.getElem?_cons_succ, decide_eq_true_eq, Bool.false_eq_true, Bool.true_eq_false, reduceCtorEq, Nat.le_refl, hws, l01In_run hS, g1, hw1, hx, hl, Range.enc]))) <;> clear hx hl hr hq <;> first
      | exact .inl ⟨by simp_all <;> omega, rfl⟩
      | exact .inr ⟨by simp_all <;> omega, _, rfl, rfl, rfl⟩
theorem sRangesOk_run (hS : Has F tS01d) (hS11 : Has F tS11) (w : SlR 7 (Fl Range.enc) h x xs fp) (hok : ∀ t, t ∈ xs → t.Ok) : call F Z 120 [.c x] h = some (.c (.bool (rangesOk xs)), h) := by
  have hle := w.le2
  rw [call_run F Z (hS11.lk (g := 120) rfl) _ _ rfl]
  simp only [run0, run1, run2, run3, run4, noSlot, memN, RO.dst, lk, drop, forget, number, Nat.reduceBEq, cut?, splice?, builds, List.length_cons, List.length_nil, List.drop_succ_cons, List.drop_zero, List.take_succ_cons, List.take_zero, List.cons_append, List.nil_append, List.append_nil, List.drop_nil, List.take_nil, Nat.reduceAdd, Nat.reduceLeDiff, Nat.zero_add, Nat.add_zero, ↓reduceIte, Bool.not_true, Bool.not_false, decide_true, decide_false, eq_self, bne_self_eq_false, List.getElem?_cons_zero, List.getElem?_cons_succ, decide_eq_true_eq, Bool.false_eq_true, Bool.true_eq_false, reduceCtorEq, Nat.le_refl, w.len, l01In_run hS]
  by_cases hn : 1 ≤ xs.length ∧ xs.length ≤ 24
  · have d1 : ¬ (xs.length : Int) < 1 := by omega
    have d2 : ¬ (xs.length : Int) > 24 := by omega
    have h0 : 0 < xs.length := by omega
    have h1 : xs.length - 1 < xs.length := by omega
    have hw1 : IntKind.i64.wrap ((xs.length : Int) - 1) = ((xs.length - 1 : Nat) : Int) := by rw [wrapI _ (by omega) (by omega)]; omega
    have x0 : idxR 7 (some x) (some 0) = some (.ptr x.sid 0 0) := w.idx h0
    have inr : inR (xs.length : Int) 1 24 = true := by simp [inR]; omega
    have l0 : ∀ j n, loadP h x.sid 0 j n = cut? (Range.at_ xs 0).enc j n := w.loadD Range.none_ h0
    have l1 : ∀ j n, loadP h x.sid (xs.length - 1) j n = cut? (Range.at_ xs (xs.length - 1)).enc j n := w.loadD Range.none_ h1
    simp only [run0, run1, run2, run3, run4, noSlot, memN, RO.dst, lk, drop, forget, number, Nat.reduceBEq, cut?, splice?, builds, List.length_cons, List.length_nil, List.drop_succ_cons, List.drop_zero, List.take_succ_cons, List.take_zero, List.cons_append, List.nil_append, List.append_nil, List.drop_nil, List.take_nil, Nat.reduceAdd, Nat.reduceLeDiff, Nat.zero_add, Nat.add_zero, ↓reduceIte, Bool.not_true, Bool.not_false, decide_true, decide_false, eq_self, bne_self_eq_false, List.getElem?_cons_zero, List.getElem?_cons_succ, decide_eq_true_eq, Bool.false_eq_true, Bool.true_eq_false, reduceCtorEq, Nat.le_refl, w.len, inr, x0, l0, hw1, w.idx h1, l1, Range.enc]
    have key := loop_allN (F := F) (Z := Z) (live := [0, 3]) (b := r120L0) xs.length (fun i => ⟨[(0, .c x), (3, .c (.int .i64 (i : Nat)))], [], [], h⟩) (Range.fits xs) (fun s => lk s.env 2 = some (.c (.bool false)) ∧ s.hp = h) fun i hi => sRangesOk_turn hS hS11 w hok i hi
    simp only [show ((0 : Nat) : Int) = 0 from rfl] at key
    have hlt : ¬ (xs.length : Int) < xs.length := by omega
    have hx1 := w.idx h1
    have hwl := w.len
    clear w
    (repeat' ((first | (rw [gF_if]; split) | (rw [condC_if]; split) | (rw [pickR_if]; split)) <;> (rename_i hh; (try simp only [Bool.not_eq_true, decide_eq_true_eq] at hh); simp only [hh, run0, run1, run2, run3, run4, noSlot, memN, RO.dst, lk, drop, forget, number, Nat.reduceBEq, cut?, splice?, builds, List.length_cons, List.length_nil, List.drop_succ_cons, List.drop_zero, List.take_succ_cons, List.take_zero, List.cons_append, List.nil_append, List.append_nil, List.drop_nil, List.take_nil, Nat.reduceAdd, Nat.reduceLeDiff, Nat.zero_add, Nat.add_zero, ↓reduceIte, Bool.not_true, Bool.not_false, decide_true, decide_false, eq_self, bne_self_eq_false, List.getElem?_cons_zero, List.getElem?_cons_succ, decide_eq_true_eq, Bool.false_eq_true, Bool.true_eq_false, reduceCtorEq, Nat.le_refl, hw1, hx1, l0, l1, hwl, Range.enc])))
    all_goals first
      | (rcases key with ⟨k1, k2⟩ | ⟨k1, s, k2, k3, k4⟩
         · rw [k2, loop_run]
           conv in (codeF _ _ r120L0 _) => unfold r120L0
           simp only [run0, run1, run2, run3, run4, noSlot, memN, RO.dst, lk, drop, forget, number, Nat.reduceBEq, cut?, splice?, builds, List.length_cons, List.length_nil, List.drop_succ_cons, List.drop_zero, List.take_succ_cons, List.take_zero, List.cons_append, List.nil_append, List.append_nil, List.drop_nil, List.take_nil, Nat.reduceAdd, Nat.reduceLeDiff, Nat.zero_add, Nat.add_zero, ↓reduceIte, Bool.not_true, Bool.not_false, decide_true, decide_false, eq_self, bne_self_eq_false, List.getElem?_cons_zero, List.getElem?_cons_succ, decide_eq_true_eq, Bool.false_eq_true, Bool.true_eq_false, reduceCtorEq, Nat.le_refl, hwl, hlt]
           simp_all [rangesOk]
         · rw [k2]
           simp only [run0, run1, run2, run3, run4, noSlot, memN, RO.dst, lk, drop, forget, number, Nat.reduceBEq, cut?, splice?, builds, List.length_cons, List.length_nil, List.drop_succ_cons, List.drop_zero, List.take_succ_cons, List.take_zero, List.cons_append, List.nil_append, List.append_nil, List.drop_nil, List.take_nil, Nat.reduceAdd, Nat.reduceLeDiff, Nat.zero_add, Nat.add_zero, ↓reduceIte, Bool.not_true, Bool.not_false, decide_true, decide_false, eq_self, bne_self_eq_false, List.getElem?_cons_zero, List.getElem?_cons_succ, decide_eq_true_eq, Bool.false_eq_true, Bool.true_eq_false, reduceCtorEq, Nat.le_refl, k3, k4]
           simp_all [rangesOk])
      | (clear key; simp_all [rangesOk])
  · have inr : inR (xs.length : Int) 1 24 = false := by simp [inR]; omega
    have hr : rangesOk xs = false := by simp [rangesOk, inr]
    rw [hr]
    simp only [run0, run1, run2, run3, run4, noSlot, memN, RO.dst, lk, drop, forget, number, Nat.reduceBEq, cut?, splice?, builds, List.length_cons, List.length_nil, List.drop_succ_cons, List.drop_zero, List.take_succ_cons, List.take_zero, List.cons_append, List.nil_append, List.append_nil, List.drop_nil, List.take_nil, Nat.reduceAdd, Nat.reduceLeDiff, Nat.zero_add, Nat.add_zero, ↓reduceIte, Bool.not_true, Bool.not_false, decide_true, decide_false, eq_self, bne_self_eq_false, List.getElem?_cons_zero, List.getElem?_cons_succ, decide_eq_true_eq, Bool.false_eq_true, Bool.true_eq_false, reduceCtorEq, Nat.le_refl, w.len, inr]
    (repeat' ((first | (rw [gF_if]; split) | (rw [condC_if]; split) | (rw [pickR_if]; split)) <;> (rename_i hh; (try simp only [Bool.not_eq_true, decide_eq_true_eq] at hh); simp only [hh, run0, run1, run2, run3, run4, noSlot, memN, RO.dst, lk, drop, forget, number, Nat.reduceBEq, cut?, splice?, builds, List.length_cons, List.length_nil, List.drop_succ_cons, List.drop_zero, List.take_succ_cons, List.take_zero, List.cons_append, List.nil_append, List.append_nil, List.drop_nil, List.take_nil, Nat.reduceAdd, Nat.reduceLeDiff, Nat.zero_add, Nat.add_zero, ↓reduceIte, Bool.not_true, Bool.not_false, decide_true, decide_false, eq_self, bne_self_eq_false, List.getElem?_cons_zero, List.getElem?_cons_succ, decide_eq_true_eq, Bool.false_eq_true, Bool.true_eq_false, reduceCtorEq, Nat.le_refl, w.len])))
    all_goals first | rfl | (exfalso; apply hn; simp_all <;> omega)
end
end Go.Proofs.Ytgogajbfiocdbaa.A
