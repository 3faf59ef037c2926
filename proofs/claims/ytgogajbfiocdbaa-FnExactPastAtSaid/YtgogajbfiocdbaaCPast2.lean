/- What isPast and PastOk compute. -/
import Derived.Test.YtgogajbfiocdbaaVPast
namespace Go.Proofs.Ytgogajbfiocdbaa.A
open Go
set_option linter.unusedSimpArgs false
set_option linter.unusedVariables false
def Past.good (p : Past) : Bool := inR p.kind 0 5 && (inR p.start 0 1000000 && (bif p.end_ == -1 then p.code == 0 && p.value == 0 else decide (p.start < p.end_) && decide (p.end_ ≤ 1000000)))
def goodPast (xs : List Past) : Bool := xs.all Past.good && decide ((xs.length : Int) ≤ 7)
section
variable {F : Nat → Option RF} {Z : CallF} {h : Heap} {x y : Cell} {xs ys : List Past} {fp fq : List Nat}
set_option maxHeartbeats 4000000 in
theorem isPast_run (hI17 : Has F tI17) (w : SlR 1 (Fl Past.enc) h x xs fp) : call F Z 97 [.c x] h = some (.c (.bool (goodPast xs)), h) := by
  have hw := w.le2
  rw [call_run F Z (hI17.lk (g := 97) rfl) _ _ rfl]
  simp only [run0, run1, run2, run3, run4, noSlot, memN, RO.dst, lk, drop, forget, number, Nat.reduceBEq, cond_true, cond_false, Option.bind_some, cut?, splice?, builds, List.length_cons, List.length_nil, List.drop_succ_cons, List.drop_zero, List.take_succ_cons, List.take_zero, List.cons_append, List.nil_append, List.append_nil, List.drop_nil, List.take_nil, Nat.reduceAdd, Nat.reduceLeDiff, Nat.zero_add, Nat.add_zero, ↓reduceIte, Bool.not_true, Bool.not_false, decide_true, decide_false, eq_self, bne_self_eq_false, List.getElem?_cons_zero, List.getElem?_cons_succ, decide_eq_true_eq, Bool.false_eq_true, Bool.true_eq_false, reduceCtorEq, Nat.le_refl, w.len]
  have key := loop_all (F := F) (Z := Z) (live := [0, 5, 6, 7]) (b := r97L0) xs (fun i => ⟨[(0, .c x), (5, .c x), (6, .c (.int .i64 (xs.length : Nat))), (7, .c (.int .i64 (i : Nat)))], [], [], h⟩) Past.good (fun s => lk s.env 2 = some (.c (.bool false)) ∧ s.hp = h) fun i hi => by
    have hlt : (i : Int) < xs.length := by omega
    rw [loop_run]
    simp only [r97L0, run0, run1, run2, run3, run4, noSlot, memN, RO.dst, lk, drop, forget, number, Nat.reduceBEq, cond_true, cond_false, Option.bind_some, cut?, splice?, builds, List.length_cons, List.length_nil, List.drop_succ_cons, List.drop_zero, List.take_succ_cons, List.take_zero, List.cons_append, List.nil_append, List.append_nil, List.drop_nil, List.take_nil, Nat.reduceAdd, Nat.reduceLeDiff, Nat.zero_add, Nat.add_zero, ↓reduceIte, Bool.not_true, Bool.not_false, decide_true, decide_false, eq_self, bne_self_eq_false, List.getElem?_cons_zero, List.getElem?_cons_succ, decide_eq_true_eq, Bool.false_eq_true, Bool.true_eq_false, reduceCtorEq, Nat.le_refl, w.len, hlt, w.idx hi, w.load hi, Past.enc]
    have hws := wrapS i (by omega)
    generalize xs[i] = p
    obtain ⟨k, a, b, m, s, e, c, v⟩ := p
    clear w hw
    (repeat' ((first | (rw [gF_if]; split) | (rw [condC_if]; split) | (rw [pickR_if]; split)) <;> (rename_i hh; (try simp only [Bool.not_eq_true, decide_eq_true_eq] at hh); simp only [hh, run0, run1, run2, run3, run4, noSlot, memN, RO.dst, lk, drop, forget, number, Nat.reduceBEq, cond_true, cond_false, Option.bind_some, cut?, splice?, builds, List.length_cons, List.length_nil, List.drop_succ_cons, List.drop_zero, List.take_succ_cons, List.take_zero, List.cons_append, List.nil_append, List.append_nil, List.drop_nil, List.take_nil, Nat.reduceAdd, Nat.reduceLeDiff, Nat.zero_add, Nat.add_zero, ↓reduceIte, Bool.not_true, Bool.not_false, decide_true, decide_false, eq_self, bne_self_eq_false, List.getElem?_cons_zero, List.getElem?_cons_succ, decide_eq_true_eq, Bool.false_eq_true, Bool.true_eq_false, reduceCtorEq, Nat.le_refl, hws]))) <;> first
      | exact .inl ⟨by simp_all [Past.good, inR] <;> omega, rfl⟩
      | exact .inr ⟨by simp_all [Past.good, inR] <;> omega, _, rfl, rfl, rfl⟩
  rcases key with ⟨k1, k2⟩ | ⟨k1, s, k2, k3, k4⟩
  · simp only [show ((0 : Nat) : Int) = 0 from rfl] at k2
    rw [k2, loop_run]
    have hlt : ¬ (xs.length : Int) < xs.length := by omega
    simp only [r97L0, run0, run1, run2, run3, run4, noSlot, memN, RO.dst, lk, drop, forget, number, Nat.reduceBEq, cond_true, cond_false, Option.bind_some, cut?, splice?, builds, List.length_cons, List.length_nil, List.drop_succ_cons, List.drop_zero, List.take_succ_cons, List.take_zero, List.cons_append, List.nil_append, List.append_nil, List.drop_nil, List.take_nil, Nat.reduceAdd, Nat.reduceLeDiff, Nat.zero_add, Nat.add_zero, ↓reduceIte, Bool.not_true, Bool.not_false, decide_true, decide_false, eq_self, bne_self_eq_false, List.getElem?_cons_zero, List.getElem?_cons_succ, decide_eq_true_eq, Bool.false_eq_true, Bool.true_eq_false, reduceCtorEq, Nat.le_refl, w.len, hlt, k1, goodPast, Bool.true_and]
  · simp only [show ((0 : Nat) : Int) = 0 from rfl] at k2
    rw [k2]
    simp only [run0, run1, run2, run3, run4, noSlot, memN, RO.dst, lk, drop, forget, number, Nat.reduceBEq, cond_true, cond_false, Option.bind_some, cut?, splice?, builds, List.length_cons, List.length_nil, List.drop_succ_cons, List.drop_zero, List.take_succ_cons, List.take_zero, List.cons_append, List.nil_append, List.append_nil, List.drop_nil, List.take_nil, Nat.reduceAdd, Nat.reduceLeDiff, Nat.zero_add, Nat.add_zero, ↓reduceIte, Bool.not_true, Bool.not_false, decide_true, decide_false, eq_self, bne_self_eq_false, List.getElem?_cons_zero, List.getElem?_cons_succ, decide_eq_true_eq, Bool.false_eq_true, Bool.true_eq_false, reduceCtorEq, Nat.le_refl, k3, k4, k1, goodPast, Bool.false_and]
theorem PastOk_run (hI17 : Has F tI17) (w : SlR 1 (Fl Past.enc) h x xs fp) : call F Z 43 [.c x] h = some (.c (.bool (goodPast xs)), h) := by
  rw [call_run F Z (hI17.lk (g := 43) rfl) _ _ rfl]
  simp only [run0, run1, run2, run3, run4, noSlot, memN, RO.dst, lk, drop, forget, number, Nat.reduceBEq, cond_true, cond_false, Option.bind_some, cut?, splice?, builds, List.length_cons, List.length_nil, List.drop_succ_cons, List.drop_zero, List.take_succ_cons, List.take_zero, List.cons_append, List.nil_append, List.append_nil, List.drop_nil, List.take_nil, Nat.reduceAdd, Nat.reduceLeDiff, Nat.zero_add, Nat.add_zero, ↓reduceIte, Bool.not_true, Bool.not_false, decide_true, decide_false, eq_self, bne_self_eq_false, List.getElem?_cons_zero, List.getElem?_cons_succ, decide_eq_true_eq, Bool.false_eq_true, Bool.true_eq_false, reduceCtorEq, Nat.le_refl, isPast_run hI17 w]
set_option maxHeartbeats 4000000 in
theorem sPastOk_run (hS17 : Has F tS17) (hS : Has F tS01d) (w : SlR 1 (Fl Past.enc) h x xs fp) : call F Z 42 [.c x] h = some (.c (.bool (goodPast xs)), h) := by
  have hw := w.le2
  rw [call_run F Z (hS17.lk (g := 42) rfl) _ _ rfl]
  simp only [run0, run1, run2, run3, run4, noSlot, memN, RO.dst, lk, drop, forget, number, Nat.reduceBEq, cond_true, cond_false, Option.bind_some, cut?, splice?, builds, List.length_cons, List.length_nil, List.drop_succ_cons, List.drop_zero, List.take_succ_cons, List.take_zero, List.cons_append, List.nil_append, List.append_nil, List.drop_nil, List.take_nil, Nat.reduceAdd, Nat.reduceLeDiff, Nat.zero_add, Nat.add_zero, ↓reduceIte, Bool.not_true, Bool.not_false, decide_true, decide_false, eq_self, bne_self_eq_false, List.getElem?_cons_zero, List.getElem?_cons_succ, decide_eq_true_eq, Bool.false_eq_true, Bool.true_eq_false, reduceCtorEq, Nat.le_refl, w.len]
  have key := loop_all (F := F) (Z := Z) (live := [0, 3]) (b := r42L0) xs (fun i => ⟨[(0, .c x), (3, .c (.int .i64 (i : Nat)))], [], [], h⟩) Past.good (fun s => lk s.env 2 = some (.c (.bool false)) ∧ s.hp = h) fun i hi => by
    have hlt : (i : Int) < xs.length := by omega
    rw [loop_run]
    simp only [r42L0, run0, run1, run2, run3, run4, noSlot, memN, RO.dst, lk, drop, forget, number, Nat.reduceBEq, cond_true, cond_false, Option.bind_some, cut?, splice?, builds, List.length_cons, List.length_nil, List.drop_succ_cons, List.drop_zero, List.take_succ_cons, List.take_zero, List.cons_append, List.nil_append, List.append_nil, List.drop_nil, List.take_nil, Nat.reduceAdd, Nat.reduceLeDiff, Nat.zero_add, Nat.add_zero, ↓reduceIte, Bool.not_true, Bool.not_false, decide_true, decide_false, eq_self, bne_self_eq_false, List.getElem?_cons_zero, List.getElem?_cons_succ, decide_eq_true_eq, Bool.false_eq_true, Bool.true_eq_false, reduceCtorEq, Nat.le_refl, w.len, hlt, w.idx hi, w.load hi, Past.enc, l01In_run hS]
    have hws := wrapS i (by omega)
    generalize xs[i] = p
    obtain ⟨k, a, b, m, s, e, c, v⟩ := p
    clear w hw
    have hs : inR s 0 1000000 = true → IntKind.i64.wrap (s + 1) = s + 1 := fun hr => by simp [inR] at hr; exact wrapI _ (by omega) (by omega)
    (repeat' ((first | (rw [gF_if]; split) | (rw [condC_if]; split) | (rw [pickR_if]; split)) <;> (rename_i hh; (try simp only [Bool.not_eq_true, decide_eq_true_eq] at hh); simp only [hh, run0, run1, run2, run3, run4, noSlot, memN, RO.dst, lk, drop, forget, number, Nat.reduceBEq, cond_true, cond_false, Option.bind_some, cut?, splice?, builds, List.length_cons, List.length_nil, List.drop_succ_cons, List.drop_zero, List.take_succ_cons, List.take_zero, List.cons_append, List.nil_append, List.append_nil, List.drop_nil, List.take_nil, Nat.reduceAdd, Nat.reduceLeDiff, Nat.zero_add, Nat.add_zero, ↓reduceIte, Bool.not_true, Bool.not_false, decide_true, decide_false, eq_self, bne_self_eq_false, List.getElem?_cons_zero, List.getElem?_cons_succ, decide_eq_true_eq, Bool.false_eq_true, Bool.true_eq_false, reduceCtorEq, Nat.le_refl, hws, l01In_run hS]))) <;> first
      | exact .inl ⟨by simp_all [Past.good, inR] <;> omega, rfl⟩
      | exact .inr ⟨by simp_all [Past.good, inR] <;> omega, _, rfl, rfl, rfl⟩
  rcases key with ⟨k1, k2⟩ | ⟨k1, s, k2, k3, k4⟩
  · simp only [show ((0 : Nat) : Int) = 0 from rfl] at k2
    rw [k2, loop_run]
    have hlt : ¬ (xs.length : Int) < xs.length := by omega
    simp only [r42L0, run0, run1, run2, run3, run4, noSlot, memN, RO.dst, lk, drop, forget, number, Nat.reduceBEq, cond_true, cond_false, Option.bind_some, cut?, splice?, builds, List.length_cons, List.length_nil, List.drop_succ_cons, List.drop_zero, List.take_succ_cons, List.take_zero, List.cons_append, List.nil_append, List.append_nil, List.drop_nil, List.take_nil, Nat.reduceAdd, Nat.reduceLeDiff, Nat.zero_add, Nat.add_zero, ↓reduceIte, Bool.not_true, Bool.not_false, decide_true, decide_false, eq_self, bne_self_eq_false, List.getElem?_cons_zero, List.getElem?_cons_succ, decide_eq_true_eq, Bool.false_eq_true, Bool.true_eq_false, reduceCtorEq, Nat.le_refl, w.len, hlt, k1, goodPast, Bool.true_and]
  · simp only [show ((0 : Nat) : Int) = 0 from rfl] at k2
    rw [k2]
    simp only [run0, run1, run2, run3, run4, noSlot, memN, RO.dst, lk, drop, forget, number, Nat.reduceBEq, cond_true, cond_false, Option.bind_some, cut?, splice?, builds, List.length_cons, List.length_nil, List.drop_succ_cons, List.drop_zero, List.take_succ_cons, List.take_zero, List.cons_append, List.nil_append, List.append_nil, List.drop_nil, List.take_nil, Nat.reduceAdd, Nat.reduceLeDiff, Nat.zero_add, Nat.add_zero, ↓reduceIte, Bool.not_true, Bool.not_false, decide_true, decide_false, eq_self, bne_self_eq_false, List.getElem?_cons_zero, List.getElem?_cons_succ, decide_eq_true_eq, Bool.false_eq_true, Bool.true_eq_false, reduceCtorEq, Nat.le_refl, k3, k4, k1, goodPast, Bool.false_and]
end
end Go.Proofs.Ytgogajbfiocdbaa.A
