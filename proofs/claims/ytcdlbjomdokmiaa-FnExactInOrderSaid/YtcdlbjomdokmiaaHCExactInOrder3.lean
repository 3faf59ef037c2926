/- The functions that the statement reaches, part 3: bodies and what they compute. No condition. -/
import Derived.Test.YtcdlbjomdokmiaaHCExactInOrder2
import Derived.Test.YtcdlbjomdokmiaaD
/- What isPast and PastOk compute. -/
namespace Go.Proofs.Ytcdlbjomdokmiaa.A
open Go
set_option linter.unusedSimpArgs false
set_option linter.unusedVariables false
def Past.good (p : Past) : Bool := inR p.kind 0 5 && (inR p.start 0 1000000 && (bif p.end_ == -1 then p.code == 0 && p.value == 0 else decide (p.start < p.end_) && decide (p.end_ ≤ 1000000)))
def goodPast (xs : List Past) : Bool := xs.all Past.good && decide ((xs.length : Int) ≤ 7)
section
variable {F : Nat → Option RF} {Z : CallF} {h : Heap} {x y : Cell} {xs ys : List Past} {fp fq : List Nat}
set_option maxHeartbeats 4000000 in
theorem isPast_run (hI17 : Has F tI17) (w : SlR 1 (Fl Past.enc) h x xs fp) : call F Z 97 [.c x] h = some (.c (.bool (goodPast xs)), h) := by
  have hw := w.le2
  rw [call_run F Z (hI17.lk (g := 97) rfl) _ _ rfl]
  simp only [run0, run1, run2, run3, run4, noSlot, ownS, ownK, memN, RO.dst, lk, drop, forget, number, Nat.reduceBEq, cut?, splice?, builds, List.length_cons, List.length_nil, List.drop_succ_cons, List.drop_zero, List.take_succ_cons, List.take_zero, List.cons_append, List.nil_append, List.append_nil, List.drop_nil, List.take_nil, Nat.reduceAdd, Nat.reduceLeDiff, Nat.zero_add, Nat.add_zero, ↓reduceIte, Bool.not_true, Bool.not_false, decide_true, decide_false, eq_self, bne_self_eq_false, List.getElem?_cons_zero, List.getElem?_cons_succ, decide_eq_true_eq, Bool.false_eq_true, Bool.true_eq_false, reduceCtorEq, Nat.le_refl, w.len]
  have key := loop_all (F := F) (Z := Z) (live := [0, 5, 6, 7]) (b := r97L0) xs (fun i => ⟨[(0, .c x), (5, .c x), (6, .c (.int .i64 (xs.length : Nat))), (7, .c (.int .i64 (i : Nat)))], [], [], h⟩) Past.good (fun s => lk s.env 2 = some (.c (.bool false)) ∧ s.hp = h) fun i hi => by
    have hlt : (i : Int) < xs.length := by omega
    rw [loop_run]
    simp only [r97L0, run0, run1, run2, run3, run4, noSlot, ownS, ownK, memN, RO.dst, lk, drop, forget, number, Nat.reduceBEq, cut?, splice?, builds, List.length_cons, List.length_nil, List.drop_succ_cons, List.drop_zero, List.take_succ_cons, List.take_zero, List.cons_append, List.nil_append, List.append_nil, List.drop_nil, List.take_nil, Nat.reduceAdd, Nat.reduceLeDiff, Nat.zero_add, Nat.add_zero, ↓reduceIte, Bool.not_true, Bool.not_false, decide_true, decide_false, eq_self, bne_self_eq_false, List.getElem?_cons_zero, List.getElem?_cons_succ, decide_eq_true_eq, Bool.false_eq_true, Bool.true_eq_false, reduceCtorEq, Nat.le_refl, w.len, hlt, w.idx hi, w.load hi, Past.enc]
    have hws := wrapS i (by omega)
    generalize xs[i] = p
    obtain ⟨k, a, b, m, s, e, c, v⟩ := p
    clear w hw
    (repeat' ((first | (rw [gF_if]; split) | (rw [condC_if]; split) | (rw [pickR_if]; split)) <;> (rename_i hh; (try simp only [Bool.not_eq_true, decide_eq_true_eq] at hh); simp only [hh, run0, run1, run2, run3, run4, noSlot, ownS, ownK, memN, RO.dst, lk, drop, forget, number, Nat.reduceBEq, cut?, splice?, builds, List.length_cons, List.length_nil, List.drop_succ_cons, List.drop_zero, List.take_succ_cons, List.take_zero, List.cons_append, List.nil_append, List.append_nil, List.drop_nil, List.take_nil, Nat.reduceAdd, Nat.reduceLeDiff, Nat.zero_add, Nat.add_zero, ↓reduceIte, Bool.not_true, Bool.not_false, decide_true, decide_false, eq_self, bne_self_eq_false, List.getElem?_cons_zero, List.getElem?_cons_succ, decide_eq_true_eq, Bool.false_eq_true, Bool.true_eq_false, reduceCtorEq, Nat.le_refl, hws]))) <;> first
      | exact .inl ⟨by simp_all [Past.good, inR] <;> omega, rfl⟩
      | exact .inr ⟨by simp_all [Past.good, inR] <;> omega, _, rfl, rfl, rfl⟩
  rcases key with ⟨k1, k2⟩ | ⟨k1, s, k2, k3, k4⟩
  · simp only [show ((0 : Nat) : Int) = 0 from rfl] at k2
    rw [k2, loop_run]
    have hlt : ¬ (xs.length : Int) < xs.length := by omega
    simp only [r97L0, run0, run1, run2, run3, run4, noSlot, ownS, ownK, memN, RO.dst, lk, drop, forget, number, Nat.reduceBEq, cut?, splice?, builds, List.length_cons, List.length_nil, List.drop_succ_cons, List.drop_zero, List.take_succ_cons, List.take_zero, List.cons_append, List.nil_append, List.append_nil, List.drop_nil, List.take_nil, Nat.reduceAdd, Nat.reduceLeDiff, Nat.zero_add, Nat.add_zero, ↓reduceIte, Bool.not_true, Bool.not_false, decide_true, decide_false, eq_self, bne_self_eq_false, List.getElem?_cons_zero, List.getElem?_cons_succ, decide_eq_true_eq, Bool.false_eq_true, Bool.true_eq_false, reduceCtorEq, Nat.le_refl, w.len, hlt, k1, goodPast, Bool.true_and]
  · simp only [show ((0 : Nat) : Int) = 0 from rfl] at k2
    rw [k2]
    simp only [run0, run1, run2, run3, run4, noSlot, ownS, ownK, memN, RO.dst, lk, drop, forget, number, Nat.reduceBEq, cut?, splice?, builds, List.length_cons, List.length_nil, List.drop_succ_cons, List.drop_zero, List.take_succ_cons, List.take_zero, List.cons_append, List.nil_append, List.append_nil, List.drop_nil, List.take_nil, Nat.reduceAdd, Nat.reduceLeDiff, Nat.zero_add, Nat.add_zero, ↓reduceIte, Bool.not_true, Bool.not_false, decide_true, decide_false, eq_self, bne_self_eq_false, List.getElem?_cons_zero, List.getElem?_cons_succ, decide_eq_true_eq, Bool.false_eq_true, Bool.true_eq_false, reduceCtorEq, Nat.le_refl, k3, k4, k1, goodPast, Bool.false_and]
theorem PastOk_run (hI17 : Has F tI17) (w : SlR 1 (Fl Past.enc) h x xs fp) : call F Z 43 [.c x] h = some (.c (.bool (goodPast xs)), h) := by
  rw [call_run F Z (hI17.lk (g := 43) rfl) _ _ rfl]
  simp only [run0, run1, run2, run3, run4, noSlot, ownS, ownK, memN, RO.dst, lk, drop, forget, number, Nat.reduceBEq, cut?, splice?, builds, List.length_cons, List.length_nil, List.drop_succ_cons, List.drop_zero, List.take_succ_cons, List.take_zero, List.cons_append, List.nil_append, List.append_nil, List.drop_nil, List.take_nil, Nat.reduceAdd, Nat.reduceLeDiff, Nat.zero_add, Nat.add_zero, ↓reduceIte, Bool.not_true, Bool.not_false, decide_true, decide_false, eq_self, bne_self_eq_false, List.getElem?_cons_zero, List.getElem?_cons_succ, decide_eq_true_eq, Bool.false_eq_true, Bool.true_eq_false, reduceCtorEq, Nat.le_refl, isPast_run hI17 w]
set_option maxHeartbeats 4000000 in
theorem sPastOk_run (hS17 : Has F tS17) (hS : Has F tS01d) (w : SlR 1 (Fl Past.enc) h x xs fp) : call F Z 42 [.c x] h = some (.c (.bool (goodPast xs)), h) := by
  have hw := w.le2
  rw [call_run F Z (hS17.lk (g := 42) rfl) _ _ rfl]
  simp only [run0, run1, run2, run3, run4, noSlot, ownS, ownK, memN, RO.dst, lk, drop, forget, number, Nat.reduceBEq, cut?, splice?, builds, List.length_cons, List.length_nil, List.drop_succ_cons, List.drop_zero, List.take_succ_cons, List.take_zero, List.cons_append, List.nil_append, List.append_nil, List.drop_nil, List.take_nil, Nat.reduceAdd, Nat.reduceLeDiff, Nat.zero_add, Nat.add_zero, ↓reduceIte, Bool.not_true, Bool.not_false, decide_true, decide_false, eq_self, bne_self_eq_false, List.getElem?_cons_zero, List.getElem?_cons_succ, decide_eq_true_eq, Bool.false_eq_true, Bool.true_eq_false, reduceCtorEq, Nat.le_refl, w.len]
  have key := loop_all (F := F) (Z := Z) (live := [0, 3]) (b := r42L0) xs (fun i => ⟨[(0, .c x), (3, .c (.int .i64 (i : Nat)))], [], [], h⟩) Past.good (fun s => lk s.env 2 = some (.c (.bool false)) ∧ s.hp = h) fun i hi => by
    have hlt : (i : Int) < xs.length := by omega
    rw [loop_run]
    simp only [r42L0, run0, run1, run2, run3, run4, noSlot, ownS, ownK, memN, RO.dst, lk, drop, forget, number, Nat.reduceBEq, cut?, splice?, builds, List.length_cons, List.length_nil, List.drop_succ_cons, List.drop_zero, List.take_succ_cons, List.take_zero, List.cons_append, List.nil_append, List.append_nil, List.drop_nil, List.take_nil, Nat.reduceAdd, Nat.reduceLeDiff, Nat.zero_add, Nat.add_zero, ↓reduceIte, Bool.not_true, Bool.not_false, decide_true, decide_false, eq_self, bne_self_eq_false, List.getElem?_cons_zero, List.getElem?_cons_succ, decide_eq_true_eq, Bool.false_eq_true, Bool.true_eq_false, reduceCtorEq, Nat.le_refl, w.len, hlt, w.idx hi, w.load hi, Past.enc, l01In_run hS]
    have hws := wrapS i (by omega)
    generalize xs[i] = p
    obtain ⟨k, a, b, m, s, e, c, v⟩ := p
    clear w hw
    have hs : inR s 0 1000000 = true → IntKind.i64.wrap (s + 1) = s + 1 := fun hr => by simp [inR] at hr; exact wrapI _ (by omega) (by omega)
    (repeat' ((first | (rw [gF_if]; split) | (rw [condC_if]; split) | (rw [pickR_if]; split)) <;> (rename_i hh; (try simp only [Bool.not_eq_true, decide_eq_true_eq] at hh); simp only [hh, run0, run1, run2, run3, run4, noSlot, ownS, ownK, memN, RO.dst, lk, drop, forget, number, Nat.reduceBEq, cut?, splice?, builds, List.length_cons, List.length_nil, List.drop_succ_cons, List.drop_zero, List.take_succ_cons, List.take_zero, List.cons_append, List.nil_append, List.append_nil, List.drop_nil, List.take_nil, Nat.reduceAdd, Nat.reduceLeDiff, Nat.zero_add, Nat.add_zero, ↓reduceIte, Bool.not_true, Bool.not_false, decide_true, decide_false, eq_self, bne_self_eq_false, List.getElem?_cons_zero, List.getElem?_cons_succ, decide_eq_true_eq, Bool.false_eq_true, Bool.true_eq_false, reduceCtorEq, Nat.le_refl, hws, l01In_run hS]))) <;> first
      | exact .inl ⟨by simp_all [Past.good, inR] <;> omega, rfl⟩
      | exact .inr ⟨by simp_all [Past.good, inR] <;> omega, _, rfl, rfl, rfl⟩
  rcases key with ⟨k1, k2⟩ | ⟨k1, s, k2, k3, k4⟩
  · simp only [show ((0 : Nat) : Int) = 0 from rfl] at k2
    rw [k2, loop_run]
    have hlt : ¬ (xs.length : Int) < xs.length := by omega
    simp only [r42L0, run0, run1, run2, run3, run4, noSlot, ownS, ownK, memN, RO.dst, lk, drop, forget, number, Nat.reduceBEq, cut?, splice?, builds, List.length_cons, List.length_nil, List.drop_succ_cons, List.drop_zero, List.take_succ_cons, List.take_zero, List.cons_append, List.nil_append, List.append_nil, List.drop_nil, List.take_nil, Nat.reduceAdd, Nat.reduceLeDiff, Nat.zero_add, Nat.add_zero, ↓reduceIte, Bool.not_true, Bool.not_false, decide_true, decide_false, eq_self, bne_self_eq_false, List.getElem?_cons_zero, List.getElem?_cons_succ, decide_eq_true_eq, Bool.false_eq_true, Bool.true_eq_false, reduceCtorEq, Nat.le_refl, w.len, hlt, k1, goodPast, Bool.true_and]
  · simp only [show ((0 : Nat) : Int) = 0 from rfl] at k2
    rw [k2]
    simp only [run0, run1, run2, run3, run4, noSlot, ownS, ownK, memN, RO.dst, lk, drop, forget, number, Nat.reduceBEq, cut?, splice?, builds, List.length_cons, List.length_nil, List.drop_succ_cons, List.drop_zero, List.take_succ_cons, List.take_zero, List.cons_append, List.nil_append, List.append_nil, List.drop_nil, List.take_nil, Nat.reduceAdd, Nat.reduceLeDiff, Nat.zero_add, Nat.add_zero, ↓reduceIte, Bool.not_true, Bool.not_false, decide_true, decide_false, eq_self, bne_self_eq_false, List.getElem?_cons_zero, List.getElem?_cons_succ, decide_eq_true_eq, Bool.false_eq_true, Bool.true_eq_false, reduceCtorEq, Nat.le_refl, k3, k4, k1, goodPast, Bool.false_and]
end
end Go.Proofs.Ytcdlbjomdokmiaa.A
/- What the converters of Int compute. -/
namespace Go.Proofs.Ytcdlbjomdokmiaa.A
open Go
set_option linter.unusedSimpArgs false
set_option linter.unusedVariables false
def int_enc (b : Int) : List Cell := [.int .i64 b]
theorem int_enc_len (b : Int) : (int_enc b).length = 1 := rfl
theorem int_enc_tak (b : Int) : (int_enc b).take 1 = int_enc b := rfl
section
variable {F : Nat → Option RF} {Z : CallF} {h : Heap} {x y : Cell} {xs ys : List Int} {fp fq : List Nat}
def int_zero : List Cell := [.int .i64 0]
theorem eqIntS_run (hL : Has F tLInt) (w : SlR 15 (Fl int_enc) h x xs fp) (v : SlR 15 (Fl int_enc) h y ys fq) : call F Z 285 [.c x, .c y] h = some (.c (.bool (decide (xs = ys))), h) := by
  have hw := w.le2
  have hv := v.le2
  rw [call_run F Z (hL.lk (g := 285) rfl) _ _ rfl]
  simp only [run0, run1, run2, run3, run4, noSlot, ownS, ownK, memN, RO.dst, lk, drop, forget, number, Nat.reduceBEq, cut?, splice?, builds, List.length_cons, List.length_nil, List.drop_succ_cons, List.drop_zero, List.take_succ_cons, List.take_zero, List.cons_append, List.nil_append, List.append_nil, List.drop_nil, List.take_nil, Nat.reduceAdd, Nat.reduceLeDiff, Nat.zero_add, Nat.add_zero, ↓reduceIte, Bool.not_true, Bool.not_false, decide_true, decide_false, eq_self, bne_self_eq_false, List.getElem?_cons_zero, List.getElem?_cons_succ, decide_eq_true_eq, Bool.false_eq_true, Bool.true_eq_false, reduceCtorEq, Nat.le_refl, w.len, v.len]
  rw [condC_if]
  split
  · rename_i hne
    have : xs ≠ ys := by rintro rfl; simp at hne
    simp only [run0, run1, run2, run3, run4, noSlot, ownS, ownK, memN, RO.dst, lk, drop, forget, number, Nat.reduceBEq, cut?, splice?, builds, List.length_cons, List.length_nil, List.drop_succ_cons, List.drop_zero, List.take_succ_cons, List.take_zero, List.cons_append, List.nil_append, List.append_nil, List.drop_nil, List.take_nil, Nat.reduceAdd, Nat.reduceLeDiff, Nat.zero_add, Nat.add_zero, ↓reduceIte, Bool.not_true, Bool.not_false, decide_true, decide_false, eq_self, bne_self_eq_false, List.getElem?_cons_zero, List.getElem?_cons_succ, decide_eq_true_eq, Bool.false_eq_true, Bool.true_eq_false, reduceCtorEq, Nat.le_refl, this]
  · rename_i he
    have he : xs.length = ys.length := by simp at he; omega
    simp only [run0, run1, run2, run3, run4, noSlot, ownS, ownK, memN, RO.dst, lk, drop, forget, number, Nat.reduceBEq, cut?, splice?, builds, List.length_cons, List.length_nil, List.drop_succ_cons, List.drop_zero, List.take_succ_cons, List.take_zero, List.cons_append, List.nil_append, List.append_nil, List.drop_nil, List.take_nil, Nat.reduceAdd, Nat.reduceLeDiff, Nat.zero_add, Nat.add_zero, ↓reduceIte, Bool.not_true, Bool.not_false, decide_true, decide_false, eq_self, bne_self_eq_false, List.getElem?_cons_zero, List.getElem?_cons_succ, decide_eq_true_eq, Bool.false_eq_true, Bool.true_eq_false, reduceCtorEq, Nat.le_refl]
    have key := loop_allN (F := F) (Z := Z) (live := [0, 1, 5]) (b := r285L0) xs.length (fun i => ⟨[(0, .c x), (1, .c y), (5, .c (.int .i64 (i : Nat)))], [], [], h⟩) (fun i => decide (xs[i]? = ys[i]?)) (fun s => lk s.env 4 = some (.c (.bool false)) ∧ s.hp = h) fun i hi => by
      have hi' : i < ys.length := by omega
      have hlt : (i : Int) < xs.length := by omega
      rw [loop_run]
      simp only [r285L0, run0, run1, run2, run3, run4, noSlot, ownS, ownK, memN, RO.dst, lk, drop, forget, number, Nat.reduceBEq, cut?, splice?, builds, List.length_cons, List.length_nil, List.drop_succ_cons, List.drop_zero, List.take_succ_cons, List.take_zero, List.cons_append, List.nil_append, List.append_nil, List.drop_nil, List.take_nil, Nat.reduceAdd, Nat.reduceLeDiff, Nat.zero_add, Nat.add_zero, ↓reduceIte, Bool.not_true, Bool.not_false, decide_true, decide_false, eq_self, bne_self_eq_false, List.getElem?_cons_zero, List.getElem?_cons_succ, decide_eq_true_eq, Bool.false_eq_true, Bool.true_eq_false, reduceCtorEq, Nat.le_refl, w.len, hlt, w.idx hi, v.idx hi', w.load hi, v.load hi', int_enc, wrapS i (by omega)]
      rw [List.getElem?_eq_getElem hi, List.getElem?_eq_getElem hi']
      (repeat' ((first | (rw [gF_if]; split) | (rw [condC_if]; split) | (rw [pickR_if]; split)) <;> (rename_i hh; (try simp only [Bool.not_eq_true, decide_eq_true_eq] at hh); simp only [hh, run0, run1, run2, run3, run4, noSlot, ownS, ownK, memN, RO.dst, lk, drop, forget, number, Nat.reduceBEq, cut?, splice?, builds, List.length_cons, List.length_nil, List.drop_succ_cons, List.drop_zero, List.take_succ_cons, List.take_zero, List.cons_append, List.nil_append, List.append_nil, List.drop_nil, List.take_nil, Nat.reduceAdd, Nat.reduceLeDiff, Nat.zero_add, Nat.add_zero, ↓reduceIte, Bool.not_true, Bool.not_false, decide_true, decide_false, eq_self, bne_self_eq_false, List.getElem?_cons_zero, List.getElem?_cons_succ, decide_eq_true_eq, Bool.false_eq_true, Bool.true_eq_false, reduceCtorEq, Nat.le_refl, wrapS i (by omega)])))
      · exact .inr ⟨by simp_all, _, rfl, rfl, rfl⟩
      · exact .inl ⟨by simp_all, rfl⟩
    rw [all_same he] at key
    rcases key with ⟨k1, k2⟩ | ⟨k1, s, k2, k3, k4⟩
    · simp only [show ((0 : Nat) : Int) = 0 from rfl] at k2
      rw [k2, loop_run]
      have hlt : ¬ (xs.length : Int) < xs.length := by omega
      simp only [r285L0, run0, run1, run2, run3, run4, noSlot, ownS, ownK, memN, RO.dst, lk, drop, forget, number, Nat.reduceBEq, cut?, splice?, builds, List.length_cons, List.length_nil, List.drop_succ_cons, List.drop_zero, List.take_succ_cons, List.take_zero, List.cons_append, List.nil_append, List.append_nil, List.drop_nil, List.take_nil, Nat.reduceAdd, Nat.reduceLeDiff, Nat.zero_add, Nat.add_zero, ↓reduceIte, Bool.not_true, Bool.not_false, decide_true, decide_false, eq_self, bne_self_eq_false, List.getElem?_cons_zero, List.getElem?_cons_succ, decide_eq_true_eq, Bool.false_eq_true, Bool.true_eq_false, reduceCtorEq, Nat.le_refl, w.len, hlt, k1]
    · simp only [show ((0 : Nat) : Int) = 0 from rfl] at k2
      rw [k2]
      simp only [run0, run1, run2, run3, run4, noSlot, ownS, ownK, memN, RO.dst, lk, drop, forget, number, Nat.reduceBEq, cut?, splice?, builds, List.length_cons, List.length_nil, List.drop_succ_cons, List.drop_zero, List.take_succ_cons, List.take_zero, List.cons_append, List.nil_append, List.append_nil, List.drop_nil, List.take_nil, Nat.reduceAdd, Nat.reduceLeDiff, Nat.zero_add, Nat.add_zero, ↓reduceIte, Bool.not_true, Bool.not_false, decide_true, decide_false, eq_self, bne_self_eq_false, List.getElem?_cons_zero, List.getElem?_cons_succ, decide_eq_true_eq, Bool.false_eq_true, Bool.true_eq_false, reduceCtorEq, Nat.le_refl, k3, k4, k1]
/-- What is written to mark one. -/
def int_mk (k : Int) : Int := k
def int_marks (n : Nat) (k : Int) : List Int := (List.range n).map fun i : Nat => int_mk (k + 1 * (i : Int))
theorem int_marks_len (n : Nat) (k : Int) : (int_marks n k).length = n := by simp [int_marks]
set_option maxHeartbeats 1000000 in
theorem markIntS_run (hL : Has F tLInt) (w : SlR 15 (Fl int_enc) h x xs fp) (hlo : ∀ id, id ∈ fp → h.floor ≤ id) (k : Int) (h1 : 0 ≤ k) (h2 : k + 1 * xs.length ≤ 9200000000000000000) :
    ∃ h', call F Z 287 [.c x, .c (.int .i64 k)] h = some (.c (.int .i64 (k + 1 * xs.length)), h') ∧ Mk h h' fp ∧ SlR 15 (Fl int_enc) h' x (int_marks xs.length k) fp := by
  have hle := w.le2
  have hlm := int_marks_len xs.length k
  rw [call_run F Z (hL.lk (g := 287) rfl) _ _ rfl]
  simp only [run0, run1, run2, run3, run4, noSlot, ownS, ownK, memN, RO.dst, lk, drop, forget, number, Nat.reduceBEq, cut?, splice?, builds, List.length_cons, List.length_nil, List.drop_succ_cons, List.drop_zero, List.take_succ_cons, List.take_zero, List.cons_append, List.nil_append, List.append_nil, List.drop_nil, List.take_nil, Nat.reduceAdd, Nat.reduceLeDiff, Nat.zero_add, Nat.add_zero, ↓reduceIte, Bool.not_true, Bool.not_false, decide_true, decide_false, eq_self, bne_self_eq_false, List.getElem?_cons_zero, List.getElem?_cons_succ, decide_eq_true_eq, Bool.false_eq_true, Bool.true_eq_false, reduceCtorEq, Nat.le_refl]
  rcases w.flat with ⟨rfl, rfl, rfl⟩ | ⟨hx, hg, hn, rfl⟩
  · rw [loop_run]
    simp only [r287L0, run0, run1, run2, run3, run4, noSlot, ownS, ownK, memN, RO.dst, lk, drop, forget, number, Nat.reduceBEq, cut?, splice?, builds, List.length_cons, List.length_nil, List.drop_succ_cons, List.drop_zero, List.take_succ_cons, List.take_zero, List.cons_append, List.nil_append, List.append_nil, List.drop_nil, List.take_nil, Nat.reduceAdd, Nat.reduceLeDiff, Nat.zero_add, Nat.add_zero, ↓reduceIte, Bool.not_true, Bool.not_false, decide_true, decide_false, eq_self, bne_self_eq_false, List.getElem?_cons_zero, List.getElem?_cons_succ, decide_eq_true_eq, Bool.false_eq_true, Bool.true_eq_false, reduceCtorEq, Nat.le_refl, show ¬ ((0 : Int) < 0) from by omega]
    exact ⟨h, by simp, Mk.refl _ _, by simpa [int_marks] using w⟩
  · have hfl : h.floor ≤ x.sid := hlo _ (by simp)
    have key : loop F Z [0, 1, 5] r287L0 ⟨[(0, .c x), (1, .c (.int .i64 (k + 1 * (0 : Nat)))), (5, .c (.int .i64 (0 : Nat)))], [], [], h.put x.sid (mixR int_enc (int_marks xs.length k) xs 0)⟩ = loop F Z [0, 1, 5] r287L0 ⟨[(0, .c x), (1, .c (.int .i64 (k + 1 * (xs.length : Nat)))), (5, .c (.int .i64 (xs.length : Nat)))], [], [], h.put x.sid (mixR int_enc (int_marks xs.length k) xs xs.length)⟩ :=
      loop_goesF xs.length (fun i => ⟨[(0, .c x), (1, .c (.int .i64 (k + 1 * (i : Nat)))), (5, .c (.int .i64 (i : Nat)))], [], [], h.put x.sid (mixR int_enc (int_marks xs.length k) xs i)⟩) fun i hi => by
        have hlt : (i : Int) < xs.length := by omega
        have hi2 : i < (mixR int_enc (int_marks xs.length k) xs i).length := by rw [mixR_len _ hlm]; exact hi
        have hms : (int_marks xs.length k)[i]'(by omega) = int_mk (k + 1 * i) := by simp [int_marks]
        have hset := mixR_set int_enc hlm hi
        rw [hms] at hset
        have hput := storeP_put (h := h) hfl hi2
        rw [← mixR_cur int_enc hlm hi, ← hset, loop_run]
        simp (disch := omega) only [r287L0, run0, run1, run2, run3, run4, noSlot, ownS, ownK, memN, RO.dst, lk, drop, forget, number, Nat.reduceBEq, cut?, splice?, builds, List.length_cons, List.length_nil, List.drop_succ_cons, List.drop_zero, List.take_succ_cons, List.take_zero, List.cons_append, List.nil_append, List.append_nil, List.drop_nil, List.take_nil, Nat.reduceAdd, Nat.reduceLeDiff, Nat.zero_add, Nat.add_zero, ↓reduceIte, Bool.not_true, Bool.not_false, decide_true, decide_false, eq_self, bne_self_eq_false, List.getElem?_cons_zero, List.getElem?_cons_succ, decide_eq_true_eq, Bool.false_eq_true, Bool.true_eq_false, reduceCtorEq, Nat.le_refl, w.len, hlt, w.idx hi, hput, putM_s, wrapI1, wrapU1, int_enc, b_rem, beq_self_eq_true, Int.reduceEq, int_mk]
        rw [show k + 1 * ((i : Nat) : Int) + 1 = k + 1 * ((i + 1 : Nat) : Int) from by omega, show ((i : Nat) : Int) + 1 = ((i + 1 : Nat) : Int) from rfl]
    rw [mixR_0, put_same hg, mixR_n _ hlm] at key
    simp only [show ((0 : Nat) : Int) = 0 from rfl, Int.mul_zero, Int.add_zero] at key
    rw [key, loop_run]
    have hlt : ¬ (xs.length : Int) < xs.length := by omega
    simp only [r287L0, run0, run1, run2, run3, run4, noSlot, ownS, ownK, memN, RO.dst, lk, drop, forget, number, Nat.reduceBEq, cut?, splice?, builds, List.length_cons, List.length_nil, List.drop_succ_cons, List.drop_zero, List.take_succ_cons, List.take_zero, List.cons_append, List.nil_append, List.append_nil, List.drop_nil, List.take_nil, Nat.reduceAdd, Nat.reduceLeDiff, Nat.zero_add, Nat.add_zero, ↓reduceIte, Bool.not_true, Bool.not_false, decide_true, decide_false, eq_self, bne_self_eq_false, List.getElem?_cons_zero, List.getElem?_cons_succ, decide_eq_true_eq, Bool.false_eq_true, Bool.true_eq_false, reduceCtorEq, Nat.le_refl, w.len, hlt]
    refine ⟨_, rfl, Mk.put _ _ _, ?_⟩
    have := SlR.ofFlat (tag := 15) (h := h.put x.sid ((int_marks xs.length k).map int_enc)) (enc := int_enc) (xs := int_marks xs.length k) (id := x.sid) (by rw [hlm]; exact w.le) (by simp [Heap.put]) hn
    rw [hlm, ← hx] at this
    exact this
set_option maxHeartbeats 1000000 in
theorem heldIntS_run (hL : Has F tLInt) {n : Nat} {k : Int} (w : SlR 15 (Fl int_enc) h x (int_marks n k) fp) (h1 : 0 ≤ k) (h2 : k + 1 * n ≤ 9200000000000000000) :
    call F Z 288 [.c x, .c (.int .i64 k)] h = some (.c (.int .i64 (k + 1 * n)), h) := by
  have hle := w.le2
  have hwl := w.len
  rw [int_marks_len] at hle hwl
  rw [call_run F Z (hL.lk (g := 288) rfl) _ _ rfl]
  simp only [run0, run1, run2, run3, run4, noSlot, ownS, ownK, memN, RO.dst, lk, drop, forget, number, Nat.reduceBEq, cut?, splice?, builds, List.length_cons, List.length_nil, List.drop_succ_cons, List.drop_zero, List.take_succ_cons, List.take_zero, List.cons_append, List.nil_append, List.append_nil, List.drop_nil, List.take_nil, Nat.reduceAdd, Nat.reduceLeDiff, Nat.zero_add, Nat.add_zero, ↓reduceIte, Bool.not_true, Bool.not_false, decide_true, decide_false, eq_self, bne_self_eq_false, List.getElem?_cons_zero, List.getElem?_cons_succ, decide_eq_true_eq, Bool.false_eq_true, Bool.true_eq_false, reduceCtorEq, Nat.le_refl]
  have key : loop F Z [0, 1, 5] r288L0 ⟨[(0, .c x), (1, .c (.int .i64 (k + 1 * (0 : Nat)))), (5, .c (.int .i64 (0 : Nat)))], [], [], h⟩ = loop F Z [0, 1, 5] r288L0 ⟨[(0, .c x), (1, .c (.int .i64 (k + 1 * (n : Nat)))), (5, .c (.int .i64 (n : Nat)))], [], [], h⟩ :=
    loop_goesF n (fun i => ⟨[(0, .c x), (1, .c (.int .i64 (k + 1 * (i : Nat)))), (5, .c (.int .i64 (i : Nat)))], [], [], h⟩) fun i hi0 => by
      have hi : i < (int_marks n k).length := by rw [int_marks_len]; exact hi0
      have hlt : (i : Int) < n := by omega
      have hms : (int_marks n k)[i] = int_mk (k + 1 * i) := by simp [int_marks]
      have hld := w.load hi
      rw [hms] at hld
      rw [loop_run]
      simp (disch := omega) only [r288L0, run0, run1, run2, run3, run4, noSlot, ownS, ownK, memN, RO.dst, lk, drop, forget, number, Nat.reduceBEq, cut?, splice?, builds, List.length_cons, List.length_nil, List.drop_succ_cons, List.drop_zero, List.take_succ_cons, List.take_zero, List.cons_append, List.nil_append, List.append_nil, List.drop_nil, List.take_nil, Nat.reduceAdd, Nat.reduceLeDiff, Nat.zero_add, Nat.add_zero, ↓reduceIte, Bool.not_true, Bool.not_false, decide_true, decide_false, eq_self, bne_self_eq_false, List.getElem?_cons_zero, List.getElem?_cons_succ, decide_eq_true_eq, Bool.false_eq_true, Bool.true_eq_false, reduceCtorEq, Nat.le_refl, hwl, hlt, w.idx hi, hld, wrapI1, wrapU1, int_enc, b_rem, beq_self_eq_true, int_mk, Int.reduceEq]
      rw [show k + 1 * ((i : Nat) : Int) + 1 = k + 1 * ((i + 1 : Nat) : Int) from by omega, show ((i : Nat) : Int) + 1 = ((i + 1 : Nat) : Int) from rfl]
  simp only [show ((0 : Nat) : Int) = 0 from rfl, Int.mul_zero, Int.add_zero] at key
  rw [key, loop_run]
  have hlt : ¬ (n : Int) < n := by omega
  simp only [r288L0, run0, run1, run2, run3, run4, noSlot, ownS, ownK, memN, RO.dst, lk, drop, forget, number, Nat.reduceBEq, cut?, splice?, builds, List.length_cons, List.length_nil, List.drop_succ_cons, List.drop_zero, List.take_succ_cons, List.take_zero, List.cons_append, List.nil_append, List.append_nil, List.drop_nil, List.take_nil, Nat.reduceAdd, Nat.reduceLeDiff, Nat.zero_add, Nat.add_zero, ↓reduceIte, Bool.not_true, Bool.not_false, decide_true, decide_false, eq_self, bne_self_eq_false, List.getElem?_cons_zero, List.getElem?_cons_succ, decide_eq_true_eq, Bool.false_eq_true, Bool.true_eq_false, reduceCtorEq, Nat.le_refl, hwl, hlt]
end
end Go.Proofs.Ytcdlbjomdokmiaa.A
/- Calls in an order: which may come next, and whether all that were answered are there; both ways. -/
namespace Go.Proofs.Ytcdlbjomdokmiaa.A
open Go
set_option linter.unusedSimpArgs false
set_option linter.unusedVariables false
def Past.call (p : Past) : LedgerCall := ⟨p.kind, p.a, p.b, p.m⟩
structure Past.Ok (p : Past) : Prop where
  call : p.call.Ok
theorem Wf.past_ok {h : Heap} {n : Nat} {cs : List Cell} (w : Wf h (n + 3) shPast cs) : ∃ p : Past, cs = p.enc ∧ p.Ok := by
  obtain ⟨_, _, rfl, _, ⟨_, _, rfl, _, ⟨k, rfl, w1⟩, _, _, rfl, _, ⟨a, rfl, w2⟩, _, _, rfl, _, ⟨b, rfl, w3⟩, _, _, rfl, _, ⟨m, rfl, w4⟩, rfl⟩, _, _, rfl, _, ⟨s, rfl, _⟩, _, _, rfl, _, ⟨e, rfl, _⟩, _, _, rfl, _, ⟨c, rfl, _⟩, _, _, rfl, _, ⟨v, rfl, _⟩, rfl⟩ := w
  exact ⟨⟨k, a, b, m, s, e, c, v⟩, rfl, ⟨⟨wfI w1, wfU w2, wfU w3, wfU w4⟩⟩⟩
section
variable {F : Nat → Option RF} {Z : CallF} {h : Heap} {x y : Cell} {xs : List Past} {os : List Int} {fp fq : List Nat}
theorem indexInt_run (hL : Has F tLibslicesIndexintint) (w : SlR 15 (Fl int_enc) h x os fp) (f : Int) : call F Z 379 [.c x, .c (.int .i64 f)] h = some (.c (.int .i64 (findI (fun a => decide (f = a)) os)), h) := by
  have hle := w.le2
  rw [call_run F Z (hL.lk (g := 379) rfl) _ _ rfl]
  simp only [run0, run1, run2, run3, run4, noSlot, ownS, ownK, memN, RO.dst, lk, drop, forget, number, Nat.reduceBEq, cut?, splice?, builds, List.length_cons, List.length_nil, List.drop_succ_cons, List.drop_zero, List.take_succ_cons, List.take_zero, List.cons_append, List.nil_append, List.append_nil, List.drop_nil, List.take_nil, Nat.reduceAdd, Nat.reduceLeDiff, Nat.zero_add, Nat.add_zero, ↓reduceIte, Bool.not_true, Bool.not_false, decide_true, decide_false, eq_self, bne_self_eq_false, List.getElem?_cons_zero, List.getElem?_cons_succ, decide_eq_true_eq, Bool.false_eq_true, Bool.true_eq_false, reduceCtorEq, Nat.le_refl, w.len]
  have key := loop_find (F := F) (Z := Z) (live := [0, 1, 7, 8]) (b := r379L0) os (fun a => decide (f = a)) (fun i => ⟨[(0, .c x), (1, .c (.int .i64 f)), (7, .c (.int .i64 (os.length : Nat))), (8, .c (.int .i64 (i : Nat)))], [], [], h⟩) (fun i s => lk s.env 4 = some (.c (.int .i64 (i : Nat))) ∧ s.hp = h) fun i hi => by
    have hlt : (i : Int) < os.length := by omega
    have hws := wrapS i (by omega)
    have hxi := w.idx hi
    have hld := w.load hi
    generalize os[i] = a at *
    rw [loop_run]
    conv in (codeF _ _ r379L0 _) => unfold r379L0
    simp only [run0, run1, run2, run3, run4, noSlot, ownS, ownK, memN, RO.dst, lk, drop, forget, number, Nat.reduceBEq, cut?, splice?, builds, List.length_cons, List.length_nil, List.drop_succ_cons, List.drop_zero, List.take_succ_cons, List.take_zero, List.cons_append, List.nil_append, List.append_nil, List.drop_nil, List.take_nil, Nat.reduceAdd, Nat.reduceLeDiff, Nat.zero_add, Nat.add_zero, ↓reduceIte, Bool.not_true, Bool.not_false, decide_true, decide_false, eq_self, bne_self_eq_false, List.getElem?_cons_zero, List.getElem?_cons_succ, decide_eq_true_eq, Bool.false_eq_true, Bool.true_eq_false, reduceCtorEq, Nat.le_refl, hlt, hxi, hld, int_enc]
    clear hxi hld w
    (repeat' ((first | (rw [gF_if]; split) | (rw [condC_if]; split) | (rw [pickR_if]; split)) <;> (rename_i hh; (try simp only [Bool.not_eq_true, decide_eq_true_eq] at hh); simp only [hh, run0, run1, run2, run3, run4, noSlot, ownS, ownK, memN, RO.dst, lk, drop, forget, number, Nat.reduceBEq, cut?, splice?, builds, List.length_cons, List.length_nil, List.drop_succ_cons, List.drop_zero, List.take_succ_cons, List.take_zero, List.cons_append, List.nil_append, List.append_nil, List.drop_nil, List.take_nil, Nat.reduceAdd, Nat.reduceLeDiff, Nat.zero_add, Nat.add_zero, ↓reduceIte, Bool.not_true, Bool.not_false, decide_true, decide_false, eq_self, bne_self_eq_false, List.getElem?_cons_zero, List.getElem?_cons_succ, decide_eq_true_eq, Bool.false_eq_true, Bool.true_eq_false, reduceCtorEq, Nat.le_refl, hws]))) <;> first
      | exact .inl ⟨by simp_all, rfl⟩
      | exact .inr ⟨by simp_all, _, rfl, rfl, rfl⟩
  have hlt : ¬ (os.length : Int) < os.length := by omega
  simp only [show ((0 : Nat) : Int) = 0 from rfl] at key
  rcases key with ⟨k1, k2⟩ | ⟨i, k1, hi, s, k2, k3, k4⟩
  · rw [k2, loop_run]
    conv in (codeF _ _ r379L0 _) => unfold r379L0
    simp only [run0, run1, run2, run3, run4, noSlot, ownS, ownK, memN, RO.dst, lk, drop, forget, number, Nat.reduceBEq, cut?, splice?, builds, List.length_cons, List.length_nil, List.drop_succ_cons, List.drop_zero, List.take_succ_cons, List.take_zero, List.cons_append, List.nil_append, List.append_nil, List.drop_nil, List.take_nil, Nat.reduceAdd, Nat.reduceLeDiff, Nat.zero_add, Nat.add_zero, ↓reduceIte, Bool.not_true, Bool.not_false, decide_true, decide_false, eq_self, bne_self_eq_false, List.getElem?_cons_zero, List.getElem?_cons_succ, decide_eq_true_eq, Bool.false_eq_true, Bool.true_eq_false, reduceCtorEq, Nat.le_refl, hlt, findI, k1]
  · rw [k2]
    simp only [run0, run1, run2, run3, run4, noSlot, ownS, ownK, memN, RO.dst, lk, drop, forget, number, Nat.reduceBEq, cut?, splice?, builds, List.length_cons, List.length_nil, List.drop_succ_cons, List.drop_zero, List.take_succ_cons, List.take_zero, List.cons_append, List.nil_append, List.append_nil, List.drop_nil, List.take_nil, Nat.reduceAdd, Nat.reduceLeDiff, Nat.zero_add, Nat.add_zero, ↓reduceIte, Bool.not_true, Bool.not_false, decide_true, decide_false, eq_self, bne_self_eq_false, List.getElem?_cons_zero, List.getElem?_cons_succ, decide_eq_true_eq, Bool.false_eq_true, Bool.true_eq_false, reduceCtorEq, Nat.le_refl, k3, k4, findI, k1]
theorem containsInt_run (hL : Has F tLibslicesIndexintint) (hC : Has F tLibslicesContainsintint) (w : SlR 15 (Fl int_enc) h x os fp) (f : Int) : call F Z 378 [.c x, .c (.int .i64 f)] h = some (.c (.bool (decide (f ∈ os))), h) := by
  rw [call_run F Z (hC.lk (g := 378) rfl) _ _ rfl]
  simp only [run0, run1, run2, run3, run4, noSlot, ownS, ownK, memN, RO.dst, lk, drop, forget, number, Nat.reduceBEq, cut?, splice?, builds, List.length_cons, List.length_nil, List.drop_succ_cons, List.drop_zero, List.take_succ_cons, List.take_zero, List.cons_append, List.nil_append, List.append_nil, List.drop_nil, List.take_nil, Nat.reduceAdd, Nat.reduceLeDiff, Nat.zero_add, Nat.add_zero, ↓reduceIte, Bool.not_true, Bool.not_false, decide_true, decide_false, eq_self, bne_self_eq_false, List.getElem?_cons_zero, List.getElem?_cons_succ, decide_eq_true_eq, Bool.false_eq_true, Bool.true_eq_false, reduceCtorEq, Nat.le_refl, indexInt_run hL w f]
  congr 4
  unfold findI
  cases hf : os.findIdx? (fun a => decide (f = a)) with
  | none =>
    rw [List.findIdx?_eq_none_iff] at hf
    have : ¬ f ∈ os := fun hm => by simpa using hf f hm
    simp [this]
  | some i =>
    rw [List.findIdx?_eq_some_iff_getElem] at hf
    obtain ⟨hi, h2, _⟩ := hf
    have : f ∈ os := by
      have : f = os[i] := by simpa using h2
      rw [this]; exact List.getElem_mem hi
    simp [this]
theorem l01Has_run (hS : Has F tS01d) (w : SlR 15 (Fl int_enc) h x os fp) (f : Int) : call F Z 377 [.c x, .c (.int .i64 f)] h = some (.c (.bool (decide (f ∈ os))), h) := by
  have hle := w.le2
  rw [call_run F Z (hS.lk (g := 377) rfl) _ _ rfl]
  simp only [run0, run1, run2, run3, run4, noSlot, ownS, ownK, memN, RO.dst, lk, drop, forget, number, Nat.reduceBEq, cut?, splice?, builds, List.length_cons, List.length_nil, List.drop_succ_cons, List.drop_zero, List.take_succ_cons, List.take_zero, List.cons_append, List.nil_append, List.append_nil, List.drop_nil, List.take_nil, Nat.reduceAdd, Nat.reduceLeDiff, Nat.zero_add, Nat.add_zero, ↓reduceIte, Bool.not_true, Bool.not_false, decide_true, decide_false, eq_self, bne_self_eq_false, List.getElem?_cons_zero, List.getElem?_cons_succ, decide_eq_true_eq, Bool.false_eq_true, Bool.true_eq_false, reduceCtorEq, Nat.le_refl]
  have key := loop_find (F := F) (Z := Z) (live := [0, 1, 5]) (b := r377L0) os (fun a => decide (a = f)) (fun i => ⟨[(0, .c x), (1, .c (.int .i64 f)), (5, .c (.int .i64 (i : Nat)))], [], [], h⟩) (fun i s => lk s.env 4 = some (.c (.bool true)) ∧ s.hp = h) fun i hi => by
    have hlt : (i : Int) < os.length := by omega
    have hws := wrapS i (by omega)
    have hxi := w.idx hi
    have hld := w.load hi
    have hln := w.len
    generalize os[i] = a at *
    rw [loop_run]
    conv in (codeF _ _ r377L0 _) => unfold r377L0
    simp only [run0, run1, run2, run3, run4, noSlot, ownS, ownK, memN, RO.dst, lk, drop, forget, number, Nat.reduceBEq, cut?, splice?, builds, List.length_cons, List.length_nil, List.drop_succ_cons, List.drop_zero, List.take_succ_cons, List.take_zero, List.cons_append, List.nil_append, List.append_nil, List.drop_nil, List.take_nil, Nat.reduceAdd, Nat.reduceLeDiff, Nat.zero_add, Nat.add_zero, ↓reduceIte, Bool.not_true, Bool.not_false, decide_true, decide_false, eq_self, bne_self_eq_false, List.getElem?_cons_zero, List.getElem?_cons_succ, decide_eq_true_eq, Bool.false_eq_true, Bool.true_eq_false, reduceCtorEq, Nat.le_refl, hln, hlt, hxi, hld, int_enc]
    clear hxi hld w
    (repeat' ((first | (rw [gF_if]; split) | (rw [condC_if]; split) | (rw [pickR_if]; split)) <;> (rename_i hh; (try simp only [Bool.not_eq_true, decide_eq_true_eq] at hh); simp only [hh, run0, run1, run2, run3, run4, noSlot, ownS, ownK, memN, RO.dst, lk, drop, forget, number, Nat.reduceBEq, cut?, splice?, builds, List.length_cons, List.length_nil, List.drop_succ_cons, List.drop_zero, List.take_succ_cons, List.take_zero, List.cons_append, List.nil_append, List.append_nil, List.drop_nil, List.take_nil, Nat.reduceAdd, Nat.reduceLeDiff, Nat.zero_add, Nat.add_zero, ↓reduceIte, Bool.not_true, Bool.not_false, decide_true, decide_false, eq_self, bne_self_eq_false, List.getElem?_cons_zero, List.getElem?_cons_succ, decide_eq_true_eq, Bool.false_eq_true, Bool.true_eq_false, reduceCtorEq, Nat.le_refl, hws]))) <;> first
      | exact .inl ⟨by simp_all, rfl⟩
      | exact .inr ⟨by simp_all, _, rfl, rfl, rfl⟩
  have hlt : ¬ (os.length : Int) < os.length := by omega
  simp only [show ((0 : Nat) : Int) = 0 from rfl] at key
  rcases key with ⟨k1, k2⟩ | ⟨i, k1, hi, s, k2, k3, k4⟩
  · have hno : ¬ f ∈ os := fun hm => by
      rw [List.findIdx?_eq_none_iff] at k1
      simpa using k1 f hm
    rw [k2, loop_run]
    conv in (codeF _ _ r377L0 _) => unfold r377L0
    simp only [run0, run1, run2, run3, run4, noSlot, ownS, ownK, memN, RO.dst, lk, drop, forget, number, Nat.reduceBEq, cut?, splice?, builds, List.length_cons, List.length_nil, List.drop_succ_cons, List.drop_zero, List.take_succ_cons, List.take_zero, List.cons_append, List.nil_append, List.append_nil, List.drop_nil, List.take_nil, Nat.reduceAdd, Nat.reduceLeDiff, Nat.zero_add, Nat.add_zero, ↓reduceIte, Bool.not_true, Bool.not_false, decide_true, decide_false, eq_self, bne_self_eq_false, List.getElem?_cons_zero, List.getElem?_cons_succ, decide_eq_true_eq, Bool.false_eq_true, Bool.true_eq_false, reduceCtorEq, Nat.le_refl, w.len, hlt, decide_eq_false hno]
  · have hyes : f ∈ os := by
      rw [List.findIdx?_eq_some_iff_getElem] at k1
      obtain ⟨hi, h2, _⟩ := k1
      have : os[i] = f := by simpa using h2
      rw [← this]; exact List.getElem_mem hi
    rw [k2]
    simp only [run0, run1, run2, run3, run4, noSlot, ownS, ownK, memN, RO.dst, lk, drop, forget, number, Nat.reduceBEq, cut?, splice?, builds, List.length_cons, List.length_nil, List.drop_succ_cons, List.drop_zero, List.take_succ_cons, List.take_zero, List.cons_append, List.nil_append, List.append_nil, List.drop_nil, List.take_nil, Nat.reduceAdd, Nat.reduceLeDiff, Nat.zero_add, Nat.add_zero, ↓reduceIte, Bool.not_true, Bool.not_false, decide_true, decide_false, eq_self, bne_self_eq_false, List.getElem?_cons_zero, List.getElem?_cons_succ, decide_eq_true_eq, Bool.false_eq_true, Bool.true_eq_false, reduceCtorEq, Nat.le_refl, k3, k4, decide_eq_true hyes]
/-- All calls that were answered are in an order. -/
def allIn (xs : List Past) (os : List Int) : Bool := (List.range xs.length).all fun i => ((xs[i]?).all fun p => p.end_ == -1) || decide ((i : Int) ∈ os)
set_option maxHeartbeats 1000000 in
theorem hasAnswered_run (hI17 : Has F tI17) (hL : Has F tLibslicesIndexintint) (hC : Has F tLibslicesContainsintint) (w : SlR 1 (Fl Past.enc) h x xs fp) (v : SlR 15 (Fl int_enc) h y os fq) : call F Z 373 [.c x, .c y] h = some (.c (.bool (allIn xs os)), h) := by
  have hle := w.le2
  rw [call_run F Z (hI17.lk (g := 373) rfl) _ _ rfl]
  simp only [run0, run1, run2, run3, run4, noSlot, ownS, ownK, memN, RO.dst, lk, drop, forget, number, Nat.reduceBEq, cut?, splice?, builds, List.length_cons, List.length_nil, List.drop_succ_cons, List.drop_zero, List.take_succ_cons, List.take_zero, List.cons_append, List.nil_append, List.append_nil, List.drop_nil, List.take_nil, Nat.reduceAdd, Nat.reduceLeDiff, Nat.zero_add, Nat.add_zero, ↓reduceIte, Bool.not_true, Bool.not_false, decide_true, decide_false, eq_self, bne_self_eq_false, List.getElem?_cons_zero, List.getElem?_cons_succ, decide_eq_true_eq, Bool.false_eq_true, Bool.true_eq_false, reduceCtorEq, Nat.le_refl, w.len]
  have key := loop_allN (F := F) (Z := Z) (live := [1, 7, 8, 9]) (b := r373L0) xs.length (fun i => ⟨[(1, .c y), (7, .c x), (8, .c (.int .i64 (xs.length : Nat))), (9, .c (.int .i64 (i : Nat)))], [], [], h⟩) (fun i => ((xs[i]?).all fun p => p.end_ == -1) || decide ((i : Int) ∈ os)) (fun s => lk s.env 4 = some (.c (.bool false)) ∧ s.hp = h) fun i hi => by
    have hlt : (i : Int) < xs.length := by omega
    have hws := wrapS i (by omega)
    have hxi := w.idx hi
    have hld := w.load hi
    have hct := containsInt_run (Z := Z) hL hC v (i : Int)
    rw [List.getElem?_eq_getElem hi]
    generalize xs[i] = p at *
    obtain ⟨k, a, b, m, s, e, c, v⟩ := p
    generalize decide ((i : Int) ∈ os) = d at *
    rw [loop_run]
    conv in (codeF _ _ r373L0 _) => unfold r373L0
    simp only [run0, run1, run2, run3, run4, noSlot, ownS, ownK, memN, RO.dst, lk, drop, forget, number, Nat.reduceBEq, cut?, splice?, builds, List.length_cons, List.length_nil, List.drop_succ_cons, List.drop_zero, List.take_succ_cons, List.take_zero, List.cons_append, List.nil_append, List.append_nil, List.drop_nil, List.take_nil, Nat.reduceAdd, Nat.reduceLeDiff, Nat.zero_add, Nat.add_zero, ↓reduceIte, Bool.not_true, Bool.not_false, decide_true, decide_false, eq_self, bne_self_eq_false, List.getElem?_cons_zero, List.getElem?_cons_succ, decide_eq_true_eq, Bool.false_eq_true, Bool.true_eq_false, reduceCtorEq, Nat.le_refl, hlt, hxi, hld, Past.enc, hct]
    clear hxi hld w
    (repeat' ((first | (rw [gF_if]; split) | (rw [condC_if]; split) | (rw [pickR_if]; split)) <;> (rename_i hh; (try simp only [Bool.not_eq_true, decide_eq_true_eq] at hh); simp only [hh, run0, run1, run2, run3, run4, noSlot, ownS, ownK, memN, RO.dst, lk, drop, forget, number, Nat.reduceBEq, cut?, splice?, builds, List.length_cons, List.length_nil, List.drop_succ_cons, List.drop_zero, List.take_succ_cons, List.take_zero, List.cons_append, List.nil_append, List.append_nil, List.drop_nil, List.take_nil, Nat.reduceAdd, Nat.reduceLeDiff, Nat.zero_add, Nat.add_zero, ↓reduceIte, Bool.not_true, Bool.not_false, decide_true, decide_false, eq_self, bne_self_eq_false, List.getElem?_cons_zero, List.getElem?_cons_succ, decide_eq_true_eq, Bool.false_eq_true, Bool.true_eq_false, reduceCtorEq, Nat.le_refl, hws, hct]))) <;> first
      | exact .inl ⟨by simp_all, rfl⟩
      | exact .inr ⟨by simp_all, _, rfl, rfl, rfl⟩
  have hlt : ¬ (xs.length : Int) < xs.length := by omega
  simp only [show ((0 : Nat) : Int) = 0 from rfl] at key
  rcases key with ⟨k1, k2⟩ | ⟨k1, s, k2, k3, k4⟩
  · rw [k2, loop_run]
    conv in (codeF _ _ r373L0 _) => unfold r373L0
    simp only [run0, run1, run2, run3, run4, noSlot, ownS, ownK, memN, RO.dst, lk, drop, forget, number, Nat.reduceBEq, cut?, splice?, builds, List.length_cons, List.length_nil, List.drop_succ_cons, List.drop_zero, List.take_succ_cons, List.take_zero, List.cons_append, List.nil_append, List.append_nil, List.drop_nil, List.take_nil, Nat.reduceAdd, Nat.reduceLeDiff, Nat.zero_add, Nat.add_zero, ↓reduceIte, Bool.not_true, Bool.not_false, decide_true, decide_false, eq_self, bne_self_eq_false, List.getElem?_cons_zero, List.getElem?_cons_succ, decide_eq_true_eq, Bool.false_eq_true, Bool.true_eq_false, reduceCtorEq, Nat.le_refl, hlt, allIn, k1]
  · rw [k2]
    simp only [run0, run1, run2, run3, run4, noSlot, ownS, ownK, memN, RO.dst, lk, drop, forget, number, Nat.reduceBEq, cut?, splice?, builds, List.length_cons, List.length_nil, List.drop_succ_cons, List.drop_zero, List.take_succ_cons, List.take_zero, List.cons_append, List.nil_append, List.append_nil, List.drop_nil, List.take_nil, Nat.reduceAdd, Nat.reduceLeDiff, Nat.zero_add, Nat.add_zero, ↓reduceIte, Bool.not_true, Bool.not_false, decide_true, decide_false, eq_self, bne_self_eq_false, List.getElem?_cons_zero, List.getElem?_cons_succ, decide_eq_true_eq, Bool.false_eq_true, Bool.true_eq_false, reduceCtorEq, Nat.le_refl, k3, k4, allIn, k1]
set_option maxHeartbeats 1000000 in
theorem l17All_run (hS17 : Has F tS17) (hS : Has F tS01d) (w : SlR 1 (Fl Past.enc) h x xs fp) (v : SlR 15 (Fl int_enc) h y os fq) : call F Z 370 [.c x, .c y] h = some (.c (.bool (allIn xs os)), h) := by
  have hle := w.le2
  rw [call_run F Z (hS17.lk (g := 370) rfl) _ _ rfl]
  simp only [run0, run1, run2, run3, run4, noSlot, ownS, ownK, memN, RO.dst, lk, drop, forget, number, Nat.reduceBEq, cut?, splice?, builds, List.length_cons, List.length_nil, List.drop_succ_cons, List.drop_zero, List.take_succ_cons, List.take_zero, List.cons_append, List.nil_append, List.append_nil, List.drop_nil, List.take_nil, Nat.reduceAdd, Nat.reduceLeDiff, Nat.zero_add, Nat.add_zero, ↓reduceIte, Bool.not_true, Bool.not_false, decide_true, decide_false, eq_self, bne_self_eq_false, List.getElem?_cons_zero, List.getElem?_cons_succ, decide_eq_true_eq, Bool.false_eq_true, Bool.true_eq_false, reduceCtorEq, Nat.le_refl]
  have key := loop_allN (F := F) (Z := Z) (live := [0, 1, 5]) (b := r370L0) xs.length (fun i => ⟨[(0, .c x), (1, .c y), (5, .c (.int .i64 (i : Nat)))], [], [], h⟩) (fun i => ((xs[i]?).all fun p => p.end_ == -1) || decide ((i : Int) ∈ os)) (fun s => lk s.env 4 = some (.c (.bool false)) ∧ s.hp = h) fun i hi => by
    have hlt : (i : Int) < xs.length := by omega
    have hws := wrapS i (by omega)
    have hxi := w.idx hi
    have hld := w.load hi
    have hln := w.len
    have hct := l01Has_run (Z := Z) hS v (i : Int)
    rw [List.getElem?_eq_getElem hi]
    generalize xs[i] = p at *
    obtain ⟨k, a, b, m, s, e, c, v⟩ := p
    generalize decide ((i : Int) ∈ os) = d at *
    rw [loop_run]
    conv in (codeF _ _ r370L0 _) => unfold r370L0
    simp only [run0, run1, run2, run3, run4, noSlot, ownS, ownK, memN, RO.dst, lk, drop, forget, number, Nat.reduceBEq, cut?, splice?, builds, List.length_cons, List.length_nil, List.drop_succ_cons, List.drop_zero, List.take_succ_cons, List.take_zero, List.cons_append, List.nil_append, List.append_nil, List.drop_nil, List.take_nil, Nat.reduceAdd, Nat.reduceLeDiff, Nat.zero_add, Nat.add_zero, ↓reduceIte, Bool.not_true, Bool.not_false, decide_true, decide_false, eq_self, bne_self_eq_false, List.getElem?_cons_zero, List.getElem?_cons_succ, decide_eq_true_eq, Bool.false_eq_true, Bool.true_eq_false, reduceCtorEq, Nat.le_refl, hln, hlt, hxi, hld, Past.enc, hct]
    clear hxi hld w
    (repeat' ((first | (rw [gF_if]; split) | (rw [condC_if]; split) | (rw [pickR_if]; split)) <;> (rename_i hh; (try simp only [Bool.not_eq_true, decide_eq_true_eq] at hh); simp only [hh, run0, run1, run2, run3, run4, noSlot, ownS, ownK, memN, RO.dst, lk, drop, forget, number, Nat.reduceBEq, cut?, splice?, builds, List.length_cons, List.length_nil, List.drop_succ_cons, List.drop_zero, List.take_succ_cons, List.take_zero, List.cons_append, List.nil_append, List.append_nil, List.drop_nil, List.take_nil, Nat.reduceAdd, Nat.reduceLeDiff, Nat.zero_add, Nat.add_zero, ↓reduceIte, Bool.not_true, Bool.not_false, decide_true, decide_false, eq_self, bne_self_eq_false, List.getElem?_cons_zero, List.getElem?_cons_succ, decide_eq_true_eq, Bool.false_eq_true, Bool.true_eq_false, reduceCtorEq, Nat.le_refl, hws, hct]))) <;> first
      | exact .inl ⟨by simp_all, rfl⟩
      | exact .inr ⟨by simp_all, _, rfl, rfl, rfl⟩
  have hlt : ¬ (xs.length : Int) < xs.length := by omega
  simp only [show ((0 : Nat) : Int) = 0 from rfl] at key
  rcases key with ⟨k1, k2⟩ | ⟨k1, s, k2, k3, k4⟩
  · rw [k2, loop_run]
    conv in (codeF _ _ r370L0 _) => unfold r370L0
    simp only [run0, run1, run2, run3, run4, noSlot, ownS, ownK, memN, RO.dst, lk, drop, forget, number, Nat.reduceBEq, cut?, splice?, builds, List.length_cons, List.length_nil, List.drop_succ_cons, List.drop_zero, List.take_succ_cons, List.take_zero, List.cons_append, List.nil_append, List.append_nil, List.drop_nil, List.take_nil, Nat.reduceAdd, Nat.reduceLeDiff, Nat.zero_add, Nat.add_zero, ↓reduceIte, Bool.not_true, Bool.not_false, decide_true, decide_false, eq_self, bne_self_eq_false, List.getElem?_cons_zero, List.getElem?_cons_succ, decide_eq_true_eq, Bool.false_eq_true, Bool.true_eq_false, reduceCtorEq, Nat.le_refl, w.len, hlt, allIn, k1]
  · rw [k2]
    simp only [run0, run1, run2, run3, run4, noSlot, ownS, ownK, memN, RO.dst, lk, drop, forget, number, Nat.reduceBEq, cut?, splice?, builds, List.length_cons, List.length_nil, List.drop_succ_cons, List.drop_zero, List.take_succ_cons, List.take_zero, List.cons_append, List.nil_append, List.append_nil, List.drop_nil, List.take_nil, Nat.reduceAdd, Nat.reduceLeDiff, Nat.zero_add, Nat.add_zero, ↓reduceIte, Bool.not_true, Bool.not_false, decide_true, decide_false, eq_self, bne_self_eq_false, List.getElem?_cons_zero, List.getElem?_cons_succ, decide_eq_true_eq, Bool.false_eq_true, Bool.true_eq_false, reduceCtorEq, Nat.le_refl, k3, k4, allIn, k1]
end
end Go.Proofs.Ytcdlbjomdokmiaa.A
/- Whether a call may come behind others: both ways. -/
namespace Go.Proofs.Ytcdlbjomdokmiaa.A
open Go
set_option linter.unusedSimpArgs false
set_option linter.unusedVariables false
def Past.nth (xs : List Past) (i : Nat) : Past := xs[i]?.getD ⟨0, 0, 0, 0, 0, 0, 0, 0⟩
theorem Past.nth_get {xs : List Past} {i : Nat} (hi : i < xs.length) : Past.nth xs i = xs[i] := by simp [Past.nth, List.getElem?_eq_getElem hi]
def clash (xs : List Past) (pre : List Int) (k : Nat) : Bool := !(pre.all fun z => !((z == (k : Int)) || aheadB (Past.nth xs k).end_ (Past.nth xs z.toNat).start))
def answered (xs : List Past) (bs : List Account) (k : Nat) : Bool :=
  (Past.nth xs k).end_ == -1 || ((ledgerRes bs (Past.nth xs k).call).2 == (Past.nth xs k).code && ledgerVal (ledgerRes bs (Past.nth xs k).call) (Past.nth xs k).a == (Past.nth xs k).value)
def fitsO (xs : List Past) (pre : List Int) (bs : List Account) (k : Nat) : Bool := !clash xs pre k && answered xs bs k
section
variable {F : Nat → Option RF} {Z : CallF} {h : Heap} {x y b : Cell} {xs : List Past} {pre : List Int} {bs : List Account} {fp fq : List Nat}
set_option maxHeartbeats 2000000 in
theorem follows_c (hI10 : Has F tI10) (hI17 : Has F tI17) (pri : PrimAt F Z 343 (insF 11 40)) (prd : PrimAt F Z 348 (delF 11)) (hf : h.floor ≤ h.next) (w : SlR 1 (Fl Past.enc) h x xs fp) (v : Vw 15 int_enc h y pre) (u : SlR 11 (Fl Account.enc) h b bs fq)
    (hok : ∀ t, t ∈ bs → t.Ok) (sm : bs.length ≤ 1048576) (okx : ∀ p, p ∈ xs → p.Ok) {k : Nat} (hk : k < xs.length) (hp : ∀ z, z ∈ pre → 0 ≤ z ∧ z < xs.length) :
    ∃ c' h', call F Z 372 [.c x, .c y, .c (.int .i64 (k : Nat)), .agg [b]] h = some (.tup [.agg [c'], .c (.bool (fitsO xs pre bs k))], h') ∧ On h h' ∧ (fitsO xs pre bs k = true → ∃ fq', SlR 11 (Fl Account.enc) h' c' (ledgerRes bs (Past.nth xs k).call).1 fq' ∧ Fre h fq') := by
  have hle := w.le2
  have hvl := v.le2
  have hxk := w.idx hk
  have hlk := w.load hk
  have okp := (okx _ (List.getElem_mem hk)).call
  rw [← Past.nth_get hk] at hlk okp
  rw [call_run F Z (hI17.lk (g := 372) rfl) _ _ rfl]
  unfold fitsO
  obtain ⟨yb, h1, f1, e1, o1, w1, r1⟩ := doLedger_c (Z := Z) hI10 hI17 pri prd hf u (Past.nth xs k).call okp hok sm
  unfold answered
  generalize ledgerRes bs (Past.nth xs k).call = res at *
  have hpk : (Past.nth xs k).a = (Past.nth xs k).call.a := rfl
  simp only [LedgerCall.enc, Past.call] at e1 hpk
  unfold clash
  generalize Past.nth xs k = p at *
  obtain ⟨pk, pa, pb, pm, ps, pe, pc, pv⟩ := p
  simp only at e1
  simp only [run0, run1, run2, run3, run4, noSlot, ownS, ownK, memN, RO.dst, lk, drop, forget, number, Nat.reduceBEq, cut?, splice?, builds, List.length_cons, List.length_nil, List.drop_succ_cons, List.drop_zero, List.take_succ_cons, List.take_zero, List.cons_append, List.nil_append, List.append_nil, List.drop_nil, List.take_nil, Nat.reduceAdd, Nat.reduceLeDiff, Nat.zero_add, Nat.add_zero, ↓reduceIte, Bool.not_true, Bool.not_false, decide_true, decide_false, eq_self, bne_self_eq_false, List.getElem?_cons_zero, List.getElem?_cons_succ, decide_eq_true_eq, Bool.false_eq_true, Bool.true_eq_false, reduceCtorEq, Nat.le_refl, hxk, hlk, Past.enc, v.len]
  have key := loop_all (F := F) (Z := Z) (live := [0, 2, 7, 8, 10, 20, 21, 22]) (b := r372L0) pre (fun i => ⟨[(0, .c x), (2, .c (.int .i64 (k : Nat))), (20, .c y), (21, .c (.int .i64 (pre.length : Nat))), (22, .c (.int .i64 (i : Nat)))], [(7, 7, 0), (8, 8, 0), (10, 10, 0)], [(7, [b]), (8, [.nil]), (10, [.int .i64 pk, .int .u64 pa, .int .u64 pb, .int .u64 pm, .int .i64 ps, .int .i64 pe, .int .i64 pc, .int .u64 pv])], h⟩)
    (fun z => !((z == (k : Int)) || aheadB pe (Past.nth xs z.toNat).start)) (fun s => lk s.env 9 = some (.c (.bool false)) ∧ lk s.adr 8 = some (8, 0) ∧ lk s.loc 8 = some [b] ∧ s.hp = h) fun i hi => by
    have hlt : (i : Int) < pre.length := by omega
    have hws := wrapS i (by omega)
    have hyi := v.idx hi
    have hyl := v.load hi
    have hz := hp _ (List.getElem_mem hi)
    generalize pre[i] = z at *
    obtain ⟨j, rfl⟩ : ∃ j : Nat, z = (j : Int) := ⟨z.toNat, by omega⟩
    have hj : j < xs.length := by omega
    have hxj := w.idx hj
    have hlj := w.load hj
    rw [← Past.nth_get hj] at hlj
    rw [Int.toNat_natCast]
    generalize Past.nth xs j = q at *
    obtain ⟨qk, qa, qb, qm, qs, qe, qc, qv⟩ := q
    have ha := fun g => ahead_run (Z := Z) hI17 pk pa pb pm ps pe pc pv qk qa qb qm qs qe qc qv g
    rw [loop_run]
    conv in (codeF _ _ r372L0 _) => unfold r372L0
    by_cases hjk : (j : Int) = (k : Int)
    · have hjk' : ((j : Int) == (k : Int)) = true := by simpa using hjk
      refine .inr ⟨by rw [hjk']; rfl, ?_⟩
      simp only [run0, run1, run2, run3, run4, noSlot, ownS, ownK, memN, RO.dst, lk, drop, forget, number, Nat.reduceBEq, cut?, splice?, builds, List.length_cons, List.length_nil, List.drop_succ_cons, List.drop_zero, List.take_succ_cons, List.take_zero, List.cons_append, List.nil_append, List.append_nil, List.drop_nil, List.take_nil, Nat.reduceAdd, Nat.reduceLeDiff, Nat.zero_add, Nat.add_zero, ↓reduceIte, Bool.not_true, Bool.not_false, decide_true, decide_false, eq_self, bne_self_eq_false, List.getElem?_cons_zero, List.getElem?_cons_succ, decide_eq_true_eq, Bool.false_eq_true, Bool.true_eq_false, reduceCtorEq, Nat.le_refl, hlt, hyi, hyl, int_enc, hjk']
      exact ⟨_, rfl, rfl, rfl, rfl, rfl⟩
    · have hjk' : ((j : Int) == (k : Int)) = false := by simpa using hjk
      rw [hjk']
      cases hd : aheadB pe qs with
      | true =>
        rw [hd] at ha
        refine .inr ⟨rfl, ?_⟩
        simp only [run0, run1, run2, run3, run4, noSlot, ownS, ownK, memN, RO.dst, lk, drop, forget, number, Nat.reduceBEq, cut?, splice?, builds, List.length_cons, List.length_nil, List.drop_succ_cons, List.drop_zero, List.take_succ_cons, List.take_zero, List.cons_append, List.nil_append, List.append_nil, List.drop_nil, List.take_nil, Nat.reduceAdd, Nat.reduceLeDiff, Nat.zero_add, Nat.add_zero, ↓reduceIte, Bool.not_true, Bool.not_false, decide_true, decide_false, eq_self, bne_self_eq_false, List.getElem?_cons_zero, List.getElem?_cons_succ, decide_eq_true_eq, Bool.false_eq_true, Bool.true_eq_false, reduceCtorEq, Nat.le_refl, hlt, hyi, hyl, int_enc, hjk', hxj, hlj, Past.enc, ha]
        exact ⟨_, rfl, rfl, rfl, rfl, rfl⟩
      | false =>
        rw [hd] at ha
        refine .inl ⟨rfl, ?_⟩
        simp only [run0, run1, run2, run3, run4, noSlot, ownS, ownK, memN, RO.dst, lk, drop, forget, number, Nat.reduceBEq, cut?, splice?, builds, List.length_cons, List.length_nil, List.drop_succ_cons, List.drop_zero, List.take_succ_cons, List.take_zero, List.cons_append, List.nil_append, List.append_nil, List.drop_nil, List.take_nil, Nat.reduceAdd, Nat.reduceLeDiff, Nat.zero_add, Nat.add_zero, ↓reduceIte, Bool.not_true, Bool.not_false, decide_true, decide_false, eq_self, bne_self_eq_false, List.getElem?_cons_zero, List.getElem?_cons_succ, decide_eq_true_eq, Bool.false_eq_true, Bool.true_eq_false, reduceCtorEq, Nat.le_refl, hlt, hyi, hyl, int_enc, hjk', hxj, hlj, Past.enc, ha, hws]
  have hlt : ¬ (pre.length : Int) < pre.length := by omega
  simp only [show ((0 : Nat) : Int) = 0 from rfl] at key
  rcases key with ⟨k1, k2⟩ | ⟨k1, s, k2, k3, k4, k5, k6⟩
  · rw [k2, loop_run]
    conv in (codeF _ _ r372L0 _) => unfold r372L0
    rw [k1]
    simp only [run0, run1, run2, run3, run4, noSlot, ownS, ownK, memN, RO.dst, lk, drop, forget, number, Nat.reduceBEq, cut?, splice?, builds, List.length_cons, List.length_nil, List.drop_succ_cons, List.drop_zero, List.take_succ_cons, List.take_zero, List.cons_append, List.nil_append, List.append_nil, List.drop_nil, List.take_nil, Nat.reduceAdd, Nat.reduceLeDiff, Nat.zero_add, Nat.add_zero, ↓reduceIte, Bool.not_true, Bool.not_false, decide_true, decide_false, eq_self, bne_self_eq_false, List.getElem?_cons_zero, List.getElem?_cons_succ, decide_eq_true_eq, Bool.false_eq_true, Bool.true_eq_false, reduceCtorEq, Nat.le_refl, hlt, e1]
    clear k2 e1 hxk hlk w v u
    by_cases c1 : pe = -1
    · have c1' : (pe == -1) = true := by simpa using c1
      simp only [run0, run1, run2, run3, run4, noSlot, ownS, ownK, memN, RO.dst, lk, drop, forget, number, Nat.reduceBEq, cut?, splice?, builds, List.length_cons, List.length_nil, List.drop_succ_cons, List.drop_zero, List.take_succ_cons, List.take_zero, List.cons_append, List.nil_append, List.append_nil, List.drop_nil, List.take_nil, Nat.reduceAdd, Nat.reduceLeDiff, Nat.zero_add, Nat.add_zero, ↓reduceIte, Bool.not_true, Bool.not_false, decide_true, decide_false, eq_self, bne_self_eq_false, List.getElem?_cons_zero, List.getElem?_cons_succ, decide_eq_true_eq, Bool.false_eq_true, Bool.true_eq_false, reduceCtorEq, Nat.le_refl, c1', Bool.true_or, Bool.not_not]
      exact ⟨_, _, rfl, o1, fun _ => ⟨_, w1, r1⟩⟩
    · have c1' : (pe == -1) = false := by simpa using c1
      by_cases c2 : res.2 = pc
      · have c2' : (res.2 == pc) = true := by simpa using c2
        simp only [run0, run1, run2, run3, run4, noSlot, ownS, ownK, memN, RO.dst, lk, drop, forget, number, Nat.reduceBEq, cut?, splice?, builds, List.length_cons, List.length_nil, List.drop_succ_cons, List.drop_zero, List.take_succ_cons, List.take_zero, List.cons_append, List.nil_append, List.append_nil, List.drop_nil, List.take_nil, Nat.reduceAdd, Nat.reduceLeDiff, Nat.zero_add, Nat.add_zero, ↓reduceIte, Bool.not_true, Bool.not_false, decide_true, decide_false, eq_self, bne_self_eq_false, List.getElem?_cons_zero, List.getElem?_cons_succ, decide_eq_true_eq, Bool.false_eq_true, Bool.true_eq_false, reduceCtorEq, Nat.le_refl, c1', c2', Bool.true_and, Bool.false_or, Bool.not_not]
        exact ⟨_, _, rfl, o1, fun _ => ⟨_, w1, r1⟩⟩
      · have c2' : (res.2 == pc) = false := by simpa using c2
        simp only [run0, run1, run2, run3, run4, noSlot, ownS, ownK, memN, RO.dst, lk, drop, forget, number, Nat.reduceBEq, cut?, splice?, builds, List.length_cons, List.length_nil, List.drop_succ_cons, List.drop_zero, List.take_succ_cons, List.take_zero, List.cons_append, List.nil_append, List.append_nil, List.drop_nil, List.take_nil, Nat.reduceAdd, Nat.reduceLeDiff, Nat.zero_add, Nat.add_zero, ↓reduceIte, Bool.not_true, Bool.not_false, decide_true, decide_false, eq_self, bne_self_eq_false, List.getElem?_cons_zero, List.getElem?_cons_succ, decide_eq_true_eq, Bool.false_eq_true, Bool.true_eq_false, reduceCtorEq, Nat.le_refl, c1', c2', Bool.false_and, Bool.false_or, Bool.and_false]
        exact ⟨_, _, rfl, o1, fun h => (nomatch h)⟩
  · rw [k2, k1]
    simp only [run0, run1, run2, run3, run4, noSlot, ownS, ownK, memN, RO.dst, lk, drop, forget, number, Nat.reduceBEq, cut?, splice?, builds, List.length_cons, List.length_nil, List.drop_succ_cons, List.drop_zero, List.take_succ_cons, List.take_zero, List.cons_append, List.nil_append, List.append_nil, List.drop_nil, List.take_nil, Nat.reduceAdd, Nat.reduceLeDiff, Nat.zero_add, Nat.add_zero, ↓reduceIte, Bool.not_true, Bool.not_false, decide_true, decide_false, eq_self, bne_self_eq_false, List.getElem?_cons_zero, List.getElem?_cons_succ, decide_eq_true_eq, Bool.false_eq_true, Bool.true_eq_false, reduceCtorEq, Nat.le_refl, k3, k4, k5, k6, Bool.false_and, Bool.not_true, Bool.not_false]
    exact ⟨_, _, rfl, On.refl h, fun h => (nomatch h)⟩
set_option maxHeartbeats 2000000 in
theorem l17Fits_c (hS10 : Has F tS10) (hS17 : Has F tS17) (hf : h.floor ≤ h.next) (w : SlR 1 (Fl Past.enc) h x xs fp) (v : Vw 15 int_enc h y pre) (u : SlR 11 (Fl Account.enc) h b bs fq)
    (hok : ∀ t, t ∈ bs → t.Ok) (sm : bs.length ≤ 1048576) (okx : ∀ p, p ∈ xs → p.Ok) {k : Nat} (hk : k < xs.length) (hp : ∀ z, z ∈ pre → 0 ≤ z ∧ z < xs.length) :
    ∃ c' h', call F Z 371 [.c x, .c y, .agg [b], .c (.int .i64 (k : Nat))] h = some (.tup [.agg [c'], .c (.bool (fitsO xs pre bs k))], h') ∧ On h h' ∧ (fitsO xs pre bs k = true → ∃ fq', SlR 11 (Fl Account.enc) h' c' (ledgerRes bs (Past.nth xs k).call).1 fq' ∧ Fre h fq') := by
  have hle := w.le2
  have hvl := v.le2
  have hxk := w.idx hk
  have hlk := w.load hk
  have okp := (okx _ (List.getElem_mem hk)).call
  rw [← Past.nth_get hk] at hlk okp
  rw [call_run F Z (hS17.lk (g := 371) rfl) _ _ rfl]
  unfold fitsO
  obtain ⟨yb, hq, f1, e1, oq, wq, rq⟩ := sDoLedger_c0 (Z := Z) (h := ⟨h.next, h.next, h.get⟩) hS10 hS17 (Nat.le_refl _) (u.up (Fl.ok _) _) (Past.nth xs k).call okp hok sm
  obtain ⟨h1, mq⟩ : ∃ g, Heap.mk hq.next h.floor hq.get = g := ⟨_, rfl⟩
  have o1 : On h h1 := by rw [← mq]; exact ⟨⟨oq.ext.1, oq.ext.2⟩, rfl⟩
  have w1 := wq.up (Fl.ok _) h.floor
  change SlR 11 (Fl Account.enc) ⟨hq.next, h.floor, hq.get⟩ yb _ f1 at w1
  rw [mq] at w1
  have r1 : Fre h f1 := ⟨rq.lo, rq.nd⟩
  have hlk1 : ∀ j n, loadP h1 x.sid k j n = cut? (Past.nth xs k).enc j n := fun j n => by rw [Past.nth_get hk]; exact (w.on (Fl.ok _) o1).load hk j n
  unfold answered
  generalize ledgerRes bs (Past.nth xs k).call = res at *
  have hpk : (Past.nth xs k).a = (Past.nth xs k).call.a := rfl
  simp only [LedgerCall.enc, Past.call] at e1 hpk
  unfold clash
  generalize Past.nth xs k = p at *
  obtain ⟨pk, pa, pb, pm, ps, pe, pc, pv⟩ := p
  simp only at e1
  simp only [run0, run1, run2, run3, run4, noSlot, ownS, ownK, memN, RO.dst, lk, drop, forget, number, Nat.reduceBEq, cut?, splice?, builds, List.length_cons, List.length_nil, List.drop_succ_cons, List.drop_zero, List.take_succ_cons, List.take_zero, List.cons_append, List.nil_append, List.append_nil, List.drop_nil, List.take_nil, Nat.reduceAdd, Nat.reduceLeDiff, Nat.zero_add, Nat.add_zero, ↓reduceIte, Bool.not_true, Bool.not_false, decide_true, decide_false, eq_self, bne_self_eq_false, List.getElem?_cons_zero, List.getElem?_cons_succ, decide_eq_true_eq, Bool.false_eq_true, Bool.true_eq_false, reduceCtorEq, Nat.le_refl]
  have key := loop_all (F := F) (Z := Z) (live := [0, 1, 3, 6, 8, 10]) (b := r371L0) pre (fun i => ⟨[(0, .c x), (1, .c y), (3, .c (.int .i64 (k : Nat))), (10, .c (.int .i64 (i : Nat)))], [(6, 6, 0), (8, 8, 0)], [(6, [b]), (8, [.nil])], h⟩)
    (fun z => !((z == (k : Int)) || aheadB pe (Past.nth xs z.toNat).start)) (fun s => lk s.env 9 = some (.c (.bool false)) ∧ lk s.adr 8 = some (8, 0) ∧ lk s.loc 8 = some [b] ∧ s.hp = h) fun i hi => by
    have hlt : (i : Int) < pre.length := by omega
    have hws := wrapS i (by omega)
    have hyi := v.idx hi
    have hyl := v.load hi
    have hyn := v.len
    have hz := hp _ (List.getElem_mem hi)
    generalize pre[i] = z at *
    obtain ⟨j, rfl⟩ : ∃ j : Nat, z = (j : Int) := ⟨z.toNat, by omega⟩
    have hj : j < xs.length := by omega
    have hxj := w.idx hj
    have hlj := w.load hj
    rw [← Past.nth_get hj] at hlj
    rw [Int.toNat_natCast]
    generalize Past.nth xs j = q at *
    obtain ⟨qk, qa, qb, qm, qs, qe, qc, qv⟩ := q
    have ha := fun g => sAhead_run (Z := Z) hS17 pk pa pb pm ps pe pc pv qk qa qb qm qs qe qc qv g
    rw [loop_run]
    conv in (codeF _ _ r371L0 _) => unfold r371L0
    by_cases hjk : (j : Int) = (k : Int)
    · have hjk' : ((j : Int) == (k : Int)) = true := by simpa using hjk
      refine .inr ⟨by rw [hjk']; rfl, ?_⟩
      simp only [run0, run1, run2, run3, run4, noSlot, ownS, ownK, memN, RO.dst, lk, drop, forget, number, Nat.reduceBEq, cut?, splice?, builds, List.length_cons, List.length_nil, List.drop_succ_cons, List.drop_zero, List.take_succ_cons, List.take_zero, List.cons_append, List.nil_append, List.append_nil, List.drop_nil, List.take_nil, Nat.reduceAdd, Nat.reduceLeDiff, Nat.zero_add, Nat.add_zero, ↓reduceIte, Bool.not_true, Bool.not_false, decide_true, decide_false, eq_self, bne_self_eq_false, List.getElem?_cons_zero, List.getElem?_cons_succ, decide_eq_true_eq, Bool.false_eq_true, Bool.true_eq_false, reduceCtorEq, Nat.le_refl, hyn, hlt, hyi, hyl, int_enc, hjk']
      exact ⟨_, rfl, rfl, rfl, rfl, rfl⟩
    · have hjk' : ((j : Int) == (k : Int)) = false := by simpa using hjk
      rw [hjk']
      cases hd : aheadB pe qs with
      | true =>
        rw [hd] at ha
        refine .inr ⟨rfl, ?_⟩
        simp only [run0, run1, run2, run3, run4, noSlot, ownS, ownK, memN, RO.dst, lk, drop, forget, number, Nat.reduceBEq, cut?, splice?, builds, List.length_cons, List.length_nil, List.drop_succ_cons, List.drop_zero, List.take_succ_cons, List.take_zero, List.cons_append, List.nil_append, List.append_nil, List.drop_nil, List.take_nil, Nat.reduceAdd, Nat.reduceLeDiff, Nat.zero_add, Nat.add_zero, ↓reduceIte, Bool.not_true, Bool.not_false, decide_true, decide_false, eq_self, bne_self_eq_false, List.getElem?_cons_zero, List.getElem?_cons_succ, decide_eq_true_eq, Bool.false_eq_true, Bool.true_eq_false, reduceCtorEq, Nat.le_refl, hyn, hlt, hyi, hyl, int_enc, hjk', hxj, hlj, hxk, hlk, Past.enc, ha]
        exact ⟨_, rfl, rfl, rfl, rfl, rfl⟩
      | false =>
        rw [hd] at ha
        refine .inl ⟨rfl, ?_⟩
        simp only [run0, run1, run2, run3, run4, noSlot, ownS, ownK, memN, RO.dst, lk, drop, forget, number, Nat.reduceBEq, cut?, splice?, builds, List.length_cons, List.length_nil, List.drop_succ_cons, List.drop_zero, List.take_succ_cons, List.take_zero, List.cons_append, List.nil_append, List.append_nil, List.drop_nil, List.take_nil, Nat.reduceAdd, Nat.reduceLeDiff, Nat.zero_add, Nat.add_zero, ↓reduceIte, Bool.not_true, Bool.not_false, decide_true, decide_false, eq_self, bne_self_eq_false, List.getElem?_cons_zero, List.getElem?_cons_succ, decide_eq_true_eq, Bool.false_eq_true, Bool.true_eq_false, reduceCtorEq, Nat.le_refl, hyn, hlt, hyi, hyl, int_enc, hjk', hxj, hlj, hxk, hlk, Past.enc, ha, hws]
  have hlt : ¬ (pre.length : Int) < pre.length := by omega
  simp only [show ((0 : Nat) : Int) = 0 from rfl] at key
  rcases key with ⟨k1, k2⟩ | ⟨k1, s, k2, k3, k4, k5, k6⟩
  · rw [k2, loop_run]
    conv in (codeF _ _ r371L0 _) => unfold r371L0
    rw [k1]
    simp only [run0, run1, run2, run3, run4, noSlot, ownS, ownK, memN, RO.dst, lk, drop, forget, number, Nat.reduceBEq, cut?, splice?, builds, List.length_cons, List.length_nil, List.drop_succ_cons, List.drop_zero, List.take_succ_cons, List.take_zero, List.cons_append, List.nil_append, List.append_nil, List.drop_nil, List.take_nil, Nat.reduceAdd, Nat.reduceLeDiff, Nat.zero_add, Nat.add_zero, ↓reduceIte, Bool.not_true, Bool.not_false, decide_true, decide_false, eq_self, bne_self_eq_false, List.getElem?_cons_zero, List.getElem?_cons_succ, decide_eq_true_eq, Bool.false_eq_true, Bool.true_eq_false, reduceCtorEq, Nat.le_refl, v.len, hlt, hxk, hlk, Past.enc, e1, mq]
    clear k2 e1 w v u
    by_cases c1 : pe = -1
    · have c1' : (pe == -1) = true := by simpa using c1
      have c1n : (pe != -1) = false := by simpa using c1
      simp only [run0, run1, run2, run3, run4, noSlot, ownS, ownK, memN, RO.dst, lk, drop, forget, number, Nat.reduceBEq, cut?, splice?, builds, List.length_cons, List.length_nil, List.drop_succ_cons, List.drop_zero, List.take_succ_cons, List.take_zero, List.cons_append, List.nil_append, List.append_nil, List.drop_nil, List.take_nil, Nat.reduceAdd, Nat.reduceLeDiff, Nat.zero_add, Nat.add_zero, ↓reduceIte, Bool.not_true, Bool.not_false, decide_true, decide_false, eq_self, bne_self_eq_false, List.getElem?_cons_zero, List.getElem?_cons_succ, decide_eq_true_eq, Bool.false_eq_true, Bool.true_eq_false, reduceCtorEq, Nat.le_refl, hxk, hlk1, Past.enc, c1', c1n, Bool.true_or, Bool.not_not]
      exact ⟨_, _, rfl, o1, fun _ => ⟨_, w1, r1⟩⟩
    · have c1' : (pe == -1) = false := by simpa using c1
      have c1n : (pe != -1) = true := by simpa using c1
      by_cases c2 : res.2 = pc
      · have c2' : (res.2 == pc) = true := by simpa using c2
        have c2n : (res.2 != pc) = false := by simpa using c2
        by_cases c3 : ledgerVal res pa = pv
        · have c3' : (ledgerVal res pa == pv) = true := by simpa using c3
          have c3n : (ledgerVal res pa != pv) = false := by simpa using c3
          simp only [run0, run1, run2, run3, run4, noSlot, ownS, ownK, memN, RO.dst, lk, drop, forget, number, Nat.reduceBEq, cut?, splice?, builds, List.length_cons, List.length_nil, List.drop_succ_cons, List.drop_zero, List.take_succ_cons, List.take_zero, List.cons_append, List.nil_append, List.append_nil, List.drop_nil, List.take_nil, Nat.reduceAdd, Nat.reduceLeDiff, Nat.zero_add, Nat.add_zero, ↓reduceIte, Bool.not_true, Bool.not_false, decide_true, decide_false, eq_self, bne_self_eq_false, List.getElem?_cons_zero, List.getElem?_cons_succ, decide_eq_true_eq, Bool.false_eq_true, Bool.true_eq_false, reduceCtorEq, Nat.le_refl, hxk, hlk1, Past.enc, c1', c1n, c2', c2n, c3', c3n, Bool.true_and, Bool.false_or, Bool.not_not]
          exact ⟨_, _, rfl, o1, fun _ => ⟨_, w1, r1⟩⟩
        · have c3' : (ledgerVal res pa == pv) = false := by simpa using c3
          have c3n : (ledgerVal res pa != pv) = true := by simpa using c3
          simp only [run0, run1, run2, run3, run4, noSlot, ownS, ownK, memN, RO.dst, lk, drop, forget, number, Nat.reduceBEq, cut?, splice?, builds, List.length_cons, List.length_nil, List.drop_succ_cons, List.drop_zero, List.take_succ_cons, List.take_zero, List.cons_append, List.nil_append, List.append_nil, List.drop_nil, List.take_nil, Nat.reduceAdd, Nat.reduceLeDiff, Nat.zero_add, Nat.add_zero, ↓reduceIte, Bool.not_true, Bool.not_false, decide_true, decide_false, eq_self, bne_self_eq_false, List.getElem?_cons_zero, List.getElem?_cons_succ, decide_eq_true_eq, Bool.false_eq_true, Bool.true_eq_false, reduceCtorEq, Nat.le_refl, hxk, hlk1, Past.enc, c1', c1n, c2', c2n, c3', c3n, Bool.true_and, Bool.false_or, Bool.and_false]
          exact ⟨_, _, rfl, o1, fun h => (nomatch h)⟩
      · have c2' : (res.2 == pc) = false := by simpa using c2
        have c2n : (res.2 != pc) = true := by simpa using c2
        simp only [run0, run1, run2, run3, run4, noSlot, ownS, ownK, memN, RO.dst, lk, drop, forget, number, Nat.reduceBEq, cut?, splice?, builds, List.length_cons, List.length_nil, List.drop_succ_cons, List.drop_zero, List.take_succ_cons, List.take_zero, List.cons_append, List.nil_append, List.append_nil, List.drop_nil, List.take_nil, Nat.reduceAdd, Nat.reduceLeDiff, Nat.zero_add, Nat.add_zero, ↓reduceIte, Bool.not_true, Bool.not_false, decide_true, decide_false, eq_self, bne_self_eq_false, List.getElem?_cons_zero, List.getElem?_cons_succ, decide_eq_true_eq, Bool.false_eq_true, Bool.true_eq_false, reduceCtorEq, Nat.le_refl, hxk, hlk1, Past.enc, c1', c1n, c2', c2n, Bool.false_and, Bool.false_or, Bool.and_false]
        exact ⟨_, _, rfl, o1, fun h => (nomatch h)⟩
  · rw [k2, k1]
    simp only [run0, run1, run2, run3, run4, noSlot, ownS, ownK, memN, RO.dst, lk, drop, forget, number, Nat.reduceBEq, cut?, splice?, builds, List.length_cons, List.length_nil, List.drop_succ_cons, List.drop_zero, List.take_succ_cons, List.take_zero, List.cons_append, List.nil_append, List.append_nil, List.drop_nil, List.take_nil, Nat.reduceAdd, Nat.reduceLeDiff, Nat.zero_add, Nat.add_zero, ↓reduceIte, Bool.not_true, Bool.not_false, decide_true, decide_false, eq_self, bne_self_eq_false, List.getElem?_cons_zero, List.getElem?_cons_succ, decide_eq_true_eq, Bool.false_eq_true, Bool.true_eq_false, reduceCtorEq, Nat.le_refl, k3, k4, k5, k6, Bool.false_and, Bool.not_true, Bool.not_false]
    exact ⟨_, _, rfl, On.refl h, fun h => (nomatch h)⟩
end
end Go.Proofs.Ytcdlbjomdokmiaa.A
/- Calls done one by one in an order: both ways. -/
namespace Go.Proofs.Ytcdlbjomdokmiaa.A
open Go
set_option linter.unusedSimpArgs false
set_option linter.unusedVariables false
abbrev OkL (xs : List Account) : Prop := ∀ t, t ∈ xs → t.Ok
theorem Account.at_ok {xs : List Account} (h : OkL xs) (i : Nat) : (Account.at_ xs i).Ok := by
  unfold Account.at_
  cases hx : xs[i]? with
  | none => exact ⟨by simp [Account.none_], by simp [Account.none_], by simp [Account.none_], by simp [Account.none_], by simp [Account.none_]⟩
  | some t => exact h t (List.mem_of_getElem? hx)
theorem OkL.set {xs : List Account} (h : OkL xs) (i : Nat) {a : Account} (ha : a.Ok) : OkL (xs.set i a) := fun t ht => by
  rcases List.mem_or_eq_of_mem_set ht with ht | ht
  · exact h t ht
  · subst ht; exact ha
theorem bookDo_ok {xs : List Account} (h : OkL xs) (id : Int) {f : Act} (hf : ∀ a, a.Ok → (f a).1 = 0 → ¬ (f a).2.tx = -1 → (f a).2.Ok) : OkL (bookDo xs id f).1 := by
  unfold bookDo
  cases bookOk xs <;> simp only [cond_true, cond_false]
  · exact h
  cases decide (0 ≤ accAt xs id) <;> simp only [cond_true, cond_false]
  · exact h
  cases h1 : ((f (Account.at_ xs (accAt xs id).toNat)).1 == 0) <;> simp only [cond_true, cond_false]
  · exact h
  cases h2 : ((f (Account.at_ xs (accAt xs id).toNat)).2.tx == -1) <;> simp only [cond_true, cond_false]
  · exact h.set _ (hf _ (Account.at_ok h _) (by simpa using h1) (by simpa using h2))
  · intro t ht; exact h t (List.mem_of_mem_eraseIdx ht)
theorem depF_ok {m : Int} (hm : 0 ≤ m ∧ m ≤ 18446744073709551615) (a : Account) (ok : a.Ok) : (depF m a).2.Ok := by
  unfold depF
  split
  · split
    · exact ⟨ok.id, ⟨by have := ok.bal; show 0 ≤ a.bal + m; omega, by assumption⟩, ok.hold, ok.due, ok.tx⟩
    · exact ok
  · exact ok
theorem witF_ok {m : Int} (hm : 0 ≤ m ∧ m ≤ 18446744073709551615) (a : Account) (ok : a.Ok) : (witF m a).2.Ok := by
  unfold witF
  split
  · split
    · exact ⟨ok.id, ⟨by show 0 ≤ a.bal - m; omega, by have := ok.bal; show a.bal - m ≤ _; omega⟩, ok.hold, ok.due, ok.tx⟩
    · exact ok
  · exact ok
theorem closeF_ok (a : Account) (ok : a.Ok) (h : ¬ (closeF a).2.tx = -1) : (closeF a).2.Ok := by
  unfold closeF at h ⊢
  split
  · split
    · rename_i h1 h2; rw [if_pos h1, if_pos h2] at h; exact absurd rfl h
    · exact ok
  · exact ok
theorem ledgerRes_ok {xs : List Account} (h : OkL xs) {c : LedgerCall} (okc : c.Ok) : OkL (ledgerRes xs c).1 := by
  unfold ledgerRes ledgerAct
  cases bookOk xs <;> simp only [cond_true, cond_false]
  · exact h
  cases (c.kind == 0) <;> simp only [cond_true, cond_false]
  · cases (c.kind == 1) <;> simp only [cond_true, cond_false]
    · cases (c.kind == 2) <;> simp only [cond_true, cond_false]
      · cases (c.kind == 3) <;> simp only [cond_true, cond_false]
        · cases (c.kind == 4) <;> simp only [cond_true, cond_false]
          · cases (c.kind == 5) <;> simp only [cond_true, cond_false] <;> exact h
          · unfold moveBook
            cases (bookOk xs && !(c.a == c.b)) <;> simp only [cond_true, cond_false]
            · exact h
            cases (decide (0 ≤ accAt xs c.a) && decide (0 ≤ accAt xs c.b)) <;> simp only [cond_true, cond_false]
            · exact h
            unfold moveTo
            have h1 := Account.at_ok h (accAt xs c.a).toNat
            have h2 := Account.at_ok h (accAt xs c.b).toNat
            have hm := okc.amount
            split
            · split
              · split
                · refine (h.set _ ?_).set _ ?_
                  · exact ⟨h1.id, ⟨by show 0 ≤ (Account.at_ xs (accAt xs c.a).toNat).bal - c.amount; omega, by have := h1.bal; show (Account.at_ xs (accAt xs c.a).toNat).bal - c.amount ≤ _; omega⟩, h1.hold, h1.due, h1.tx⟩
                  · exact ⟨h2.id, ⟨by have := h2.bal; show 0 ≤ (Account.at_ xs (accAt xs c.b).toNat).bal + c.amount; omega, by assumption⟩, h2.hold, h2.due, h2.tx⟩
                · exact h
              · exact h
            · exact h
        · exact bookDo_ok h _ fun a ok _ _ => witF_ok okc.amount a ok
      · exact bookDo_ok h _ fun a ok _ _ => depF_ok okc.amount a ok
    · exact bookDo_ok h _ fun a ok _ hn => closeF_ok a ok hn
  · unfold openBook
    cases bookOk xs <;> simp only [cond_true, cond_false]
    · exact h
    cases decide (0 ≤ accAt xs c.a) <;> simp only [cond_true, cond_false]
    · cases ((xs.length : Int) == 40) <;> simp only [cond_true, cond_false]
      · intro t ht
        simp only [plusAcc, List.mem_append, List.mem_cons, List.not_mem_nil, or_false] at ht
        rcases ht with (ht | ht) | ht
        · exact h t (List.mem_of_mem_take ht)
        · subst ht; exact ⟨okc.a, by simp [Account.new], by simp [Account.new], by simp [Account.new], by simp [Account.new]⟩
        · exact h t (List.mem_of_mem_drop ht)
      · exact h
    · exact h
/-- Calls are done one by one. -/
def runO (xs : List Past) : List Int → List Account → List Int → Bool
  | _, _, [] => true
  | pre, bs, k :: r => inR k 0 ((xs.length : Int) - 1) && (fitsO xs pre bs k.toNat && runO xs (pre ++ [k]) (ledgerRes bs (Past.nth xs k.toNat).call).1 r)
def inOrder (xs : List Past) (os : List Int) : Bool := goodPast xs && (runO xs [] [] os && allIn xs os)
/-! ### an order has no call twice -/
theorem runO_nodup (xs : List Past) : ∀ (r pre : List Int) (bs : List Account), runO xs pre bs r = true → (pre.Nodup ∧ ∀ z, z ∈ pre → 0 ≤ z ∧ z < xs.length) → ((pre ++ r).Nodup ∧ ∀ z, z ∈ pre ++ r → 0 ≤ z ∧ z < xs.length)
  | [], pre, bs, _, hp => by simpa using hp
  | k :: r, pre, bs, h, hp => by
    simp only [runO, Bool.and_eq_true, inR, decide_eq_true_eq, fitsO, Bool.not_eq_true', clash, Bool.not_eq_false'] at h
    obtain ⟨hk, ⟨hc, _⟩, hr⟩ := h
    have hnk : k ∉ pre := fun hm => by
      have := List.all_eq_true.1 hc k hm
      have hkn : k = ((k.toNat : Nat) : Int) := by omega
      simp only [Bool.not_eq_true', Bool.or_eq_false_iff, beq_eq_false_iff_ne] at this
      exact this.1 hkn
    have h2 := runO_nodup xs r (pre ++ [k]) _ hr ⟨?_, ?_⟩
    · simpa using h2
    · rw [List.nodup_append]
      refine ⟨hp.1, by simp, ?_⟩
      intro a ha b hb hab
      simp at hb
      subst hb; subst hab; exact hnk ha
    · intro z hz
      rcases List.mem_append.1 hz with hz | hz
      · exact hp.2 z hz
      · simp at hz; subst hz; omega
theorem few_of : ∀ (n : Nat) (l : List Int), l.Nodup → (∀ z, z ∈ l → 0 ≤ z ∧ z < n) → l.length ≤ n
  | 0, l, _, h => by
    cases l with
    | nil => simp
    | cons a r => have := h a (by simp); omega
  | n + 1, l, hd, h => by
    have h1 := few_of n (l.erase (n : Int)) (hd.erase _) fun z hz => by
      have h2 := h z (List.mem_of_mem_erase hz)
      have h3 : z ≠ (n : Int) := fun he => by
        subst he
        exact (List.Nodup.not_mem_erase hd) hz
      omega
    have h2 := List.length_erase_le (a := (n : Int)) (l := l)
    have h3 : l.length ≤ (l.erase (n : Int)).length + 1 := by
      by_cases hm : (n : Int) ∈ l
      · rw [List.length_erase_of_mem hm]; omega
      · rw [List.erase_of_not_mem hm]; omega
    omega
theorem runO_few {xs : List Past} {os : List Int} (h : runO xs [] [] os = true) : os.length ≤ xs.length := by
  obtain ⟨h1, h2⟩ := runO_nodup xs os [] [] h ⟨by simp, by simp⟩
  exact few_of _ _ (by simpa using h1) (by simpa using h2)
end Go.Proofs.Ytcdlbjomdokmiaa.A
/- InOrder: both ways. -/
namespace Go.Proofs.Ytcdlbjomdokmiaa.A
open Go
set_option linter.unusedSimpArgs false
set_option linter.unusedVariables false
section
variable {F : Nat → Option RF} {Z : CallF} {h : Heap} {x y : Cell} {xs : List Past} {os : List Int} {fp fq : List Nat}
/-- What stands at the head of a turn. -/
def OInv (xs : List Past) (os : List Int) (h : Heap) (st : Cell → Heap → Nat → St) (i : Nat) (s : St) : Prop :=
  ∃ c g bs fb, s = st c g i ∧ On h g ∧ SlR 11 (Fl Account.enc) g c bs fb ∧ OkL bs ∧ bs.length ≤ i ∧ (∀ z, z ∈ os.take i → 0 ≤ z ∧ z < xs.length) ∧ runO xs [] [] os = runO xs (os.take i) bs (os.drop i)
theorem take_snoc {α : Type} {l : List α} {i : Nat} (hi : i < l.length) : l.take (i + 1) = l.take i ++ [l[i]] := by
  rw [List.take_add_one, List.getElem?_eq_getElem hi]; rfl
theorem inR_dec {k n : Int} : inR k 0 (n - 1) = (!(decide (k < 0) || decide (n ≤ k))) := by
  rw [Bool.eq_iff_iff]
  simp only [inR, Bool.and_eq_true, decide_eq_true_eq, Bool.not_eq_true', Bool.or_eq_false_iff, decide_eq_false_iff_not]
  omega
set_option maxHeartbeats 2000000 in
theorem InOrder_c (hI10 : Has F tI10) (hI17 : Has F tI17) (hL : Has F tLibslicesIndexintint) (hC : Has F tLibslicesContainsintint) (pri : PrimAt F Z 343 (insF 11 40)) (prd : PrimAt F Z 348 (delF 11)) (hf : h.floor ≤ h.next) (w : SlR 1 (Fl Past.enc) h x xs fp) (v : SlR 15 (Fl int_enc) h y os fq)
    (okx : ∀ p, p ∈ xs → p.Ok) (hn : os.length ≤ 1048576) : ∃ h', call F Z 362 [.c x, .c y] h = some (.c (.bool (inOrder xs os)), h') ∧ On h h' := by
  have hle := w.le2
  have hvl := v.le2
  rw [call_run F Z (hI17.lk (g := 362) rfl) _ _ rfl]
  have hgp := isPast_run (Z := Z) hI17 w
  unfold inOrder
  cases hg : goodPast xs with
  | false =>
    rw [hg] at hgp
    simp only [run0, run1, run2, run3, run4, noSlot, ownS, ownK, memN, RO.dst, lk, drop, forget, number, Nat.reduceBEq, cut?, splice?, builds, List.length_cons, List.length_nil, List.drop_succ_cons, List.drop_zero, List.take_succ_cons, List.take_zero, List.cons_append, List.nil_append, List.append_nil, List.drop_nil, List.take_nil, Nat.reduceAdd, Nat.reduceLeDiff, Nat.zero_add, Nat.add_zero, ↓reduceIte, Bool.not_true, Bool.not_false, decide_true, decide_false, eq_self, bne_self_eq_false, List.getElem?_cons_zero, List.getElem?_cons_succ, decide_eq_true_eq, Bool.false_eq_true, Bool.true_eq_false, reduceCtorEq, Nat.le_refl, hgp, Bool.false_and]
    exact ⟨_, rfl, On.refl h⟩
  | true =>
    rw [hg] at hgp
    simp only [run0, run1, run2, run3, run4, noSlot, ownS, ownK, memN, RO.dst, lk, drop, forget, number, Nat.reduceBEq, cut?, splice?, builds, List.length_cons, List.length_nil, List.drop_succ_cons, List.drop_zero, List.take_succ_cons, List.take_zero, List.cons_append, List.nil_append, List.append_nil, List.drop_nil, List.take_nil, Nat.reduceAdd, Nat.reduceLeDiff, Nat.zero_add, Nat.add_zero, ↓reduceIte, Bool.not_true, Bool.not_false, decide_true, decide_false, eq_self, bne_self_eq_false, List.getElem?_cons_zero, List.getElem?_cons_succ, decide_eq_true_eq, Bool.false_eq_true, Bool.true_eq_false, reduceCtorEq, Nat.le_refl, hgp, v.len]
    have key := loop_rel (F := F) (Z := Z) (live := [0, 1, 5, 14, 15, 16]) (b := r362L0) os.length
      (OInv xs os h fun c g i => ⟨[(0, .c x), (1, .c y), (14, .c y), (15, .c (.int .i64 (os.length : Nat))), (16, .c (.int .i64 (i : Nat)))], [(5, 5, 0)], [(5, [c])], g⟩)
      (fun s => lk s.env 4 = some (.c (.bool false)) ∧ On h s.hp ∧ runO xs [] [] os = false) (fun i s hi ⟨c, g, bs, fb, hs, o, u, okb, hbl, hpz, hr⟩ => by
        subst hs
        have hlt : (i : Int) < os.length := by omega
        have hws := wrapS i (by omega)
        have wg := w.on (Fl.ok _) o
        have vg := v.on (Fl.ok _) o
        have hyi := v.idx hi
        have hyl := vg.load hi
        obtain ⟨yp, hcut, vp⟩ := vg.vw.pre (Nat.le_of_lt hi)
        rw [List.drop_eq_getElem_cons hi] at hr
        simp only [runO] at hr
        have hts := take_snoc hi
        generalize os[i] = k at *
        by_cases hk0 : k < 0
        · refine .inr ?_
          rw [loop_run]
          conv in (codeF _ _ r362L0 _) => unfold r362L0
          simp only [run0, run1, run2, run3, run4, noSlot, ownS, ownK, memN, RO.dst, lk, drop, forget, number, Nat.reduceBEq, cut?, splice?, builds, List.length_cons, List.length_nil, List.drop_succ_cons, List.drop_zero, List.take_succ_cons, List.take_zero, List.cons_append, List.nil_append, List.append_nil, List.drop_nil, List.take_nil, Nat.reduceAdd, Nat.reduceLeDiff, Nat.zero_add, Nat.add_zero, ↓reduceIte, Bool.not_true, Bool.not_false, decide_true, decide_false, eq_self, bne_self_eq_false, List.getElem?_cons_zero, List.getElem?_cons_succ, decide_eq_true_eq, Bool.false_eq_true, Bool.true_eq_false, reduceCtorEq, Nat.le_refl, hlt, hyi, hyl, int_enc, hk0]
          exact ⟨_, rfl, rfl, o, by rw [hr]; simp [inR]; omega⟩
        by_cases hkn : (xs.length : Int) ≤ k
        · refine .inr ?_
          have hge : k ≥ (xs.length : Int) := hkn
          rw [loop_run]
          conv in (codeF _ _ r362L0 _) => unfold r362L0
          simp only [run0, run1, run2, run3, run4, noSlot, ownS, ownK, memN, RO.dst, lk, drop, forget, number, Nat.reduceBEq, cut?, splice?, builds, List.length_cons, List.length_nil, List.drop_succ_cons, List.drop_zero, List.take_succ_cons, List.take_zero, List.cons_append, List.nil_append, List.append_nil, List.drop_nil, List.take_nil, Nat.reduceAdd, Nat.reduceLeDiff, Nat.zero_add, Nat.add_zero, ↓reduceIte, Bool.not_true, Bool.not_false, decide_true, decide_false, eq_self, bne_self_eq_false, List.getElem?_cons_zero, List.getElem?_cons_succ, decide_eq_true_eq, Bool.false_eq_true, Bool.true_eq_false, reduceCtorEq, Nat.le_refl, hlt, hyi, hyl, int_enc, hk0, w.len, hge]
          exact ⟨_, rfl, rfl, o, by rw [hr]; simp [inR]; omega⟩
        obtain ⟨j, rfl⟩ : ∃ j : Nat, k = (j : Int) := ⟨k.toNat, by omega⟩
        have hj : j < xs.length := by omega
        have hge : ¬ ((j : Nat) : Int) ≥ (xs.length : Int) := hkn
        have hin : inR (j : Int) 0 ((xs.length : Int) - 1) = true := by simp [inR]; omega
        rw [hin, Bool.true_and, Int.toNat_natCast] at hr
        obtain ⟨c1, hq, e1, oq, fin⟩ := follows_c (Z := Z) (h := ⟨g.next, g.next, g.get⟩) hI10 hI17 pri prd (Nat.le_refl _) (wg.up (Fl.ok _) _) (vp.up _) (u.up (Fl.ok _) _) okb (by omega) okx hj hpz
        obtain ⟨g1, mq⟩ : ∃ g', Heap.mk hq.next g.floor hq.get = g' := ⟨_, rfl⟩
        have o1 : On g g1 := by rw [← mq]; exact ⟨⟨oq.ext.1, oq.ext.2⟩, rfl⟩
        cases hfit : fitsO xs (os.take i) bs j with
        | false =>
          rw [hfit] at e1 hr
          refine .inr ?_
          rw [loop_run]
          conv in (codeF _ _ r362L0 _) => unfold r362L0
          simp only [run0, run1, run2, run3, run4, noSlot, ownS, ownK, memN, RO.dst, lk, drop, forget, number, Nat.reduceBEq, cut?, splice?, builds, List.length_cons, List.length_nil, List.drop_succ_cons, List.drop_zero, List.take_succ_cons, List.take_zero, List.cons_append, List.nil_append, List.append_nil, List.drop_nil, List.take_nil, Nat.reduceAdd, Nat.reduceLeDiff, Nat.zero_add, Nat.add_zero, ↓reduceIte, Bool.not_true, Bool.not_false, decide_true, decide_false, eq_self, bne_self_eq_false, List.getElem?_cons_zero, List.getElem?_cons_succ, decide_eq_true_eq, Bool.false_eq_true, Bool.true_eq_false, reduceCtorEq, Nat.le_refl, hlt, hyi, hyl, int_enc, hk0, w.len, hge, hcut, e1, mq]
          exact ⟨_, rfl, rfl, o.trans o1, by rw [hr]; rfl⟩
        | true =>
          rw [hfit] at e1 hr
          obtain ⟨f1, uq, rq⟩ := fin hfit
          have u1 := uq.up (Fl.ok _) g.floor
          change SlR 11 (Fl Account.enc) ⟨hq.next, g.floor, hq.get⟩ c1 _ f1 at u1
          rw [mq] at u1
          refine .inl ?_
          rw [loop_run]
          conv in (codeF _ _ r362L0 _) => unfold r362L0
          simp only [run0, run1, run2, run3, run4, noSlot, ownS, ownK, memN, RO.dst, lk, drop, forget, number, Nat.reduceBEq, cut?, splice?, builds, List.length_cons, List.length_nil, List.drop_succ_cons, List.drop_zero, List.take_succ_cons, List.take_zero, List.cons_append, List.nil_append, List.append_nil, List.drop_nil, List.take_nil, Nat.reduceAdd, Nat.reduceLeDiff, Nat.zero_add, Nat.add_zero, ↓reduceIte, Bool.not_true, Bool.not_false, decide_true, decide_false, eq_self, bne_self_eq_false, List.getElem?_cons_zero, List.getElem?_cons_succ, decide_eq_true_eq, Bool.false_eq_true, Bool.true_eq_false, reduceCtorEq, Nat.le_refl, hlt, hyi, hyl, int_enc, hk0, w.len, hge, hcut, e1, mq, hws]
          refine ⟨_, ⟨c1, g1, _, f1, rfl, o.trans o1, u1, ledgerRes_ok okb ?_, ?_, ?_, ?_⟩, rfl⟩
          · rw [Past.nth_get hj]; exact (okx _ (List.getElem_mem hj)).call
          · exact Nat.le_trans (ledgerRes_len _ _) (by omega)
          · intro z hz
            rw [hts] at hz
            rcases List.mem_append.1 hz with hz | hz
            · exact hpz z hz
            · simp at hz; subst hz; omega
          · rw [hts]; simpa using hr)
      (s := ⟨[(0, .c x), (1, .c y), (14, .c y), (15, .c (.int .i64 (os.length : Nat))), (16, .c (.int .i64 ((0 : Nat) : Int)))], [(5, 5, 0)], [(5, [.nil])], h⟩)
      ⟨.nil, h, [], [], rfl, On.refl h, SlR.nil _ _ _, fun _ h => (nomatch h), Nat.zero_le _, fun z hz => by simp at hz, by simp⟩
    simp only [show ((0 : Nat) : Int) = 0 from rfl] at key
    rcases key with ⟨s', ⟨c, g, bs, fb, hs, o, u, okb, hbl, hpz, hr⟩, k2⟩ | ⟨s', k2, k3, k4, k5⟩
    · subst hs
      have hlt : ¬ (os.length : Int) < os.length := by omega
      have hans := hasAnswered_run (Z := Z) hI17 hL hC (w.on (Fl.ok _) o) (v.on (Fl.ok _) o)
      have hr' : runO xs [] [] os = true := by rw [hr]; simp [runO]
      rw [k2, loop_run]
      conv in (codeF _ _ r362L0 _) => unfold r362L0
      simp only [run0, run1, run2, run3, run4, noSlot, ownS, ownK, memN, RO.dst, lk, drop, forget, number, Nat.reduceBEq, cut?, splice?, builds, List.length_cons, List.length_nil, List.drop_succ_cons, List.drop_zero, List.take_succ_cons, List.take_zero, List.cons_append, List.nil_append, List.append_nil, List.drop_nil, List.take_nil, Nat.reduceAdd, Nat.reduceLeDiff, Nat.zero_add, Nat.add_zero, ↓reduceIte, Bool.not_true, Bool.not_false, decide_true, decide_false, eq_self, bne_self_eq_false, List.getElem?_cons_zero, List.getElem?_cons_succ, decide_eq_true_eq, Bool.false_eq_true, Bool.true_eq_false, reduceCtorEq, Nat.le_refl, hlt, hans, hr', Bool.true_and]
      exact ⟨_, rfl, o⟩
    · rw [k2]
      simp only [run0, run1, run2, run3, run4, noSlot, ownS, ownK, memN, RO.dst, lk, drop, forget, number, Nat.reduceBEq, cut?, splice?, builds, List.length_cons, List.length_nil, List.drop_succ_cons, List.drop_zero, List.take_succ_cons, List.take_zero, List.cons_append, List.nil_append, List.append_nil, List.drop_nil, List.take_nil, Nat.reduceAdd, Nat.reduceLeDiff, Nat.zero_add, Nat.add_zero, ↓reduceIte, Bool.not_true, Bool.not_false, decide_true, decide_false, eq_self, bne_self_eq_false, List.getElem?_cons_zero, List.getElem?_cons_succ, decide_eq_true_eq, Bool.false_eq_true, Bool.true_eq_false, reduceCtorEq, Nat.le_refl, k3, k5, Bool.false_and, Bool.and_false]
      exact ⟨_, rfl, k4⟩
set_option maxHeartbeats 2000000 in
theorem sInOrder_c (hS10 : Has F tS10) (hS17 : Has F tS17) (hS : Has F tS01d) (hf : h.floor ≤ h.next) (w : SlR 1 (Fl Past.enc) h x xs fp) (v : SlR 15 (Fl int_enc) h y os fq)
    (okx : ∀ p, p ∈ xs → p.Ok) (hn : os.length ≤ 1048576) : ∃ h', call F Z 361 [.c x, .c y] h = some (.c (.bool (inOrder xs os)), h') ∧ On h h' := by
  have hle := w.le2
  have hvl := v.le2
  rw [call_run F Z (hS17.lk (g := 361) rfl) _ _ rfl]
  have hgp := sPastOk_run (Z := Z) hS17 hS w
  have hall := l17All_run (Z := Z) hS17 hS w v
  unfold inOrder
  cases hg : goodPast xs with
  | false =>
    rw [hg] at hgp
    simp only [run0, run1, run2, run3, run4, noSlot, ownS, ownK, memN, RO.dst, lk, drop, forget, number, Nat.reduceBEq, cut?, splice?, builds, List.length_cons, List.length_nil, List.drop_succ_cons, List.drop_zero, List.take_succ_cons, List.take_zero, List.cons_append, List.nil_append, List.append_nil, List.drop_nil, List.take_nil, Nat.reduceAdd, Nat.reduceLeDiff, Nat.zero_add, Nat.add_zero, ↓reduceIte, Bool.not_true, Bool.not_false, decide_true, decide_false, eq_self, bne_self_eq_false, List.getElem?_cons_zero, List.getElem?_cons_succ, decide_eq_true_eq, Bool.false_eq_true, Bool.true_eq_false, reduceCtorEq, Nat.le_refl, hgp, Bool.false_and]
    exact ⟨_, rfl, On.refl h⟩
  | true =>
    rw [hg] at hgp
    by_cases hln : (xs.length : Int) < os.length
    · have hgt : (os.length : Int) > xs.length := hln
      have hno : runO xs [] [] os = false := by
        cases hro : runO xs [] [] os with
        | false => rfl
        | true => have := runO_few hro; omega
      simp only [run0, run1, run2, run3, run4, noSlot, ownS, ownK, memN, RO.dst, lk, drop, forget, number, Nat.reduceBEq, cut?, splice?, builds, List.length_cons, List.length_nil, List.drop_succ_cons, List.drop_zero, List.take_succ_cons, List.take_zero, List.cons_append, List.nil_append, List.append_nil, List.drop_nil, List.take_nil, Nat.reduceAdd, Nat.reduceLeDiff, Nat.zero_add, Nat.add_zero, ↓reduceIte, Bool.not_true, Bool.not_false, decide_true, decide_false, eq_self, bne_self_eq_false, List.getElem?_cons_zero, List.getElem?_cons_succ, decide_eq_true_eq, Bool.false_eq_true, Bool.true_eq_false, reduceCtorEq, Nat.le_refl, hgp, v.len, w.len, hgt, hno, Bool.false_and, Bool.and_false]
      exact ⟨_, rfl, On.refl h⟩
    have hgt : ¬ (os.length : Int) > xs.length := hln
    cases hal : allIn xs os with
    | false =>
      rw [hal] at hall
      simp only [run0, run1, run2, run3, run4, noSlot, ownS, ownK, memN, RO.dst, lk, drop, forget, number, Nat.reduceBEq, cut?, splice?, builds, List.length_cons, List.length_nil, List.drop_succ_cons, List.drop_zero, List.take_succ_cons, List.take_zero, List.cons_append, List.nil_append, List.append_nil, List.drop_nil, List.take_nil, Nat.reduceAdd, Nat.reduceLeDiff, Nat.zero_add, Nat.add_zero, ↓reduceIte, Bool.not_true, Bool.not_false, decide_true, decide_false, eq_self, bne_self_eq_false, List.getElem?_cons_zero, List.getElem?_cons_succ, decide_eq_true_eq, Bool.false_eq_true, Bool.true_eq_false, reduceCtorEq, Nat.le_refl, hgp, v.len, w.len, hgt, hall, Bool.false_and, Bool.and_false]
      exact ⟨_, rfl, On.refl h⟩
    | true =>
    rw [hal] at hall
    simp only [run0, run1, run2, run3, run4, noSlot, ownS, ownK, memN, RO.dst, lk, drop, forget, number, Nat.reduceBEq, cut?, splice?, builds, List.length_cons, List.length_nil, List.drop_succ_cons, List.drop_zero, List.take_succ_cons, List.take_zero, List.cons_append, List.nil_append, List.append_nil, List.drop_nil, List.take_nil, Nat.reduceAdd, Nat.reduceLeDiff, Nat.zero_add, Nat.add_zero, ↓reduceIte, Bool.not_true, Bool.not_false, decide_true, decide_false, eq_self, bne_self_eq_false, List.getElem?_cons_zero, List.getElem?_cons_succ, decide_eq_true_eq, Bool.false_eq_true, Bool.true_eq_false, reduceCtorEq, Nat.le_refl, hgp, v.len, w.len, hgt, hall]
    have key := loop_rel (F := F) (Z := Z) (live := [0, 1, 5, 6]) (b := r361L0) os.length
      (OInv xs os h fun c g i => ⟨[(0, .c x), (1, .c y), (6, .c (.int .i64 (i : Nat)))], [(5, 5, 0)], [(5, [c])], g⟩)
      (fun s => lk s.env 4 = some (.c (.bool false)) ∧ On h s.hp ∧ runO xs [] [] os = false) (fun i s hi ⟨c, g, bs, fb, hs, o, u, okb, hbl, hpz, hr⟩ => by
        subst hs
        have hlt : (i : Int) < os.length := by omega
        have hws := wrapS i (by omega)
        have wg := w.on (Fl.ok _) o
        have vg := v.on (Fl.ok _) o
        have hyi := v.idx hi
        have hyl := vg.load hi
        have hw1 : IntKind.i64.wrap ((xs.length : Int) - 1) = (xs.length : Int) - 1 := wrapI _ (by omega) (by omega)
        obtain ⟨yp, hcut, vp⟩ := vg.vw.pre (Nat.le_of_lt hi)
        rw [List.drop_eq_getElem_cons hi] at hr
        simp only [runO] at hr
        have hts := take_snoc hi
        generalize os[i] = k at *
        have hin := l01In_run (Z := Z) hS k 0 ((xs.length : Int) - 1) g
        cases hik : inR k 0 ((xs.length : Int) - 1) with
        | false =>
          rw [hik] at hin hr
          refine .inr ?_
          rw [loop_run]
          conv in (codeF _ _ r361L0 _) => unfold r361L0
          simp only [run0, run1, run2, run3, run4, noSlot, ownS, ownK, memN, RO.dst, lk, drop, forget, number, Nat.reduceBEq, cut?, splice?, builds, List.length_cons, List.length_nil, List.drop_succ_cons, List.drop_zero, List.take_succ_cons, List.take_zero, List.cons_append, List.nil_append, List.append_nil, List.drop_nil, List.take_nil, Nat.reduceAdd, Nat.reduceLeDiff, Nat.zero_add, Nat.add_zero, ↓reduceIte, Bool.not_true, Bool.not_false, decide_true, decide_false, eq_self, bne_self_eq_false, List.getElem?_cons_zero, List.getElem?_cons_succ, decide_eq_true_eq, Bool.false_eq_true, Bool.true_eq_false, reduceCtorEq, Nat.le_refl, v.len, hlt, hyi, hyl, int_enc, w.len, hw1, hin]
          exact ⟨_, rfl, rfl, o, by rw [hr]; rfl⟩
        | true =>
        rw [hik] at hin hr
        have hik' := hik
        simp only [inR, Bool.and_eq_true, decide_eq_true_eq] at hik'
        obtain ⟨j, rfl⟩ : ∃ j : Nat, k = (j : Int) := ⟨k.toNat, by omega⟩
        have hj : j < xs.length := by omega
        rw [Bool.true_and, Int.toNat_natCast] at hr
        obtain ⟨c1, hq, e1, oq, fin⟩ := l17Fits_c (Z := Z) (h := ⟨g.next, g.next, g.get⟩) hS10 hS17 (Nat.le_refl _) (wg.up (Fl.ok _) _) (vp.up _) (u.up (Fl.ok _) _) okb (by omega) okx hj hpz
        obtain ⟨g1, mq⟩ : ∃ g', Heap.mk hq.next g.floor hq.get = g' := ⟨_, rfl⟩
        have o1 : On g g1 := by rw [← mq]; exact ⟨⟨oq.ext.1, oq.ext.2⟩, rfl⟩
        cases hfit : fitsO xs (os.take i) bs j with
        | false =>
          rw [hfit] at e1 hr
          refine .inr ?_
          rw [loop_run]
          conv in (codeF _ _ r361L0 _) => unfold r361L0
          simp only [run0, run1, run2, run3, run4, noSlot, ownS, ownK, memN, RO.dst, lk, drop, forget, number, Nat.reduceBEq, cut?, splice?, builds, List.length_cons, List.length_nil, List.drop_succ_cons, List.drop_zero, List.take_succ_cons, List.take_zero, List.cons_append, List.nil_append, List.append_nil, List.drop_nil, List.take_nil, Nat.reduceAdd, Nat.reduceLeDiff, Nat.zero_add, Nat.add_zero, ↓reduceIte, Bool.not_true, Bool.not_false, decide_true, decide_false, eq_self, bne_self_eq_false, List.getElem?_cons_zero, List.getElem?_cons_succ, decide_eq_true_eq, Bool.false_eq_true, Bool.true_eq_false, reduceCtorEq, Nat.le_refl, v.len, hlt, hyi, hyl, int_enc, w.len, hw1, hin, hcut, e1, mq]
          exact ⟨_, rfl, rfl, o.trans o1, by rw [hr]; rfl⟩
        | true =>
          rw [hfit] at e1 hr
          obtain ⟨f1, uq, rq⟩ := fin hfit
          have u1 := uq.up (Fl.ok _) g.floor
          change SlR 11 (Fl Account.enc) ⟨hq.next, g.floor, hq.get⟩ c1 _ f1 at u1
          rw [mq] at u1
          refine .inl ?_
          rw [loop_run]
          conv in (codeF _ _ r361L0 _) => unfold r361L0
          simp only [run0, run1, run2, run3, run4, noSlot, ownS, ownK, memN, RO.dst, lk, drop, forget, number, Nat.reduceBEq, cut?, splice?, builds, List.length_cons, List.length_nil, List.drop_succ_cons, List.drop_zero, List.take_succ_cons, List.take_zero, List.cons_append, List.nil_append, List.append_nil, List.drop_nil, List.take_nil, Nat.reduceAdd, Nat.reduceLeDiff, Nat.zero_add, Nat.add_zero, ↓reduceIte, Bool.not_true, Bool.not_false, decide_true, decide_false, eq_self, bne_self_eq_false, List.getElem?_cons_zero, List.getElem?_cons_succ, decide_eq_true_eq, Bool.false_eq_true, Bool.true_eq_false, reduceCtorEq, Nat.le_refl, v.len, hlt, hyi, hyl, int_enc, w.len, hw1, hin, hcut, e1, mq, hws]
          refine ⟨_, ⟨c1, g1, _, f1, rfl, o.trans o1, u1, ledgerRes_ok okb ?_, ?_, ?_, ?_⟩, rfl⟩
          · rw [Past.nth_get hj]; exact (okx _ (List.getElem_mem hj)).call
          · exact Nat.le_trans (ledgerRes_len _ _) (by omega)
          · intro z hz
            rw [hts] at hz
            rcases List.mem_append.1 hz with hz | hz
            · exact hpz z hz
            · simp at hz; subst hz; omega
          · rw [hts]; simpa using hr)
      (s := ⟨[(0, .c x), (1, .c y), (6, .c (.int .i64 ((0 : Nat) : Int)))], [(5, 5, 0)], [(5, [.nil])], h⟩)
      ⟨.nil, h, [], [], rfl, On.refl h, SlR.nil _ _ _, fun _ h => (nomatch h), Nat.zero_le _, fun z hz => by simp at hz, by simp⟩
    simp only [show ((0 : Nat) : Int) = 0 from rfl] at key
    rcases key with ⟨s', ⟨c, g, bs, fb, hs, o, u, okb, hbl, hpz, hr⟩, k2⟩ | ⟨s', k2, k3, k4, k5⟩
    · subst hs
      have hlt : ¬ (os.length : Int) < os.length := by omega
      have hr' : runO xs [] [] os = true := by rw [hr]; simp [runO]
      rw [k2, loop_run]
      conv in (codeF _ _ r361L0 _) => unfold r361L0
      simp only [run0, run1, run2, run3, run4, noSlot, ownS, ownK, memN, RO.dst, lk, drop, forget, number, Nat.reduceBEq, cut?, splice?, builds, List.length_cons, List.length_nil, List.drop_succ_cons, List.drop_zero, List.take_succ_cons, List.take_zero, List.cons_append, List.nil_append, List.append_nil, List.drop_nil, List.take_nil, Nat.reduceAdd, Nat.reduceLeDiff, Nat.zero_add, Nat.add_zero, ↓reduceIte, Bool.not_true, Bool.not_false, decide_true, decide_false, eq_self, bne_self_eq_false, List.getElem?_cons_zero, List.getElem?_cons_succ, decide_eq_true_eq, Bool.false_eq_true, Bool.true_eq_false, reduceCtorEq, Nat.le_refl, v.len, hlt, hr', Bool.true_and]
      exact ⟨_, rfl, o⟩
    · rw [k2]
      simp only [run0, run1, run2, run3, run4, noSlot, ownS, ownK, memN, RO.dst, lk, drop, forget, number, Nat.reduceBEq, cut?, splice?, builds, List.length_cons, List.length_nil, List.drop_succ_cons, List.drop_zero, List.take_succ_cons, List.take_zero, List.cons_append, List.nil_append, List.append_nil, List.drop_nil, List.take_nil, Nat.reduceAdd, Nat.reduceLeDiff, Nat.zero_add, Nat.add_zero, ↓reduceIte, Bool.not_true, Bool.not_false, decide_true, decide_false, eq_self, bne_self_eq_false, List.getElem?_cons_zero, List.getElem?_cons_succ, decide_eq_true_eq, Bool.false_eq_true, Bool.true_eq_false, reduceCtorEq, Nat.le_refl, k3, k5, Bool.false_and, Bool.and_false]
      exact ⟨_, rfl, k4⟩
end
end Go.Proofs.Ytcdlbjomdokmiaa.A
/- Lists of numbers that came in, and their copies. -/
namespace Go.Proofs.Ytcdlbjomdokmiaa.A
open Go
set_option linter.unusedSimpArgs false
set_option linter.unusedVariables false
def IntOk (z : Int) : Prop := -9223372036854775808 ≤ z ∧ z ≤ 9223372036854775807
theorem Wf.isIntS {h : Heap} {n : Nat} {x : Cell} (w : Wf h (n + 2) shIntS [x]) : ∃ xs fp, SlR 15 (Fl int_enc) h x xs fp ∧ ∀ t, t ∈ xs → IntOk t :=
  SlR.ofWf (R := Fl int_enc) (A := IntOk) (fun r hr => by
    obtain ⟨hl, z, rfl, hz⟩ := hr
    exact ⟨z, [], ⟨rfl, rfl⟩, wfI hz⟩) w
section
variable {F : Nat → Option RF} {Z : CallF} {h : Heap} {x : Cell} {xs : List Int} {fp : List Nat}
theorem toIntS_run (hL : Has F tLInt) (hf : h.floor ≤ h.next) (w : SlR 15 (Fl int_enc) h x xs fp) (hn : xs.length ≤ 1048576) : call F Z 360 [.c x] h = some (.c (.sl 15 h.next 0 xs.length), h.push (xs.map int_enc)) := by
  rw [call_run F Z (hL.lk (g := 360) rfl) _ _ rfl]
  simp only [run0, run1, run2, run3, run4, noSlot, ownS, ownK, memN, RO.dst, lk, drop, forget, number, Nat.reduceBEq, cut?, splice?, builds, List.length_cons, List.length_nil, List.drop_succ_cons, List.drop_zero, List.take_succ_cons, List.take_zero, List.cons_append, List.nil_append, List.append_nil, List.drop_nil, List.take_nil, Nat.reduceAdd, Nat.reduceLeDiff, Nat.zero_add, Nat.add_zero, ↓reduceIte, Bool.not_true, Bool.not_false, decide_true, decide_false, eq_self, bne_self_eq_false, List.getElem?_cons_zero, List.getElem?_cons_succ, decide_eq_true_eq, Bool.false_eq_true, Bool.true_eq_false, reduceCtorEq, Nat.le_refl, w.len]
  rw [if_pos (by omega)]
  simp only [run0, run1, run2, run3, run4, noSlot, ownS, ownK, memN, RO.dst, lk, drop, forget, number, Nat.reduceBEq, cut?, splice?, builds, List.length_cons, List.length_nil, List.drop_succ_cons, List.drop_zero, List.take_succ_cons, List.take_zero, List.cons_append, List.nil_append, List.append_nil, List.drop_nil, List.take_nil, Nat.reduceAdd, Nat.reduceLeDiff, Nat.zero_add, Nat.add_zero, ↓reduceIte, Bool.not_true, Bool.not_false, decide_true, decide_false, eq_self, bne_self_eq_false, List.getElem?_cons_zero, List.getElem?_cons_succ, decide_eq_true_eq, Bool.false_eq_true, Bool.true_eq_false, reduceCtorEq, Nat.le_refl, Int.toNat_natCast]
  have key : loop F Z [0, 3, 4] r360L0 ⟨[(0, .c x), (3, .c (.sl 15 h.next 0 xs.length)), (4, .c (.int .i64 (0 : Nat)))], [], [], h.push (fillR int_enc [.int .i64 0] xs 0)⟩ = loop F Z [0, 3, 4] r360L0 ⟨[(0, .c x), (3, .c (.sl 15 h.next 0 xs.length)), (4, .c (.int .i64 (xs.length : Nat)))], [], [], h.push (fillR int_enc [.int .i64 0] xs xs.length)⟩ :=
    loop_goesF xs.length (fun i => ⟨[(0, .c x), (3, .c (.sl 15 h.next 0 xs.length)), (4, .c (.int .i64 (i : Nat)))], [], [], h.push (fillR int_enc [.int .i64 0] xs i)⟩) fun i hi => by
      have w' := w.mono (Fl.ok _) (HExt.push h (fillR int_enc [.int .i64 0] xs i))
      have hlt : (i : Int) < xs.length := by omega
      have h0 : (0 : Int) ≤ i := by omega
      have hst := storeP_push hf (fillR_get int_enc [.int .i64 0] xs hi) (int_enc_len xs[i])
      have hld := w'.load hi
      simp only [int_enc] at hst hld
      rw [loop_run]
      simp only [r360L0, run0, run1, run2, run3, run4, noSlot, ownS, ownK, memN, RO.dst, lk, drop, forget, number, Nat.reduceBEq, cut?, splice?, builds, List.length_cons, List.length_nil, List.drop_succ_cons, List.drop_zero, List.take_succ_cons, List.take_zero, List.cons_append, List.nil_append, List.append_nil, List.drop_nil, List.take_nil, Nat.reduceAdd, Nat.reduceLeDiff, Nat.zero_add, Nat.add_zero, ↓reduceIte, Bool.not_true, Bool.not_false, decide_true, decide_false, eq_self, bne_self_eq_false, List.getElem?_cons_zero, List.getElem?_cons_succ, decide_eq_true_eq, Bool.false_eq_true, Bool.true_eq_false, reduceCtorEq, Nat.le_refl, w.len, hlt, w.idx hi, hld, h0, and_self, Int.toNat_natCast, hst, wrapS i (by omega)]
      rw [← fillR_set int_enc [.int .i64 0] xs hi]
      rfl
  rw [fillR_0] at key
  rw [fillR_n] at key
  rw [show ((0 : Nat) : Int) = 0 from rfl] at key
  rw [key, loop_run]
  have hlt : ¬ (xs.length : Int) < xs.length := by omega
  simp only [r360L0, run0, run1, run2, run3, run4, noSlot, ownS, ownK, memN, RO.dst, lk, drop, forget, number, Nat.reduceBEq, cut?, splice?, builds, List.length_cons, List.length_nil, List.drop_succ_cons, List.drop_zero, List.take_succ_cons, List.take_zero, List.cons_append, List.nil_append, List.append_nil, List.drop_nil, List.take_nil, Nat.reduceAdd, Nat.reduceLeDiff, Nat.zero_add, Nat.add_zero, ↓reduceIte, Bool.not_true, Bool.not_false, decide_true, decide_false, eq_self, bne_self_eq_false, List.getElem?_cons_zero, List.getElem?_cons_succ, decide_eq_true_eq, Bool.false_eq_true, Bool.true_eq_false, reduceCtorEq, Nat.le_refl, w.len, hlt]
theorem toIntS_c (hL : Has F tLInt) (hf : h.floor ≤ h.next) (w : SlR 15 (Fl int_enc) h x xs fp) (hn : xs.length ≤ 1048576) : ∃ y h' fq, call F Z 360 [.c x] h = some (.c y, h') ∧ On h h' ∧ SlR 15 (Fl int_enc) h' y xs fq ∧ Fre h fq :=
  ⟨_, _, _, toIntS_run hL hf w hn, On.push _ _, SlR.ofFlat w.le (push_get _ _) (by rw [push_next]; omega), Fre.one h⟩
end
end Go.Proofs.Ytcdlbjomdokmiaa.A
/- The size of a history that came in. -/
namespace Go.Proofs.Ytcdlbjomdokmiaa.A
open Go
theorem szPastS_c {F : Nat → Option RF} {Z : CallF} {h : Heap} {x : Cell} {xs : List Past} {fp : List Nat} (hL : Has F tLPast) (w : SlR 2 (Fl Past.enc) h x xs fp) (left : Int) (h1 : 0 ≤ left) (h2 : left ≤ 1048576) : ∃ r, call F Z 40 [.c x, .c (.int .i64 left)] h = some (.c (.int .i64 r), h) ∧ r ≤ left ∧ (0 ≤ r → xs.length ≤ 1048576) :=
  ⟨_, szPastS_run hL w left h1 h2, by split <;> omega, by split <;> omega⟩
end Go.Proofs.Ytcdlbjomdokmiaa.A
