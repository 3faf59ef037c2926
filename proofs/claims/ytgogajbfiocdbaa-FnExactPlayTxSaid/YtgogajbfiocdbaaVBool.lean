/- What the converters of Bool compute. -/
import Derived.Test.YtgogajbfiocdbaaS1
import Derived.Test.YtgogajbfiocdbaaGLBool
namespace Go.Proofs.Ytgogajbfiocdbaa.A
open Go
set_option linter.unusedSimpArgs false
set_option linter.unusedVariables false
def bool_enc (b : Bool) : List Cell := [.bool b]
theorem bool_enc_len (b : Bool) : (bool_enc b).length = 1 := rfl
theorem bool_enc_tak (b : Bool) : (bool_enc b).take 1 = bool_enc b := rfl
section
variable {F : Nat → Option RF} {Z : CallF} {h : Heap} {x y : Cell} {xs ys : List Bool} {fp fq : List Nat}
def bool_zero : List Cell := [.bool false]
theorem eqBoolS_run (hL : Has F tLBool) (w : SlR 4 (Fl bool_enc) h x xs fp) (v : SlR 4 (Fl bool_enc) h y ys fq) : call F Z 61 [.c x, .c y] h = some (.c (.bool (decide (xs = ys))), h) := by
  have hw := w.le2
  have hv := v.le2
  rw [call_run F Z (hL.lk (g := 61) rfl) _ _ rfl]
  simp only [run0, run1, run2, run3, run4, noSlot, memN, RO.dst, lk, drop, forget, number, Nat.reduceBEq, cond_true, cond_false, Option.bind_some, cut?, splice?, builds, List.length_cons, List.length_nil, List.drop_succ_cons, List.drop_zero, List.take_succ_cons, List.take_zero, List.cons_append, List.nil_append, List.append_nil, List.drop_nil, List.take_nil, Nat.reduceAdd, Nat.reduceLeDiff, Nat.zero_add, Nat.add_zero, ↓reduceIte, Bool.not_true, Bool.not_false, decide_true, decide_false, eq_self, bne_self_eq_false, List.getElem?_cons_zero, List.getElem?_cons_succ, decide_eq_true_eq, Bool.false_eq_true, Bool.true_eq_false, reduceCtorEq, Nat.le_refl, w.len, v.len]
  rw [condC_if]
  split
  · rename_i hne
    have : xs ≠ ys := by rintro rfl; simp at hne
    simp only [run0, run1, run2, run3, run4, noSlot, memN, RO.dst, lk, drop, forget, number, Nat.reduceBEq, cond_true, cond_false, Option.bind_some, cut?, splice?, builds, List.length_cons, List.length_nil, List.drop_succ_cons, List.drop_zero, List.take_succ_cons, List.take_zero, List.cons_append, List.nil_append, List.append_nil, List.drop_nil, List.take_nil, Nat.reduceAdd, Nat.reduceLeDiff, Nat.zero_add, Nat.add_zero, ↓reduceIte, Bool.not_true, Bool.not_false, decide_true, decide_false, eq_self, bne_self_eq_false, List.getElem?_cons_zero, List.getElem?_cons_succ, decide_eq_true_eq, Bool.false_eq_true, Bool.true_eq_false, reduceCtorEq, Nat.le_refl, this]
  · rename_i he
    have he : xs.length = ys.length := by simp at he; omega
    simp only [run0, run1, run2, run3, run4, noSlot, memN, RO.dst, lk, drop, forget, number, Nat.reduceBEq, cond_true, cond_false, Option.bind_some, cut?, splice?, builds, List.length_cons, List.length_nil, List.drop_succ_cons, List.drop_zero, List.take_succ_cons, List.take_zero, List.cons_append, List.nil_append, List.append_nil, List.drop_nil, List.take_nil, Nat.reduceAdd, Nat.reduceLeDiff, Nat.zero_add, Nat.add_zero, ↓reduceIte, Bool.not_true, Bool.not_false, decide_true, decide_false, eq_self, bne_self_eq_false, List.getElem?_cons_zero, List.getElem?_cons_succ, decide_eq_true_eq, Bool.false_eq_true, Bool.true_eq_false, reduceCtorEq, Nat.le_refl]
    have key := loop_allN (F := F) (Z := Z) (live := [0, 1, 5]) (b := r61L0) xs.length (fun i => ⟨[(0, .c x), (1, .c y), (5, .c (.int .i64 (i : Nat)))], [], [], h⟩) (fun i => decide (xs[i]? = ys[i]?)) (fun s => lk s.env 4 = some (.c (.bool false)) ∧ s.hp = h) fun i hi => by
      have hi' : i < ys.length := by omega
      have hlt : (i : Int) < xs.length := by omega
      rw [loop_run]
      simp only [r61L0, run0, run1, run2, run3, run4, noSlot, memN, RO.dst, lk, drop, forget, number, Nat.reduceBEq, cond_true, cond_false, Option.bind_some, cut?, splice?, builds, List.length_cons, List.length_nil, List.drop_succ_cons, List.drop_zero, List.take_succ_cons, List.take_zero, List.cons_append, List.nil_append, List.append_nil, List.drop_nil, List.take_nil, Nat.reduceAdd, Nat.reduceLeDiff, Nat.zero_add, Nat.add_zero, ↓reduceIte, Bool.not_true, Bool.not_false, decide_true, decide_false, eq_self, bne_self_eq_false, List.getElem?_cons_zero, List.getElem?_cons_succ, decide_eq_true_eq, Bool.false_eq_true, Bool.true_eq_false, reduceCtorEq, Nat.le_refl, w.len, hlt, w.idx hi, v.idx hi', w.load hi, v.load hi', bool_enc, wrapS i (by omega)]
      rw [List.getElem?_eq_getElem hi, List.getElem?_eq_getElem hi']
      (repeat' ((first | (rw [gF_if]; split) | (rw [condC_if]; split) | (rw [pickR_if]; split)) <;> (rename_i hh; (try simp only [Bool.not_eq_true, decide_eq_true_eq] at hh); simp only [hh, run0, run1, run2, run3, run4, noSlot, memN, RO.dst, lk, drop, forget, number, Nat.reduceBEq, cond_true, cond_false, Option.bind_some, cut?, splice?, builds, List.length_cons, List.length_nil, List.drop_succ_cons, List.drop_zero, List.take_succ_cons, List.take_zero, List.cons_append, List.nil_append, List.append_nil, List.drop_nil, List.take_nil, Nat.reduceAdd, Nat.reduceLeDiff, Nat.zero_add, Nat.add_zero, ↓reduceIte, Bool.not_true, Bool.not_false, decide_true, decide_false, eq_self, bne_self_eq_false, List.getElem?_cons_zero, List.getElem?_cons_succ, decide_eq_true_eq, Bool.false_eq_true, Bool.true_eq_false, reduceCtorEq, Nat.le_refl, wrapS i (by omega)])))
      · exact .inr ⟨by simp_all, _, rfl, rfl, rfl⟩
      · exact .inl ⟨by simp_all, rfl⟩
    rw [all_same he] at key
    rcases key with ⟨k1, k2⟩ | ⟨k1, s, k2, k3, k4⟩
    · simp only [show ((0 : Nat) : Int) = 0 from rfl] at k2
      rw [k2, loop_run]
      have hlt : ¬ (xs.length : Int) < xs.length := by omega
      simp only [r61L0, run0, run1, run2, run3, run4, noSlot, memN, RO.dst, lk, drop, forget, number, Nat.reduceBEq, cond_true, cond_false, Option.bind_some, cut?, splice?, builds, List.length_cons, List.length_nil, List.drop_succ_cons, List.drop_zero, List.take_succ_cons, List.take_zero, List.cons_append, List.nil_append, List.append_nil, List.drop_nil, List.take_nil, Nat.reduceAdd, Nat.reduceLeDiff, Nat.zero_add, Nat.add_zero, ↓reduceIte, Bool.not_true, Bool.not_false, decide_true, decide_false, eq_self, bne_self_eq_false, List.getElem?_cons_zero, List.getElem?_cons_succ, decide_eq_true_eq, Bool.false_eq_true, Bool.true_eq_false, reduceCtorEq, Nat.le_refl, w.len, hlt, k1]
    · simp only [show ((0 : Nat) : Int) = 0 from rfl] at k2
      rw [k2]
      simp only [run0, run1, run2, run3, run4, noSlot, memN, RO.dst, lk, drop, forget, number, Nat.reduceBEq, cond_true, cond_false, Option.bind_some, cut?, splice?, builds, List.length_cons, List.length_nil, List.drop_succ_cons, List.drop_zero, List.take_succ_cons, List.take_zero, List.cons_append, List.nil_append, List.append_nil, List.drop_nil, List.take_nil, Nat.reduceAdd, Nat.reduceLeDiff, Nat.zero_add, Nat.add_zero, ↓reduceIte, Bool.not_true, Bool.not_false, decide_true, decide_false, eq_self, bne_self_eq_false, List.getElem?_cons_zero, List.getElem?_cons_succ, decide_eq_true_eq, Bool.false_eq_true, Bool.true_eq_false, reduceCtorEq, Nat.le_refl, k3, k4, k1]
/-- What is written to mark one. -/
def bool_mk (k : Int) : Bool := k.tmod 3 == 0
def bool_marks (n : Nat) (k : Int) : List Bool := (List.range n).map fun i : Nat => bool_mk (k + 1 * (i : Int))
theorem bool_marks_len (n : Nat) (k : Int) : (bool_marks n k).length = n := by simp [bool_marks]
set_option maxHeartbeats 1000000 in
theorem markBoolS_run (hL : Has F tLBool) (w : SlR 4 (Fl bool_enc) h x xs fp) (hlo : ∀ id, id ∈ fp → h.floor ≤ id) (k : Int) (h1 : 0 ≤ k) (h2 : k + 1 * xs.length ≤ 4611686018427387904) :
    ∃ h', call F Z 64 [.c x, .c (.int .i64 k)] h = some (.c (.int .i64 (k + 1 * xs.length)), h') ∧ Mk h h' fp ∧ SlR 4 (Fl bool_enc) h' x (bool_marks xs.length k) fp := by
  have hle := w.le2
  have hlm := bool_marks_len xs.length k
  rw [call_run F Z (hL.lk (g := 64) rfl) _ _ rfl]
  simp only [run0, run1, run2, run3, run4, noSlot, memN, RO.dst, lk, drop, forget, number, Nat.reduceBEq, cond_true, cond_false, Option.bind_some, cut?, splice?, builds, List.length_cons, List.length_nil, List.drop_succ_cons, List.drop_zero, List.take_succ_cons, List.take_zero, List.cons_append, List.nil_append, List.append_nil, List.drop_nil, List.take_nil, Nat.reduceAdd, Nat.reduceLeDiff, Nat.zero_add, Nat.add_zero, ↓reduceIte, Bool.not_true, Bool.not_false, decide_true, decide_false, eq_self, bne_self_eq_false, List.getElem?_cons_zero, List.getElem?_cons_succ, decide_eq_true_eq, Bool.false_eq_true, Bool.true_eq_false, reduceCtorEq, Nat.le_refl]
  rcases w.flat with ⟨rfl, rfl, rfl⟩ | ⟨hx, hg, hn, rfl⟩
  · rw [loop_run]
    simp only [r64L0, run0, run1, run2, run3, run4, noSlot, memN, RO.dst, lk, drop, forget, number, Nat.reduceBEq, cond_true, cond_false, Option.bind_some, cut?, splice?, builds, List.length_cons, List.length_nil, List.drop_succ_cons, List.drop_zero, List.take_succ_cons, List.take_zero, List.cons_append, List.nil_append, List.append_nil, List.drop_nil, List.take_nil, Nat.reduceAdd, Nat.reduceLeDiff, Nat.zero_add, Nat.add_zero, ↓reduceIte, Bool.not_true, Bool.not_false, decide_true, decide_false, eq_self, bne_self_eq_false, List.getElem?_cons_zero, List.getElem?_cons_succ, decide_eq_true_eq, Bool.false_eq_true, Bool.true_eq_false, reduceCtorEq, Nat.le_refl, show ¬ ((0 : Int) < 0) from by omega]
    exact ⟨h, by simp, Mk.refl _ _, by simpa [bool_marks] using w⟩
  · have hfl : h.floor ≤ x.sid := hlo _ (by simp)
    have key : loop F Z [0, 1, 5] r64L0 ⟨[(0, .c x), (1, .c (.int .i64 (k + 1 * (0 : Nat)))), (5, .c (.int .i64 (0 : Nat)))], [], [], h.put x.sid (mixR bool_enc (bool_marks xs.length k) xs 0)⟩ = loop F Z [0, 1, 5] r64L0 ⟨[(0, .c x), (1, .c (.int .i64 (k + 1 * (xs.length : Nat)))), (5, .c (.int .i64 (xs.length : Nat)))], [], [], h.put x.sid (mixR bool_enc (bool_marks xs.length k) xs xs.length)⟩ :=
      loop_goesF xs.length (fun i => ⟨[(0, .c x), (1, .c (.int .i64 (k + 1 * (i : Nat)))), (5, .c (.int .i64 (i : Nat)))], [], [], h.put x.sid (mixR bool_enc (bool_marks xs.length k) xs i)⟩) fun i hi => by
        have hlt : (i : Int) < xs.length := by omega
        have hi2 : i < (mixR bool_enc (bool_marks xs.length k) xs i).length := by rw [mixR_len _ hlm]; exact hi
        have hms : (bool_marks xs.length k)[i]'(by omega) = bool_mk (k + 1 * i) := by simp [bool_marks]
        have hset := mixR_set bool_enc hlm hi
        rw [hms] at hset
        have hput := storeP_put (h := h) hfl hi2
        rw [← mixR_cur bool_enc hlm hi, ← hset, loop_run]
        simp (disch := omega) only [r64L0, run0, run1, run2, run3, run4, noSlot, memN, RO.dst, lk, drop, forget, number, Nat.reduceBEq, cond_true, cond_false, Option.bind_some, cut?, splice?, builds, List.length_cons, List.length_nil, List.drop_succ_cons, List.drop_zero, List.take_succ_cons, List.take_zero, List.cons_append, List.nil_append, List.append_nil, List.drop_nil, List.take_nil, Nat.reduceAdd, Nat.reduceLeDiff, Nat.zero_add, Nat.add_zero, ↓reduceIte, Bool.not_true, Bool.not_false, decide_true, decide_false, eq_self, bne_self_eq_false, List.getElem?_cons_zero, List.getElem?_cons_succ, decide_eq_true_eq, Bool.false_eq_true, Bool.true_eq_false, reduceCtorEq, Nat.le_refl, w.len, hlt, w.idx hi, hput, putM_s, wrapI1, wrapU1, bool_enc, b_rem, beq_self_eq_true, Int.reduceEq, bool_mk]
        rw [show k + 1 * ((i : Nat) : Int) + 1 = k + 1 * ((i + 1 : Nat) : Int) from by omega, show ((i : Nat) : Int) + 1 = ((i + 1 : Nat) : Int) from rfl]
    rw [mixR_0, put_same hg, mixR_n _ hlm] at key
    simp only [show ((0 : Nat) : Int) = 0 from rfl, Int.mul_zero, Int.add_zero] at key
    rw [key, loop_run]
    have hlt : ¬ (xs.length : Int) < xs.length := by omega
    simp only [r64L0, run0, run1, run2, run3, run4, noSlot, memN, RO.dst, lk, drop, forget, number, Nat.reduceBEq, cond_true, cond_false, Option.bind_some, cut?, splice?, builds, List.length_cons, List.length_nil, List.drop_succ_cons, List.drop_zero, List.take_succ_cons, List.take_zero, List.cons_append, List.nil_append, List.append_nil, List.drop_nil, List.take_nil, Nat.reduceAdd, Nat.reduceLeDiff, Nat.zero_add, Nat.add_zero, ↓reduceIte, Bool.not_true, Bool.not_false, decide_true, decide_false, eq_self, bne_self_eq_false, List.getElem?_cons_zero, List.getElem?_cons_succ, decide_eq_true_eq, Bool.false_eq_true, Bool.true_eq_false, reduceCtorEq, Nat.le_refl, w.len, hlt]
    refine ⟨_, rfl, Mk.put _ _ _, ?_⟩
    have := SlR.ofFlat (tag := 4) (h := h.put x.sid ((bool_marks xs.length k).map bool_enc)) (enc := bool_enc) (xs := bool_marks xs.length k) (id := x.sid) (by rw [hlm]; exact w.le) (by simp [Heap.put]) hn
    rw [hlm, ← hx] at this
    exact this
set_option maxHeartbeats 1000000 in
theorem heldBoolS_run (hL : Has F tLBool) {n : Nat} {k : Int} (w : SlR 4 (Fl bool_enc) h x (bool_marks n k) fp) (h1 : 0 ≤ k) (h2 : k + 1 * n ≤ 4611686018427387904) :
    call F Z 65 [.c x, .c (.int .i64 k)] h = some (.c (.int .i64 (k + 1 * n)), h) := by
  have hle := w.le2
  have hwl := w.len
  rw [bool_marks_len] at hle hwl
  rw [call_run F Z (hL.lk (g := 65) rfl) _ _ rfl]
  simp only [run0, run1, run2, run3, run4, noSlot, memN, RO.dst, lk, drop, forget, number, Nat.reduceBEq, cond_true, cond_false, Option.bind_some, cut?, splice?, builds, List.length_cons, List.length_nil, List.drop_succ_cons, List.drop_zero, List.take_succ_cons, List.take_zero, List.cons_append, List.nil_append, List.append_nil, List.drop_nil, List.take_nil, Nat.reduceAdd, Nat.reduceLeDiff, Nat.zero_add, Nat.add_zero, ↓reduceIte, Bool.not_true, Bool.not_false, decide_true, decide_false, eq_self, bne_self_eq_false, List.getElem?_cons_zero, List.getElem?_cons_succ, decide_eq_true_eq, Bool.false_eq_true, Bool.true_eq_false, reduceCtorEq, Nat.le_refl]
  have key : loop F Z [0, 1, 5] r65L0 ⟨[(0, .c x), (1, .c (.int .i64 (k + 1 * (0 : Nat)))), (5, .c (.int .i64 (0 : Nat)))], [], [], h⟩ = loop F Z [0, 1, 5] r65L0 ⟨[(0, .c x), (1, .c (.int .i64 (k + 1 * (n : Nat)))), (5, .c (.int .i64 (n : Nat)))], [], [], h⟩ :=
    loop_goesF n (fun i => ⟨[(0, .c x), (1, .c (.int .i64 (k + 1 * (i : Nat)))), (5, .c (.int .i64 (i : Nat)))], [], [], h⟩) fun i hi0 => by
      have hi : i < (bool_marks n k).length := by rw [bool_marks_len]; exact hi0
      have hlt : (i : Int) < n := by omega
      have hms : (bool_marks n k)[i] = bool_mk (k + 1 * i) := by simp [bool_marks]
      have hld := w.load hi
      rw [hms] at hld
      rw [loop_run]
      simp (disch := omega) only [r65L0, run0, run1, run2, run3, run4, noSlot, memN, RO.dst, lk, drop, forget, number, Nat.reduceBEq, cond_true, cond_false, Option.bind_some, cut?, splice?, builds, List.length_cons, List.length_nil, List.drop_succ_cons, List.drop_zero, List.take_succ_cons, List.take_zero, List.cons_append, List.nil_append, List.append_nil, List.drop_nil, List.take_nil, Nat.reduceAdd, Nat.reduceLeDiff, Nat.zero_add, Nat.add_zero, ↓reduceIte, Bool.not_true, Bool.not_false, decide_true, decide_false, eq_self, bne_self_eq_false, List.getElem?_cons_zero, List.getElem?_cons_succ, decide_eq_true_eq, Bool.false_eq_true, Bool.true_eq_false, reduceCtorEq, Nat.le_refl, hwl, hlt, w.idx hi, hld, wrapI1, wrapU1, bool_enc, b_rem, beq_self_eq_true, bool_mk, Int.reduceEq]
      rw [show k + 1 * ((i : Nat) : Int) + 1 = k + 1 * ((i + 1 : Nat) : Int) from by omega, show ((i : Nat) : Int) + 1 = ((i + 1 : Nat) : Int) from rfl]
  simp only [show ((0 : Nat) : Int) = 0 from rfl, Int.mul_zero, Int.add_zero] at key
  rw [key, loop_run]
  have hlt : ¬ (n : Int) < n := by omega
  simp only [r65L0, run0, run1, run2, run3, run4, noSlot, memN, RO.dst, lk, drop, forget, number, Nat.reduceBEq, cond_true, cond_false, Option.bind_some, cut?, splice?, builds, List.length_cons, List.length_nil, List.drop_succ_cons, List.drop_zero, List.take_succ_cons, List.take_zero, List.cons_append, List.nil_append, List.append_nil, List.drop_nil, List.take_nil, Nat.reduceAdd, Nat.reduceLeDiff, Nat.zero_add, Nat.add_zero, ↓reduceIte, Bool.not_true, Bool.not_false, decide_true, decide_false, eq_self, bne_self_eq_false, List.getElem?_cons_zero, List.getElem?_cons_succ, decide_eq_true_eq, Bool.false_eq_true, Bool.true_eq_false, reduceCtorEq, Nat.le_refl, hwl, hlt]
end
end Go.Proofs.Ytgogajbfiocdbaa.A
