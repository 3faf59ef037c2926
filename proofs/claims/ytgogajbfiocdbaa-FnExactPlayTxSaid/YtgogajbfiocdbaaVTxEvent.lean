/- What the converters of TxEvent compute. -/
import Derived.Test.YtgogajbfiocdbaaTTxEvent
import Derived.Test.YtgogajbfiocdbaaGLTxEvent
namespace Go.Proofs.Ytgogajbfiocdbaa.A
open Go
set_option linter.unusedSimpArgs false
set_option linter.unusedVariables false
section
variable {F : Nat → Option RF} {Z : CallF} {h : Heap} {x y : Cell} {xs ys : List TxEvent} {fp fq : List Nat}
def TxEvent.zero : List Cell := [.int .i64 0, .int .i64 0, .int .i64 0]
theorem toTxEvent_run (hL : Has F tLTxEvent) (p : TxEvent) (h : Heap) : call F Z 100 [.agg p.enc] h = some (.agg p.enc, h) := by
  rw [call_run F Z (hL.lk (g := 100) rfl) _ _ rfl]
  simp only [TxEvent.enc, run0, run1, run2, run3, run4, noSlot, memN, RO.dst, lk, drop, forget, number, Nat.reduceBEq, cond_true, cond_false, Option.bind_some, cut?, splice?, builds, List.length_cons, List.length_nil, List.drop_succ_cons, List.drop_zero, List.take_succ_cons, List.take_zero, List.cons_append, List.nil_append, List.append_nil, List.drop_nil, List.take_nil, Nat.reduceAdd, Nat.reduceLeDiff, Nat.zero_add, Nat.add_zero, ↓reduceIte, Bool.not_true, Bool.not_false, decide_true, decide_false, eq_self, bne_self_eq_false, List.getElem?_cons_zero, List.getElem?_cons_succ, decide_eq_true_eq, Bool.false_eq_true, Bool.true_eq_false, reduceCtorEq, Nat.le_refl]
set_option maxHeartbeats 1000000 in
theorem eqTxEvent_run (hL : Has F tLTxEvent) (p q : TxEvent) (h : Heap) : call F Z 101 [.agg p.enc, .agg q.enc] h = some (.c (.bool (decide (p = q))), h) := by
  rw [call_run F Z (hL.lk (g := 101) rfl) _ _ rfl]
  obtain ⟨kind1, side1, code1⟩ := p
  obtain ⟨kind2, side2, code2⟩ := q
  simp only [TxEvent.enc, run0, run1, run2, run3, run4, noSlot, memN, RO.dst, lk, drop, forget, number, Nat.reduceBEq, cond_true, cond_false, Option.bind_some, cut?, splice?, builds, List.length_cons, List.length_nil, List.drop_succ_cons, List.drop_zero, List.take_succ_cons, List.take_zero, List.cons_append, List.nil_append, List.append_nil, List.drop_nil, List.take_nil, Nat.reduceAdd, Nat.reduceLeDiff, Nat.zero_add, Nat.add_zero, ↓reduceIte, Bool.not_true, Bool.not_false, decide_true, decide_false, eq_self, bne_self_eq_false, List.getElem?_cons_zero, List.getElem?_cons_succ, decide_eq_true_eq, Bool.false_eq_true, Bool.true_eq_false, reduceCtorEq, Nat.le_refl]
  (repeat' ((first | (rw [gF_if]; split) | (rw [condC_if]; split) | (rw [pickR_if]; split)) <;> (rename_i hh; (try simp only [Bool.not_eq_true, decide_eq_true_eq] at hh); simp only [hh, run0, run1, run2, run3, run4, noSlot, memN, RO.dst, lk, drop, forget, number, Nat.reduceBEq, cond_true, cond_false, Option.bind_some, cut?, splice?, builds, List.length_cons, List.length_nil, List.drop_succ_cons, List.drop_zero, List.take_succ_cons, List.take_zero, List.cons_append, List.nil_append, List.append_nil, List.drop_nil, List.take_nil, Nat.reduceAdd, Nat.reduceLeDiff, Nat.zero_add, Nat.add_zero, ↓reduceIte, Bool.not_true, Bool.not_false, decide_true, decide_false, eq_self, bne_self_eq_false, List.getElem?_cons_zero, List.getElem?_cons_succ, decide_eq_true_eq, Bool.false_eq_true, Bool.true_eq_false, reduceCtorEq, Nat.le_refl]))) <;> refine fin_bool ?_ <;> simp_all
theorem szTxEventS_run (hL : Has F tLTxEvent) (w : SlR 6 (Fl TxEvent.enc) h x xs fp) (left : Int) (h1 : 0 ≤ left) (h2 : left ≤ 1048576) : call F Z 57 [.c x, .c (.int .i64 left)] h = some (.c (.int .i64 (if left - xs.length < 0 then -1 else left - xs.length)), h) := by
  have := w.le2
  rw [call_run F Z (hL.lk (g := 57) rfl) _ _ rfl]
  simp only [run0, run1, run2, run3, run4, noSlot, memN, RO.dst, lk, drop, forget, number, Nat.reduceBEq, cond_true, cond_false, Option.bind_some, cut?, splice?, builds, List.length_cons, List.length_nil, List.drop_succ_cons, List.drop_zero, List.take_succ_cons, List.take_zero, List.cons_append, List.nil_append, List.append_nil, List.drop_nil, List.take_nil, Nat.reduceAdd, Nat.reduceLeDiff, Nat.zero_add, Nat.add_zero, ↓reduceIte, Bool.not_true, Bool.not_false, decide_true, decide_false, eq_self, bne_self_eq_false, List.getElem?_cons_zero, List.getElem?_cons_succ, decide_eq_true_eq, Bool.false_eq_true, Bool.true_eq_false, reduceCtorEq, Nat.le_refl, w.len, wrapI (left - xs.length) (by omega) (by omega)]
  (repeat' ((first | (rw [gF_if]; split) | (rw [condC_if]; split) | (rw [pickR_if]; split)) <;> (rename_i hh; (try simp only [Bool.not_eq_true, decide_eq_true_eq] at hh); simp only [hh, run0, run1, run2, run3, run4, noSlot, memN, RO.dst, lk, drop, forget, number, Nat.reduceBEq, cond_true, cond_false, Option.bind_some, cut?, splice?, builds, List.length_cons, List.length_nil, List.drop_succ_cons, List.drop_zero, List.take_succ_cons, List.take_zero, List.cons_append, List.nil_append, List.append_nil, List.drop_nil, List.take_nil, Nat.reduceAdd, Nat.reduceLeDiff, Nat.zero_add, Nat.add_zero, ↓reduceIte, Bool.not_true, Bool.not_false, decide_true, decide_false, eq_self, bne_self_eq_false, List.getElem?_cons_zero, List.getElem?_cons_succ, decide_eq_true_eq, Bool.false_eq_true, Bool.true_eq_false, reduceCtorEq, Nat.le_refl]))) <;> simp_all
theorem toTxEventS_run (hL : Has F tLTxEvent) (hf : h.floor ≤ h.next) (w : SlR 6 (Fl TxEvent.enc) h x xs fp) (hn : xs.length ≤ 1048576) : call F Z 58 [.c x] h = some (.c (.sl 5 h.next 0 xs.length), h.push (xs.map TxEvent.enc)) := by
  rw [call_run F Z (hL.lk (g := 58) rfl) _ _ rfl]
  simp only [run0, run1, run2, run3, run4, noSlot, memN, RO.dst, lk, drop, forget, number, Nat.reduceBEq, cond_true, cond_false, Option.bind_some, cut?, splice?, builds, List.length_cons, List.length_nil, List.drop_succ_cons, List.drop_zero, List.take_succ_cons, List.take_zero, List.cons_append, List.nil_append, List.append_nil, List.drop_nil, List.take_nil, Nat.reduceAdd, Nat.reduceLeDiff, Nat.zero_add, Nat.add_zero, ↓reduceIte, Bool.not_true, Bool.not_false, decide_true, decide_false, eq_self, bne_self_eq_false, List.getElem?_cons_zero, List.getElem?_cons_succ, decide_eq_true_eq, Bool.false_eq_true, Bool.true_eq_false, reduceCtorEq, Nat.le_refl, w.len]
  rw [if_pos (by omega)]
  simp only [run0, run1, run2, run3, run4, noSlot, memN, RO.dst, lk, drop, forget, number, Nat.reduceBEq, cond_true, cond_false, Option.bind_some, cut?, splice?, builds, List.length_cons, List.length_nil, List.drop_succ_cons, List.drop_zero, List.take_succ_cons, List.take_zero, List.cons_append, List.nil_append, List.append_nil, List.drop_nil, List.take_nil, Nat.reduceAdd, Nat.reduceLeDiff, Nat.zero_add, Nat.add_zero, ↓reduceIte, Bool.not_true, Bool.not_false, decide_true, decide_false, eq_self, bne_self_eq_false, List.getElem?_cons_zero, List.getElem?_cons_succ, decide_eq_true_eq, Bool.false_eq_true, Bool.true_eq_false, reduceCtorEq, Nat.le_refl, Int.toNat_natCast]
  have key : loop F Z [0, 3, 4] r58L0 ⟨[(0, .c x), (3, .c (.sl 5 h.next 0 xs.length)), (4, .c (.int .i64 (0 : Nat)))], [], [], h.push (fillR TxEvent.enc TxEvent.zero xs 0)⟩ = loop F Z [0, 3, 4] r58L0 ⟨[(0, .c x), (3, .c (.sl 5 h.next 0 xs.length)), (4, .c (.int .i64 (xs.length : Nat)))], [], [], h.push (fillR TxEvent.enc TxEvent.zero xs xs.length)⟩ :=
    loop_goesF xs.length (fun i => ⟨[(0, .c x), (3, .c (.sl 5 h.next 0 xs.length)), (4, .c (.int .i64 (i : Nat)))], [], [], h.push (fillR TxEvent.enc TxEvent.zero xs i)⟩) fun i hi => by
      have w' := w.mono (Fl.ok _) (HExt.push h (fillR TxEvent.enc TxEvent.zero xs i))
      have hlt : (i : Int) < xs.length := by omega
      have h0 : (0 : Int) ≤ i := by omega
      rw [loop_run]
      simp only [r58L0, run0, run1, run2, run3, run4, noSlot, memN, RO.dst, lk, drop, forget, number, Nat.reduceBEq, cond_true, cond_false, Option.bind_some, cut?, splice?, builds, List.length_cons, List.length_nil, List.drop_succ_cons, List.drop_zero, List.take_succ_cons, List.take_zero, List.cons_append, List.nil_append, List.append_nil, List.drop_nil, List.take_nil, Nat.reduceAdd, Nat.reduceLeDiff, Nat.zero_add, Nat.add_zero, ↓reduceIte, Bool.not_true, Bool.not_false, decide_true, decide_false, eq_self, bne_self_eq_false, List.getElem?_cons_zero, List.getElem?_cons_succ, decide_eq_true_eq, Bool.false_eq_true, Bool.true_eq_false, reduceCtorEq, Nat.le_refl, w.len, hlt, w.idx hi, w'.load hi, TxEvent.len, TxEvent.tak, toTxEvent_run hL, h0, and_self, Int.toNat_natCast, storeP_push hf (fillR_get TxEvent.enc TxEvent.zero xs hi) (TxEvent.len xs[i]), wrapS i (by omega)]
      rw [← fillR_set TxEvent.enc TxEvent.zero xs hi]
  rw [fillR_0] at key
  rw [fillR_n] at key
  rw [show ((0 : Nat) : Int) = 0 from rfl] at key
  simp only [TxEvent.zero] at key
  rw [key, loop_run]
  have hlt : ¬ (xs.length : Int) < xs.length := by omega
  simp only [r58L0, run0, run1, run2, run3, run4, noSlot, memN, RO.dst, lk, drop, forget, number, Nat.reduceBEq, cond_true, cond_false, Option.bind_some, cut?, splice?, builds, List.length_cons, List.length_nil, List.drop_succ_cons, List.drop_zero, List.take_succ_cons, List.take_zero, List.cons_append, List.nil_append, List.append_nil, List.drop_nil, List.take_nil, Nat.reduceAdd, Nat.reduceLeDiff, Nat.zero_add, Nat.add_zero, ↓reduceIte, Bool.not_true, Bool.not_false, decide_true, decide_false, eq_self, bne_self_eq_false, List.getElem?_cons_zero, List.getElem?_cons_succ, decide_eq_true_eq, Bool.false_eq_true, Bool.true_eq_false, reduceCtorEq, Nat.le_refl, w.len, hlt]
theorem toTxEventS_c (hL : Has F tLTxEvent) (hf : h.floor ≤ h.next) (w : SlR 6 (Fl TxEvent.enc) h x xs fp) (hn : xs.length ≤ 1048576) : ∃ y h' fq, call F Z 58 [.c x] h = some (.c y, h') ∧ On h h' ∧ SlR 5 (Fl TxEvent.enc) h' y xs fq ∧ Fre h fq :=
  ⟨_, _, _, toTxEventS_run hL hf w hn, On.push _ _, SlR.ofFlat w.le (push_get _ _) (by rw [push_next]; omega), Fre.one h⟩
theorem eqTxEventS_run (hL : Has F tLTxEvent) (w : SlR 5 (Fl TxEvent.enc) h x xs fp) (v : SlR 5 (Fl TxEvent.enc) h y ys fq) : call F Z 62 [.c x, .c y] h = some (.c (.bool (decide (xs = ys))), h) := by
  have hw := w.le2
  have hv := v.le2
  rw [call_run F Z (hL.lk (g := 62) rfl) _ _ rfl]
  simp only [run0, run1, run2, run3, run4, noSlot, memN, RO.dst, lk, drop, forget, number, Nat.reduceBEq, cond_true, cond_false, Option.bind_some, cut?, splice?, builds, List.length_cons, List.length_nil, List.drop_succ_cons, List.drop_zero, List.take_succ_cons, List.take_zero, List.cons_append, List.nil_append, List.append_nil, List.drop_nil, List.take_nil, Nat.reduceAdd, Nat.reduceLeDiff, Nat.zero_add, Nat.add_zero, ↓reduceIte, Bool.not_true, Bool.not_false, decide_true, decide_false, eq_self, bne_self_eq_false, List.getElem?_cons_zero, List.getElem?_cons_succ, decide_eq_true_eq, Bool.false_eq_true, Bool.true_eq_false, reduceCtorEq, Nat.le_refl, w.len, v.len]
  rw [condC_if]
  split
  · rename_i hne
    have : xs ≠ ys := by rintro rfl; simp at hne
    simp only [run0, run1, run2, run3, run4, noSlot, memN, RO.dst, lk, drop, forget, number, Nat.reduceBEq, cond_true, cond_false, Option.bind_some, cut?, splice?, builds, List.length_cons, List.length_nil, List.drop_succ_cons, List.drop_zero, List.take_succ_cons, List.take_zero, List.cons_append, List.nil_append, List.append_nil, List.drop_nil, List.take_nil, Nat.reduceAdd, Nat.reduceLeDiff, Nat.zero_add, Nat.add_zero, ↓reduceIte, Bool.not_true, Bool.not_false, decide_true, decide_false, eq_self, bne_self_eq_false, List.getElem?_cons_zero, List.getElem?_cons_succ, decide_eq_true_eq, Bool.false_eq_true, Bool.true_eq_false, reduceCtorEq, Nat.le_refl, this]
  · rename_i he
    have he : xs.length = ys.length := by simp at he; omega
    simp only [run0, run1, run2, run3, run4, noSlot, memN, RO.dst, lk, drop, forget, number, Nat.reduceBEq, cond_true, cond_false, Option.bind_some, cut?, splice?, builds, List.length_cons, List.length_nil, List.drop_succ_cons, List.drop_zero, List.take_succ_cons, List.take_zero, List.cons_append, List.nil_append, List.append_nil, List.drop_nil, List.take_nil, Nat.reduceAdd, Nat.reduceLeDiff, Nat.zero_add, Nat.add_zero, ↓reduceIte, Bool.not_true, Bool.not_false, decide_true, decide_false, eq_self, bne_self_eq_false, List.getElem?_cons_zero, List.getElem?_cons_succ, decide_eq_true_eq, Bool.false_eq_true, Bool.true_eq_false, reduceCtorEq, Nat.le_refl]
    have key := loop_allN (F := F) (Z := Z) (live := [0, 1, 5]) (b := r62L0) xs.length (fun i => ⟨[(0, .c x), (1, .c y), (5, .c (.int .i64 (i : Nat)))], [], [], h⟩) (fun i => decide (xs[i]? = ys[i]?)) (fun s => lk s.env 4 = some (.c (.bool false)) ∧ s.hp = h) fun i hi => by
      have hi' : i < ys.length := by omega
      have hlt : (i : Int) < xs.length := by omega
      rw [loop_run]
      simp only [r62L0, run0, run1, run2, run3, run4, noSlot, memN, RO.dst, lk, drop, forget, number, Nat.reduceBEq, cond_true, cond_false, Option.bind_some, cut?, splice?, builds, List.length_cons, List.length_nil, List.drop_succ_cons, List.drop_zero, List.take_succ_cons, List.take_zero, List.cons_append, List.nil_append, List.append_nil, List.drop_nil, List.take_nil, Nat.reduceAdd, Nat.reduceLeDiff, Nat.zero_add, Nat.add_zero, ↓reduceIte, Bool.not_true, Bool.not_false, decide_true, decide_false, eq_self, bne_self_eq_false, List.getElem?_cons_zero, List.getElem?_cons_succ, decide_eq_true_eq, Bool.false_eq_true, Bool.true_eq_false, reduceCtorEq, Nat.le_refl, w.len, hlt, w.idx hi, v.idx hi', w.load hi, v.load hi', TxEvent.len, TxEvent.tak, eqTxEvent_run hL, wrapS i (by omega)]
      rw [List.getElem?_eq_getElem hi, List.getElem?_eq_getElem hi']
      (repeat' ((first | (rw [gF_if]; split) | (rw [condC_if]; split) | (rw [pickR_if]; split)) <;> (rename_i hh; (try simp only [Bool.not_eq_true, decide_eq_true_eq] at hh); simp only [hh, run0, run1, run2, run3, run4, noSlot, memN, RO.dst, lk, drop, forget, number, Nat.reduceBEq, cond_true, cond_false, Option.bind_some, cut?, splice?, builds, List.length_cons, List.length_nil, List.drop_succ_cons, List.drop_zero, List.take_succ_cons, List.take_zero, List.cons_append, List.nil_append, List.append_nil, List.drop_nil, List.take_nil, Nat.reduceAdd, Nat.reduceLeDiff, Nat.zero_add, Nat.add_zero, ↓reduceIte, Bool.not_true, Bool.not_false, decide_true, decide_false, eq_self, bne_self_eq_false, List.getElem?_cons_zero, List.getElem?_cons_succ, decide_eq_true_eq, Bool.false_eq_true, Bool.true_eq_false, reduceCtorEq, Nat.le_refl, wrapS i (by omega)])))
      · exact .inr ⟨by simp_all, _, rfl, rfl, rfl⟩
      · exact .inl ⟨by simp_all, rfl⟩
    rw [all_same he] at key
    rcases key with ⟨k1, k2⟩ | ⟨k1, s, k2, k3, k4⟩
    · simp only [show ((0 : Nat) : Int) = 0 from rfl] at k2
      rw [k2, loop_run]
      have hlt : ¬ (xs.length : Int) < xs.length := by omega
      simp only [r62L0, run0, run1, run2, run3, run4, noSlot, memN, RO.dst, lk, drop, forget, number, Nat.reduceBEq, cond_true, cond_false, Option.bind_some, cut?, splice?, builds, List.length_cons, List.length_nil, List.drop_succ_cons, List.drop_zero, List.take_succ_cons, List.take_zero, List.cons_append, List.nil_append, List.append_nil, List.drop_nil, List.take_nil, Nat.reduceAdd, Nat.reduceLeDiff, Nat.zero_add, Nat.add_zero, ↓reduceIte, Bool.not_true, Bool.not_false, decide_true, decide_false, eq_self, bne_self_eq_false, List.getElem?_cons_zero, List.getElem?_cons_succ, decide_eq_true_eq, Bool.false_eq_true, Bool.true_eq_false, reduceCtorEq, Nat.le_refl, w.len, hlt, k1]
    · simp only [show ((0 : Nat) : Int) = 0 from rfl] at k2
      rw [k2]
      simp only [run0, run1, run2, run3, run4, noSlot, memN, RO.dst, lk, drop, forget, number, Nat.reduceBEq, cond_true, cond_false, Option.bind_some, cut?, splice?, builds, List.length_cons, List.length_nil, List.drop_succ_cons, List.drop_zero, List.take_succ_cons, List.take_zero, List.cons_append, List.nil_append, List.append_nil, List.drop_nil, List.take_nil, Nat.reduceAdd, Nat.reduceLeDiff, Nat.zero_add, Nat.add_zero, ↓reduceIte, Bool.not_true, Bool.not_false, decide_true, decide_false, eq_self, bne_self_eq_false, List.getElem?_cons_zero, List.getElem?_cons_succ, decide_eq_true_eq, Bool.false_eq_true, Bool.true_eq_false, reduceCtorEq, Nat.le_refl, k3, k4, k1]
/-- What is written to mark one. -/
def TxEvent.mk_ (k : Int) : TxEvent := ⟨k, k + 1, k + 1 + 1⟩
def TxEvent.marks (n : Nat) (k : Int) : List TxEvent := (List.range n).map fun i : Nat => TxEvent.mk_ (k + 3 * (i : Int))
theorem TxEvent.marks_len (n : Nat) (k : Int) : (TxEvent.marks n k).length = n := by simp [TxEvent.marks]
set_option maxHeartbeats 1000000 in
theorem markTxEventS_run (hL : Has F tLTxEvent) (w : SlR 5 (Fl TxEvent.enc) h x xs fp) (hlo : ∀ id, id ∈ fp → h.floor ≤ id) (k : Int) (h1 : 0 ≤ k) (h2 : k + 3 * xs.length ≤ 4611686018427387904) :
    ∃ h', call F Z 63 [.c x, .c (.int .i64 k)] h = some (.c (.int .i64 (k + 3 * xs.length)), h') ∧ Mk h h' fp ∧ SlR 5 (Fl TxEvent.enc) h' x (TxEvent.marks xs.length k) fp := by
  have hle := w.le2
  have hlm := TxEvent.marks_len xs.length k
  rw [call_run F Z (hL.lk (g := 63) rfl) _ _ rfl]
  simp only [run0, run1, run2, run3, run4, noSlot, memN, RO.dst, lk, drop, forget, number, Nat.reduceBEq, cond_true, cond_false, Option.bind_some, cut?, splice?, builds, List.length_cons, List.length_nil, List.drop_succ_cons, List.drop_zero, List.take_succ_cons, List.take_zero, List.cons_append, List.nil_append, List.append_nil, List.drop_nil, List.take_nil, Nat.reduceAdd, Nat.reduceLeDiff, Nat.zero_add, Nat.add_zero, ↓reduceIte, Bool.not_true, Bool.not_false, decide_true, decide_false, eq_self, bne_self_eq_false, List.getElem?_cons_zero, List.getElem?_cons_succ, decide_eq_true_eq, Bool.false_eq_true, Bool.true_eq_false, reduceCtorEq, Nat.le_refl]
  rcases w.flat with ⟨rfl, rfl, rfl⟩ | ⟨hx, hg, hn, rfl⟩
  · rw [loop_run]
    simp only [r63L0, run0, run1, run2, run3, run4, noSlot, memN, RO.dst, lk, drop, forget, number, Nat.reduceBEq, cond_true, cond_false, Option.bind_some, cut?, splice?, builds, List.length_cons, List.length_nil, List.drop_succ_cons, List.drop_zero, List.take_succ_cons, List.take_zero, List.cons_append, List.nil_append, List.append_nil, List.drop_nil, List.take_nil, Nat.reduceAdd, Nat.reduceLeDiff, Nat.zero_add, Nat.add_zero, ↓reduceIte, Bool.not_true, Bool.not_false, decide_true, decide_false, eq_self, bne_self_eq_false, List.getElem?_cons_zero, List.getElem?_cons_succ, decide_eq_true_eq, Bool.false_eq_true, Bool.true_eq_false, reduceCtorEq, Nat.le_refl, show ¬ ((0 : Int) < 0) from by omega]
    exact ⟨h, by simp, Mk.refl _ _, by simpa [TxEvent.marks] using w⟩
  · have hfl : h.floor ≤ x.sid := hlo _ (by simp)
    have key : loop F Z [0, 1, 5] r63L0 ⟨[(0, .c x), (1, .c (.int .i64 (k + 3 * (0 : Nat)))), (5, .c (.int .i64 (0 : Nat)))], [], [], h.put x.sid (mixR TxEvent.enc (TxEvent.marks xs.length k) xs 0)⟩ = loop F Z [0, 1, 5] r63L0 ⟨[(0, .c x), (1, .c (.int .i64 (k + 3 * (xs.length : Nat)))), (5, .c (.int .i64 (xs.length : Nat)))], [], [], h.put x.sid (mixR TxEvent.enc (TxEvent.marks xs.length k) xs xs.length)⟩ :=
      loop_goesF xs.length (fun i => ⟨[(0, .c x), (1, .c (.int .i64 (k + 3 * (i : Nat)))), (5, .c (.int .i64 (i : Nat)))], [], [], h.put x.sid (mixR TxEvent.enc (TxEvent.marks xs.length k) xs i)⟩) fun i hi => by
        have hlt : (i : Int) < xs.length := by omega
        have hi2 : i < (mixR TxEvent.enc (TxEvent.marks xs.length k) xs i).length := by rw [mixR_len _ hlm]; exact hi
        have hms : (TxEvent.marks xs.length k)[i]'(by omega) = TxEvent.mk_ (k + 3 * i) := by simp [TxEvent.marks]
        have hset := mixR_set TxEvent.enc hlm hi
        rw [hms] at hset
        have hput := storeP_put (h := h) hfl hi2
        rw [← mixR_cur TxEvent.enc hlm hi, ← hset, loop_run]
        simp (disch := omega) only [r63L0, run0, run1, run2, run3, run4, noSlot, memN, RO.dst, lk, drop, forget, number, Nat.reduceBEq, cond_true, cond_false, Option.bind_some, cut?, splice?, builds, List.length_cons, List.length_nil, List.drop_succ_cons, List.drop_zero, List.take_succ_cons, List.take_zero, List.cons_append, List.nil_append, List.append_nil, List.drop_nil, List.take_nil, Nat.reduceAdd, Nat.reduceLeDiff, Nat.zero_add, Nat.add_zero, ↓reduceIte, Bool.not_true, Bool.not_false, decide_true, decide_false, eq_self, bne_self_eq_false, List.getElem?_cons_zero, List.getElem?_cons_succ, decide_eq_true_eq, Bool.false_eq_true, Bool.true_eq_false, reduceCtorEq, Nat.le_refl, w.len, hlt, w.idx hi, hput, putM_s, wrapI1, wrapU1, TxEvent.enc, Int.reduceEq, TxEvent.mk_]
        rw [show k + 3 * ((i : Nat) : Int) + 1 + 1 + 1 = k + 3 * ((i + 1 : Nat) : Int) from by omega, show ((i : Nat) : Int) + 1 = ((i + 1 : Nat) : Int) from rfl]
    rw [mixR_0, put_same hg, mixR_n _ hlm] at key
    simp only [show ((0 : Nat) : Int) = 0 from rfl, Int.mul_zero, Int.add_zero] at key
    rw [key, loop_run]
    have hlt : ¬ (xs.length : Int) < xs.length := by omega
    simp only [r63L0, run0, run1, run2, run3, run4, noSlot, memN, RO.dst, lk, drop, forget, number, Nat.reduceBEq, cond_true, cond_false, Option.bind_some, cut?, splice?, builds, List.length_cons, List.length_nil, List.drop_succ_cons, List.drop_zero, List.take_succ_cons, List.take_zero, List.cons_append, List.nil_append, List.append_nil, List.drop_nil, List.take_nil, Nat.reduceAdd, Nat.reduceLeDiff, Nat.zero_add, Nat.add_zero, ↓reduceIte, Bool.not_true, Bool.not_false, decide_true, decide_false, eq_self, bne_self_eq_false, List.getElem?_cons_zero, List.getElem?_cons_succ, decide_eq_true_eq, Bool.false_eq_true, Bool.true_eq_false, reduceCtorEq, Nat.le_refl, w.len, hlt]
    refine ⟨_, rfl, Mk.put _ _ _, ?_⟩
    have := SlR.ofFlat (tag := 5) (h := h.put x.sid ((TxEvent.marks xs.length k).map TxEvent.enc)) (enc := TxEvent.enc) (xs := TxEvent.marks xs.length k) (id := x.sid) (by rw [hlm]; exact w.le) (by simp [Heap.put]) hn
    rw [hlm, ← hx] at this
    exact this
end
end Go.Proofs.Ytgogajbfiocdbaa.A
