/- The functions that the statement reaches, part 2: bodies and what they compute. No condition. -/
import Derived.Test.YtlbagejkjkfkjaaHCTx1
import Derived.Test.YtlbagejkjkfkjaaA1
import Derived.Test.YtlbagejkjkfkjaaD
/- What the converters of TxEvent compute. -/
namespace Go.Proofs.Ytlbagejkjkfkjaa.A
open Go
set_option linter.unusedSimpArgs false
set_option linter.unusedVariables false
section
variable {F : Nat → Option RF} {Z : CallF} {h : Heap} {x y : Cell} {xs ys : List TxEvent} {fp fq : List Nat}
def TxEvent.zero : List Cell := [.int .i64 0, .int .i64 0, .int .i64 0]
theorem toTxEvent_run (hL : Has F tLTxEvent) (p : TxEvent) (h : Heap) : call F Z 100 [.agg p.enc] h = some (.agg p.enc, h) := by
  rw [call_run F Z (hL.lk (g := 100) rfl) _ _ rfl]
  simp only [TxEvent.enc, run0, run1, run2, run3, run4, noSlot, ownS, ownK, memN, RO.dst, lk, drop, forget, number, Nat.reduceBEq, cut?, splice?, builds, List.length_cons, List.length_nil, List.drop_succ_cons, List.drop_zero, List.take_succ_cons, List.take_zero, List.cons_append, List.nil_append, List.append_nil, List.drop_nil, List.take_nil, Nat.reduceAdd, Nat.reduceLeDiff, Nat.zero_add, Nat.add_zero, ↓reduceIte, Bool.not_true, Bool.not_false, decide_true, decide_false, eq_self, bne_self_eq_false, List.getElem?_cons_zero, List.getElem?_cons_succ, decide_eq_true_eq, Bool.false_eq_true, Bool.true_eq_false, reduceCtorEq, Nat.le_refl]
set_option maxHeartbeats 1000000 in
theorem eqTxEvent_run (hL : Has F tLTxEvent) (p q : TxEvent) (h : Heap) : call F Z 101 [.agg p.enc, .agg q.enc] h = some (.c (.bool (decide (p = q))), h) := by
  rw [call_run F Z (hL.lk (g := 101) rfl) _ _ rfl]
  obtain ⟨kind1, side1, code1⟩ := p
  obtain ⟨kind2, side2, code2⟩ := q
  simp only [TxEvent.enc, run0, run1, run2, run3, run4, noSlot, ownS, ownK, memN, RO.dst, lk, drop, forget, number, Nat.reduceBEq, cut?, splice?, builds, List.length_cons, List.length_nil, List.drop_succ_cons, List.drop_zero, List.take_succ_cons, List.take_zero, List.cons_append, List.nil_append, List.append_nil, List.drop_nil, List.take_nil, Nat.reduceAdd, Nat.reduceLeDiff, Nat.zero_add, Nat.add_zero, ↓reduceIte, Bool.not_true, Bool.not_false, decide_true, decide_false, eq_self, bne_self_eq_false, List.getElem?_cons_zero, List.getElem?_cons_succ, decide_eq_true_eq, Bool.false_eq_true, Bool.true_eq_false, reduceCtorEq, Nat.le_refl]
  (repeat' ((first | (rw [gF_if]; split) | (rw [condC_if]; split) | (rw [pickR_if]; split)) <;> (rename_i hh; (try simp only [Bool.not_eq_true, decide_eq_true_eq] at hh); simp only [hh, run0, run1, run2, run3, run4, noSlot, ownS, ownK, memN, RO.dst, lk, drop, forget, number, Nat.reduceBEq, cut?, splice?, builds, List.length_cons, List.length_nil, List.drop_succ_cons, List.drop_zero, List.take_succ_cons, List.take_zero, List.cons_append, List.nil_append, List.append_nil, List.drop_nil, List.take_nil, Nat.reduceAdd, Nat.reduceLeDiff, Nat.zero_add, Nat.add_zero, ↓reduceIte, Bool.not_true, Bool.not_false, decide_true, decide_false, eq_self, bne_self_eq_false, List.getElem?_cons_zero, List.getElem?_cons_succ, decide_eq_true_eq, Bool.false_eq_true, Bool.true_eq_false, reduceCtorEq, Nat.le_refl]))) <;> refine fin_bool ?_ <;> simp_all
theorem szTxEventS_run (hL : Has F tLTxEvent) (w : SlR 6 (Fl TxEvent.enc) h x xs fp) (left : Int) (h1 : 0 ≤ left) (h2 : left ≤ 1048576) : call F Z 57 [.c x, .c (.int .i64 left)] h = some (.c (.int .i64 (if left - xs.length < 0 then -1 else left - xs.length)), h) := by
  have := w.le2
  rw [call_run F Z (hL.lk (g := 57) rfl) _ _ rfl]
  simp only [run0, run1, run2, run3, run4, noSlot, ownS, ownK, memN, RO.dst, lk, drop, forget, number, Nat.reduceBEq, cut?, splice?, builds, List.length_cons, List.length_nil, List.drop_succ_cons, List.drop_zero, List.take_succ_cons, List.take_zero, List.cons_append, List.nil_append, List.append_nil, List.drop_nil, List.take_nil, Nat.reduceAdd, Nat.reduceLeDiff, Nat.zero_add, Nat.add_zero, ↓reduceIte, Bool.not_true, Bool.not_false, decide_true, decide_false, eq_self, bne_self_eq_false, List.getElem?_cons_zero, List.getElem?_cons_succ, decide_eq_true_eq, Bool.false_eq_true, Bool.true_eq_false, reduceCtorEq, Nat.le_refl, w.len, wrapI (left - xs.length) (by omega) (by omega)]
  (repeat' ((first | (rw [gF_if]; split) | (rw [condC_if]; split) | (rw [pickR_if]; split)) <;> (rename_i hh; (try simp only [Bool.not_eq_true, decide_eq_true_eq] at hh); simp only [hh, run0, run1, run2, run3, run4, noSlot, ownS, ownK, memN, RO.dst, lk, drop, forget, number, Nat.reduceBEq, cut?, splice?, builds, List.length_cons, List.length_nil, List.drop_succ_cons, List.drop_zero, List.take_succ_cons, List.take_zero, List.cons_append, List.nil_append, List.append_nil, List.drop_nil, List.take_nil, Nat.reduceAdd, Nat.reduceLeDiff, Nat.zero_add, Nat.add_zero, ↓reduceIte, Bool.not_true, Bool.not_false, decide_true, decide_false, eq_self, bne_self_eq_false, List.getElem?_cons_zero, List.getElem?_cons_succ, decide_eq_true_eq, Bool.false_eq_true, Bool.true_eq_false, reduceCtorEq, Nat.le_refl]))) <;> simp_all
theorem szTxEventS_c (hL : Has F tLTxEvent) (w : SlR 6 (Fl TxEvent.enc) h x xs fp) (left : Int) (h1 : 0 ≤ left) (h2 : left ≤ 1048576) : ∃ r, call F Z 57 [.c x, .c (.int .i64 left)] h = some (.c (.int .i64 r), h) ∧ r ≤ left ∧ (0 ≤ r → xs.length ≤ 1048576) :=
  ⟨_, szTxEventS_run hL w left h1 h2, by split <;> omega, by split <;> omega⟩
theorem toTxEvent_lit (hL : Has F tLTxEvent) (kind1 side1 code1 : Int) (h : Heap) : call F Z 100 [.agg [.int .i64 kind1, .int .i64 side1, .int .i64 code1]] h = some (.agg [.int .i64 kind1, .int .i64 side1, .int .i64 code1], h) := toTxEvent_run hL ⟨kind1, side1, code1⟩ h
theorem eqTxEvent_lit (hL : Has F tLTxEvent) (kind1 side1 code1 kind2 side2 code2 : Int) (h : Heap) : call F Z 101 [.agg [.int .i64 kind1, .int .i64 side1, .int .i64 code1], .agg [.int .i64 kind2, .int .i64 side2, .int .i64 code2]] h = some (.c (.bool (decide ((⟨kind1, side1, code1⟩ : TxEvent) = ⟨kind2, side2, code2⟩))), h) := eqTxEvent_run hL ⟨kind1, side1, code1⟩ ⟨kind2, side2, code2⟩ h
theorem toTxEventS_run (hL : Has F tLTxEvent) (hf : h.floor ≤ h.next) (w : SlR 6 (Fl TxEvent.enc) h x xs fp) (hn : xs.length ≤ 1048576) : call F Z 58 [.c x] h = some (.c (.sl 5 h.next 0 xs.length), h.push (xs.map TxEvent.enc)) := by
  rw [call_run F Z (hL.lk (g := 58) rfl) _ _ rfl]
  simp only [run0, run1, run2, run3, run4, noSlot, ownS, ownK, memN, RO.dst, lk, drop, forget, number, Nat.reduceBEq, cut?, splice?, builds, List.length_cons, List.length_nil, List.drop_succ_cons, List.drop_zero, List.take_succ_cons, List.take_zero, List.cons_append, List.nil_append, List.append_nil, List.drop_nil, List.take_nil, Nat.reduceAdd, Nat.reduceLeDiff, Nat.zero_add, Nat.add_zero, ↓reduceIte, Bool.not_true, Bool.not_false, decide_true, decide_false, eq_self, bne_self_eq_false, List.getElem?_cons_zero, List.getElem?_cons_succ, decide_eq_true_eq, Bool.false_eq_true, Bool.true_eq_false, reduceCtorEq, Nat.le_refl, w.len]
  rw [if_pos (by omega)]
  simp only [run0, run1, run2, run3, run4, noSlot, ownS, ownK, memN, RO.dst, lk, drop, forget, number, Nat.reduceBEq, cut?, splice?, builds, List.length_cons, List.length_nil, List.drop_succ_cons, List.drop_zero, List.take_succ_cons, List.take_zero, List.cons_append, List.nil_append, List.append_nil, List.drop_nil, List.take_nil, Nat.reduceAdd, Nat.reduceLeDiff, Nat.zero_add, Nat.add_zero, ↓reduceIte, Bool.not_true, Bool.not_false, decide_true, decide_false, eq_self, bne_self_eq_false, List.getElem?_cons_zero, List.getElem?_cons_succ, decide_eq_true_eq, Bool.false_eq_true, Bool.true_eq_false, reduceCtorEq, Nat.le_refl, Int.toNat_natCast]
  have key : loop F Z [0, 3, 4] r58L0 ⟨[(0, .c x), (3, .c (.sl 5 h.next 0 xs.length)), (4, .c (.int .i64 (0 : Nat)))], [], [], h.push (fillR TxEvent.enc TxEvent.zero xs 0)⟩ = loop F Z [0, 3, 4] r58L0 ⟨[(0, .c x), (3, .c (.sl 5 h.next 0 xs.length)), (4, .c (.int .i64 (xs.length : Nat)))], [], [], h.push (fillR TxEvent.enc TxEvent.zero xs xs.length)⟩ :=
    loop_goesF xs.length (fun i => ⟨[(0, .c x), (3, .c (.sl 5 h.next 0 xs.length)), (4, .c (.int .i64 (i : Nat)))], [], [], h.push (fillR TxEvent.enc TxEvent.zero xs i)⟩) fun i hi => by
      have w' := w.mono (Fl.ok _) (HExt.push h (fillR TxEvent.enc TxEvent.zero xs i))
      have hlt : (i : Int) < xs.length := by omega
      have h0 : (0 : Int) ≤ i := by omega
      rw [loop_run]
      simp only [r58L0, run0, run1, run2, run3, run4, noSlot, ownS, ownK, memN, RO.dst, lk, drop, forget, number, Nat.reduceBEq, cut?, splice?, builds, List.length_cons, List.length_nil, List.drop_succ_cons, List.drop_zero, List.take_succ_cons, List.take_zero, List.cons_append, List.nil_append, List.append_nil, List.drop_nil, List.take_nil, Nat.reduceAdd, Nat.reduceLeDiff, Nat.zero_add, Nat.add_zero, ↓reduceIte, Bool.not_true, Bool.not_false, decide_true, decide_false, eq_self, bne_self_eq_false, List.getElem?_cons_zero, List.getElem?_cons_succ, decide_eq_true_eq, Bool.false_eq_true, Bool.true_eq_false, reduceCtorEq, Nat.le_refl, w.len, hlt, w.idx hi, w'.load hi, TxEvent.len, TxEvent.tak, toTxEvent_run hL, h0, and_self, Int.toNat_natCast, storeP_push hf (fillR_get TxEvent.enc TxEvent.zero xs hi) (TxEvent.len xs[i]), wrapS i (by omega)]
      rw [← fillR_set TxEvent.enc TxEvent.zero xs hi]
  rw [fillR_0] at key
  rw [fillR_n] at key
  rw [show ((0 : Nat) : Int) = 0 from rfl] at key
  simp only [TxEvent.zero] at key
  rw [key, loop_run]
  have hlt : ¬ (xs.length : Int) < xs.length := by omega
  simp only [r58L0, run0, run1, run2, run3, run4, noSlot, ownS, ownK, memN, RO.dst, lk, drop, forget, number, Nat.reduceBEq, cut?, splice?, builds, List.length_cons, List.length_nil, List.drop_succ_cons, List.drop_zero, List.take_succ_cons, List.take_zero, List.cons_append, List.nil_append, List.append_nil, List.drop_nil, List.take_nil, Nat.reduceAdd, Nat.reduceLeDiff, Nat.zero_add, Nat.add_zero, ↓reduceIte, Bool.not_true, Bool.not_false, decide_true, decide_false, eq_self, bne_self_eq_false, List.getElem?_cons_zero, List.getElem?_cons_succ, decide_eq_true_eq, Bool.false_eq_true, Bool.true_eq_false, reduceCtorEq, Nat.le_refl, w.len, hlt]
theorem toTxEventS_c (hL : Has F tLTxEvent) (hf : h.floor ≤ h.next) (w : SlR 6 (Fl TxEvent.enc) h x xs fp) (hn : xs.length ≤ 1048576) : ∃ y h' fq, call F Z 58 [.c x] h = some (.c y, h') ∧ On h h' ∧ SlR 5 (Fl TxEvent.enc) h' y xs fq ∧ Fre h fq :=
  ⟨_, _, _, toTxEventS_run hL hf w hn, On.push _ _, SlR.ofFlat w.le (push_get _ _) (by rw [push_next]; omega), Fre.one h⟩
theorem eqTxEventS_run (hL : Has F tLTxEvent) (w : SlR 5 (Fl TxEvent.enc) h x xs fp) (v : SlR 5 (Fl TxEvent.enc) h y ys fq) : call F Z 62 [.c x, .c y] h = some (.c (.bool (decide (xs = ys))), h) := by
  have hw := w.le2
  have hv := v.le2
  rw [call_run F Z (hL.lk (g := 62) rfl) _ _ rfl]
  simp only [run0, run1, run2, run3, run4, noSlot, ownS, ownK, memN, RO.dst, lk, drop, forget, number, Nat.reduceBEq, cut?, splice?, builds, List.length_cons, List.length_nil, List.drop_succ_cons, List.drop_zero, List.take_succ_cons, List.take_zero, List.cons_append, List.nil_append, List.append_nil, List.drop_nil, List.take_nil, Nat.reduceAdd, Nat.reduceLeDiff, Nat.zero_add, Nat.add_zero, ↓reduceIte, Bool.not_true, Bool.not_false, decide_true, decide_false, eq_self, bne_self_eq_false, List.getElem?_cons_zero, List.getElem?_cons_succ, decide_eq_true_eq, Bool.false_eq_true, Bool.true_eq_false, reduceCtorEq, Nat.le_refl, w.len, v.len]
  rw [condC_if]
  split
  · rename_i hne
    have : xs ≠ ys := by rintro rfl; simp at hne
    simp only [run0, run1, run2, run3, run4, noSlot, ownS, ownK, memN, RO.dst, lk, drop, forget, number, Nat.reduceBEq, cut?, splice?, builds, List.length_cons, List.length_nil, List.drop_succ_cons, List.drop_zero, List.take_succ_cons, List.take_zero, List.cons_append, List.nil_append, List.append_nil, List.drop_nil, List.take_nil, Nat.reduceAdd, Nat.reduceLeDiff, Nat.zero_add, Nat.add_zero, ↓reduceIte, Bool.not_true, Bool.not_false, decide_true, decide_false, eq_self, bne_self_eq_false, List.getElem?_cons_zero, List.getElem?_cons_succ, decide_eq_true_eq, Bool.false_eq_true, Bool.true_eq_false, reduceCtorEq, Nat.le_refl, this]
  · rename_i he
    have he : xs.length = ys.length := by simp at he; omega
    simp only [run0, run1, run2, run3, run4, noSlot, ownS, ownK, memN, RO.dst, lk, drop, forget, number, Nat.reduceBEq, cut?, splice?, builds, List.length_cons, List.length_nil, List.drop_succ_cons, List.drop_zero, List.take_succ_cons, List.take_zero, List.cons_append, List.nil_append, List.append_nil, List.drop_nil, List.take_nil, Nat.reduceAdd, Nat.reduceLeDiff, Nat.zero_add, Nat.add_zero, ↓reduceIte, Bool.not_true, Bool.not_false, decide_true, decide_false, eq_self, bne_self_eq_false, List.getElem?_cons_zero, List.getElem?_cons_succ, decide_eq_true_eq, Bool.false_eq_true, Bool.true_eq_false, reduceCtorEq, Nat.le_refl]
    have key := loop_allN (F := F) (Z := Z) (live := [0, 1, 5]) (b := r62L0) xs.length (fun i => ⟨[(0, .c x), (1, .c y), (5, .c (.int .i64 (i : Nat)))], [], [], h⟩) (fun i => decide (xs[i]? = ys[i]?)) (fun s => lk s.env 4 = some (.c (.bool false)) ∧ s.hp = h) fun i hi => by
      have hi' : i < ys.length := by omega
      have hlt : (i : Int) < xs.length := by omega
      rw [loop_run]
      simp only [r62L0, run0, run1, run2, run3, run4, noSlot, ownS, ownK, memN, RO.dst, lk, drop, forget, number, Nat.reduceBEq, cut?, splice?, builds, List.length_cons, List.length_nil, List.drop_succ_cons, List.drop_zero, List.take_succ_cons, List.take_zero, List.cons_append, List.nil_append, List.append_nil, List.drop_nil, List.take_nil, Nat.reduceAdd, Nat.reduceLeDiff, Nat.zero_add, Nat.add_zero, ↓reduceIte, Bool.not_true, Bool.not_false, decide_true, decide_false, eq_self, bne_self_eq_false, List.getElem?_cons_zero, List.getElem?_cons_succ, decide_eq_true_eq, Bool.false_eq_true, Bool.true_eq_false, reduceCtorEq, Nat.le_refl, w.len, hlt, w.idx hi, v.idx hi', w.load hi, v.load hi', TxEvent.len, TxEvent.tak, eqTxEvent_run hL, wrapS i (by omega)]
      rw [List.getElem?_eq_getElem hi, List.getElem?_eq_getElem hi']
      (repeat' ((first | (rw [gF_if]; split) | (rw [condC_if]; split) | (rw [pickR_if]; split)) <;> (rename_i hh; (try simp only [Bool.not_eq_true, decide_eq_true_eq] at hh); simp only [hh, run0, run1, run2, run3, run4, noSlot, ownS, ownK, memN, RO.dst, lk, drop, forget, number, Nat.reduceBEq, cut?, splice?, builds, List.length_cons, List.length_nil, List.drop_succ_cons, List.drop_zero, List.take_succ_cons, List.take_zero, List.cons_append, List.nil_append, List.append_nil, List.drop_nil, List.take_nil, Nat.reduceAdd, Nat.reduceLeDiff, Nat.zero_add, Nat.add_zero, ↓reduceIte, Bool.not_true, Bool.not_false, decide_true, decide_false, eq_self, bne_self_eq_false, List.getElem?_cons_zero, List.getElem?_cons_succ, decide_eq_true_eq, Bool.false_eq_true, Bool.true_eq_false, reduceCtorEq, Nat.le_refl, wrapS i (by omega)])))
      · exact .inr ⟨by simp_all, _, rfl, rfl, rfl⟩
      · exact .inl ⟨by simp_all, rfl⟩
    rw [all_same he] at key
    rcases key with ⟨k1, k2⟩ | ⟨k1, s, k2, k3, k4⟩
    · simp only [show ((0 : Nat) : Int) = 0 from rfl] at k2
      rw [k2, loop_run]
      have hlt : ¬ (xs.length : Int) < xs.length := by omega
      simp only [r62L0, run0, run1, run2, run3, run4, noSlot, ownS, ownK, memN, RO.dst, lk, drop, forget, number, Nat.reduceBEq, cut?, splice?, builds, List.length_cons, List.length_nil, List.drop_succ_cons, List.drop_zero, List.take_succ_cons, List.take_zero, List.cons_append, List.nil_append, List.append_nil, List.drop_nil, List.take_nil, Nat.reduceAdd, Nat.reduceLeDiff, Nat.zero_add, Nat.add_zero, ↓reduceIte, Bool.not_true, Bool.not_false, decide_true, decide_false, eq_self, bne_self_eq_false, List.getElem?_cons_zero, List.getElem?_cons_succ, decide_eq_true_eq, Bool.false_eq_true, Bool.true_eq_false, reduceCtorEq, Nat.le_refl, w.len, hlt, k1]
    · simp only [show ((0 : Nat) : Int) = 0 from rfl] at k2
      rw [k2]
      simp only [run0, run1, run2, run3, run4, noSlot, ownS, ownK, memN, RO.dst, lk, drop, forget, number, Nat.reduceBEq, cut?, splice?, builds, List.length_cons, List.length_nil, List.drop_succ_cons, List.drop_zero, List.take_succ_cons, List.take_zero, List.cons_append, List.nil_append, List.append_nil, List.drop_nil, List.take_nil, Nat.reduceAdd, Nat.reduceLeDiff, Nat.zero_add, Nat.add_zero, ↓reduceIte, Bool.not_true, Bool.not_false, decide_true, decide_false, eq_self, bne_self_eq_false, List.getElem?_cons_zero, List.getElem?_cons_succ, decide_eq_true_eq, Bool.false_eq_true, Bool.true_eq_false, reduceCtorEq, Nat.le_refl, k3, k4, k1]
/-- What is written to mark one. -/
def TxEvent.mk_ (k : Int) : TxEvent := ⟨k, k + 1, k + 1 + 1⟩
def TxEvent.marks (n : Nat) (k : Int) : List TxEvent := (List.range n).map fun i : Nat => TxEvent.mk_ (k + 3 * (i : Int))
theorem TxEvent.marks_len (n : Nat) (k : Int) : (TxEvent.marks n k).length = n := by simp [TxEvent.marks]
set_option maxHeartbeats 1000000 in
theorem markTxEventS_run (hL : Has F tLTxEvent) (w : SlR 5 (Fl TxEvent.enc) h x xs fp) (hlo : ∀ id, id ∈ fp → h.floor ≤ id) (k : Int) (h1 : 0 ≤ k) (h2 : k + 3 * xs.length ≤ 9200000000000000000) :
    ∃ h', call F Z 63 [.c x, .c (.int .i64 k)] h = some (.c (.int .i64 (k + 3 * xs.length)), h') ∧ Mk h h' fp ∧ SlR 5 (Fl TxEvent.enc) h' x (TxEvent.marks xs.length k) fp := by
  have hle := w.le2
  have hlm := TxEvent.marks_len xs.length k
  rw [call_run F Z (hL.lk (g := 63) rfl) _ _ rfl]
  simp only [run0, run1, run2, run3, run4, noSlot, ownS, ownK, memN, RO.dst, lk, drop, forget, number, Nat.reduceBEq, cut?, splice?, builds, List.length_cons, List.length_nil, List.drop_succ_cons, List.drop_zero, List.take_succ_cons, List.take_zero, List.cons_append, List.nil_append, List.append_nil, List.drop_nil, List.take_nil, Nat.reduceAdd, Nat.reduceLeDiff, Nat.zero_add, Nat.add_zero, ↓reduceIte, Bool.not_true, Bool.not_false, decide_true, decide_false, eq_self, bne_self_eq_false, List.getElem?_cons_zero, List.getElem?_cons_succ, decide_eq_true_eq, Bool.false_eq_true, Bool.true_eq_false, reduceCtorEq, Nat.le_refl]
  rcases w.flat with ⟨rfl, rfl, rfl⟩ | ⟨hx, hg, hn, rfl⟩
  · rw [loop_run]
    simp only [r63L0, run0, run1, run2, run3, run4, noSlot, ownS, ownK, memN, RO.dst, lk, drop, forget, number, Nat.reduceBEq, cut?, splice?, builds, List.length_cons, List.length_nil, List.drop_succ_cons, List.drop_zero, List.take_succ_cons, List.take_zero, List.cons_append, List.nil_append, List.append_nil, List.drop_nil, List.take_nil, Nat.reduceAdd, Nat.reduceLeDiff, Nat.zero_add, Nat.add_zero, ↓reduceIte, Bool.not_true, Bool.not_false, decide_true, decide_false, eq_self, bne_self_eq_false, List.getElem?_cons_zero, List.getElem?_cons_succ, decide_eq_true_eq, Bool.false_eq_true, Bool.true_eq_false, reduceCtorEq, Nat.le_refl, show ¬ ((0 : Int) < 0) from by omega]
    exact ⟨h, by simp, Mk.refl _ _, by simpa [TxEvent.marks] using w⟩
  · have hfl : h.floor ≤ x.sid := hlo _ (by simp)
    have key : loop F Z [0, 1, 5] r63L0 ⟨[(0, .c x), (1, .c (.int .i64 (k + 3 * (0 : Nat)))), (5, .c (.int .i64 (0 : Nat)))], [], [], h.put x.sid (mixR TxEvent.enc (TxEvent.marks xs.length k) xs 0)⟩ = loop F Z [0, 1, 5] r63L0 ⟨[(0, .c x), (1, .c (.int .i64 (k + 3 * (xs.length : Nat)))), (5, .c (.int .i64 (xs.length : Nat)))], [], [], h.put x.sid (mixR TxEvent.enc (TxEvent.marks xs.length k) xs xs.length)⟩ :=
      loop_goesF xs.length (fun i => ⟨[(0, .c x), (1, .c (.int .i64 (k + 3 * (i : Nat)))), (5, .c (.int .i64 (i : Nat)))], [], [], h.put x.sid (mixR TxEvent.enc (TxEvent.marks xs.length k) xs i)⟩) fun i hi => by
        have hlt : (i : Int) < xs.length := by omega
        have hi2 : i < (mixR TxEvent.enc (TxEvent.marks xs.length k) xs i).length := by rw [mixR_len _ hlm]; exact hi
        have hms : (TxEvent.marks xs.length k)[i]'(by omega) = TxEvent.mk_ (k + 3 * i) := by simp [TxEvent.marks]
        have hset := mixR_set TxEvent.enc hlm hi
        rw [hms] at hset
        have hput := storeP_put (h := h) hfl hi2
        rw [← mixR_cur TxEvent.enc hlm hi, ← hset, loop_run]
        simp (disch := omega) only [r63L0, run0, run1, run2, run3, run4, noSlot, ownS, ownK, memN, RO.dst, lk, drop, forget, number, Nat.reduceBEq, cut?, splice?, builds, List.length_cons, List.length_nil, List.drop_succ_cons, List.drop_zero, List.take_succ_cons, List.take_zero, List.cons_append, List.nil_append, List.append_nil, List.drop_nil, List.take_nil, Nat.reduceAdd, Nat.reduceLeDiff, Nat.zero_add, Nat.add_zero, ↓reduceIte, Bool.not_true, Bool.not_false, decide_true, decide_false, eq_self, bne_self_eq_false, List.getElem?_cons_zero, List.getElem?_cons_succ, decide_eq_true_eq, Bool.false_eq_true, Bool.true_eq_false, reduceCtorEq, Nat.le_refl, w.len, hlt, w.idx hi, hput, putM_s, wrapI1, wrapU1, TxEvent.enc, Int.reduceEq, TxEvent.mk_]
        rw [show k + 3 * ((i : Nat) : Int) + 1 + 1 + 1 = k + 3 * ((i + 1 : Nat) : Int) from by omega, show ((i : Nat) : Int) + 1 = ((i + 1 : Nat) : Int) from rfl]
    rw [mixR_0, put_same hg, mixR_n _ hlm] at key
    simp only [show ((0 : Nat) : Int) = 0 from rfl, Int.mul_zero, Int.add_zero] at key
    rw [key, loop_run]
    have hlt : ¬ (xs.length : Int) < xs.length := by omega
    simp only [r63L0, run0, run1, run2, run3, run4, noSlot, ownS, ownK, memN, RO.dst, lk, drop, forget, number, Nat.reduceBEq, cut?, splice?, builds, List.length_cons, List.length_nil, List.drop_succ_cons, List.drop_zero, List.take_succ_cons, List.take_zero, List.cons_append, List.nil_append, List.append_nil, List.drop_nil, List.take_nil, Nat.reduceAdd, Nat.reduceLeDiff, Nat.zero_add, Nat.add_zero, ↓reduceIte, Bool.not_true, Bool.not_false, decide_true, decide_false, eq_self, bne_self_eq_false, List.getElem?_cons_zero, List.getElem?_cons_succ, decide_eq_true_eq, Bool.false_eq_true, Bool.true_eq_false, reduceCtorEq, Nat.le_refl, w.len, hlt]
    refine ⟨_, rfl, Mk.put _ _ _, ?_⟩
    have := SlR.ofFlat (tag := 5) (h := h.put x.sid ((TxEvent.marks xs.length k).map TxEvent.enc)) (enc := TxEvent.enc) (xs := TxEvent.marks xs.length k) (id := x.sid) (by rw [hlm]; exact w.le) (by simp [Heap.put]) hn
    rw [hlm, ← hx] at this
    exact this
end
end Go.Proofs.Ytlbagejkjkfkjaa.A
/- The compact code of some functions: laws.eqBoolS, laws.markBoolS, laws.heldBoolS. -/
namespace Go.Proofs.Ytlbagejkjkfkjaa.A
open Go
/-- A loop of laws.eqBoolS. -/
def r61L0 : RC :=
 .seq (.seq (.reg [⟨none, .mov 11 (.t 5)⟩,
      ⟨none, .mov 12 (.t 0)⟩,
      ⟨none, .len 13 (.t 12)⟩,
      ⟨none, .bin 14 .lss (.t 11) (.t 13)⟩])
     (.cond (.t 14)
     (.skip)
     (.exit 0)))
    (.seq (.block 1 (.seq (.reg [⟨none, .chk []⟩,
       ⟨none, .mov 17 (.t 0)⟩,
       ⟨none, .mov 18 (.t 5)⟩,
       ⟨none, .idx 19 4 (.t 17) (.t 18)⟩,
       ⟨none, .mov 21 (.t 1)⟩,
       ⟨none, .mov 22 (.t 5)⟩,
       ⟨none, .idx 23 4 (.t 21) (.t 22)⟩,
       ⟨none, .load 20 19 1 false⟩,
       ⟨none, .load 24 23 1 false⟩,
       ⟨none, .beq 25 true (.t 20) (.t 24)⟩])
      (.cond (.t 25)
      (.seq (.reg [⟨none, .mov 4 (.k (.bool false))⟩])
       (.ret))
      (.skip))))
    (.reg [⟨none, .mov 15 (.t 5)⟩,
    ⟨none, .bin 16 .add (.t 15) (.k (.int .i64 1))⟩,
    ⟨none, .mov 5 (.t 16)⟩]))
/-- laws.eqBoolS -/
def r61 : RF :=
 ⟨2, [.tmp 4],
 .seq (.reg [⟨none, .mov 4 (.k (.bool false))⟩])
 (.seq (.seq (.reg [⟨none, .mov 6 (.t 0)⟩,
   ⟨none, .len 7 (.t 6)⟩,
   ⟨none, .mov 8 (.t 1)⟩,
   ⟨none, .len 9 (.t 8)⟩,
   ⟨none, .bin 10 .neq (.t 7) (.t 9)⟩])
  (.cond (.t 10)
  (.seq (.reg [⟨none, .mov 4 (.k (.bool false))⟩])
   (.ret))
  (.skip)))
 (.seq (.seq (.reg [⟨none, .mov 5 (.k (.int .i64 0))⟩])
  (.block 0 (.loop [0, 1, 5]
   r61L0)))
 (.seq (.reg [⟨none, .mov 4 (.k (.bool true))⟩])
 (.ret))))⟩
/-- A loop of laws.markBoolS. -/
def r64L0 : RC :=
 .seq (.seq (.reg [⟨none, .mov 6 (.t 5)⟩,
      ⟨none, .mov 7 (.t 0)⟩,
      ⟨none, .len 8 (.t 7)⟩,
      ⟨none, .bin 9 .lss (.t 6) (.t 8)⟩])
     (.cond (.t 9)
     (.skip)
     (.exit 0)))
    (.seq (.block 1 (.seq (.reg [⟨none, .mov 12 (.t 0)⟩,
       ⟨none, .mov 13 (.t 5)⟩,
       ⟨none, .mov 14 (.t 1)⟩,
       ⟨none, .bin 15 .rem (.t 14) (.k (.int .i64 3))⟩,
       ⟨none, .bin 16 .eql (.t 15) (.k (.int .i64 0))⟩,
       ⟨none, .idx 17 4 (.t 12) (.t 13)⟩,
       ⟨none, .store 17 1 (.t 16)⟩])
      (.reg [⟨none, .mov 18 (.t 1)⟩,
      ⟨none, .bin 19 .add (.t 18) (.k (.int .i64 1))⟩,
      ⟨none, .mov 1 (.t 19)⟩])))
    (.reg [⟨none, .mov 10 (.t 5)⟩,
    ⟨none, .bin 11 .add (.t 10) (.k (.int .i64 1))⟩,
    ⟨none, .mov 5 (.t 11)⟩]))
/-- laws.markBoolS -/
def r64 : RF :=
 ⟨2, [.tmp 4],
 .seq (.reg [⟨none, .mov 4 (.k (.int .i64 0))⟩])
 (.seq (.seq (.reg [⟨none, .mov 5 (.k (.int .i64 0))⟩])
  (.block 0 (.loop [0, 1, 5]
   r64L0)))
 (.seq (.reg [⟨none, .mov 20 (.t 1)⟩,
  ⟨none, .mov 4 (.t 20)⟩])
 (.ret)))⟩
/-- A loop of laws.heldBoolS. -/
def r65L0 : RC :=
 .seq (.seq (.reg [⟨none, .mov 6 (.t 5)⟩,
      ⟨none, .mov 7 (.t 0)⟩,
      ⟨none, .len 8 (.t 7)⟩,
      ⟨none, .bin 9 .lss (.t 6) (.t 8)⟩])
     (.cond (.t 9)
     (.skip)
     (.exit 0)))
    (.seq (.block 1 (.seq (.seq (.reg [⟨none, .mov 12 (.t 0)⟩,
        ⟨none, .mov 13 (.t 5)⟩,
        ⟨none, .idx 14 4 (.t 12) (.t 13)⟩,
        ⟨none, .load 15 14 1 false⟩,
        ⟨none, .mov 16 (.t 1)⟩,
        ⟨none, .bin 17 .rem (.t 16) (.k (.int .i64 3))⟩,
        ⟨none, .bin 18 .eql (.t 17) (.k (.int .i64 0))⟩,
        ⟨none, .beq 19 true (.t 15) (.t 18)⟩])
       (.cond (.t 19)
       (.seq (.reg [⟨none, .mov 4 (.k (.int .i64 (-1)))⟩])
        (.ret))
       (.skip)))
      (.reg [⟨none, .mov 20 (.t 1)⟩,
      ⟨none, .bin 21 .add (.t 20) (.k (.int .i64 1))⟩,
      ⟨none, .mov 1 (.t 21)⟩])))
    (.reg [⟨none, .mov 10 (.t 5)⟩,
    ⟨none, .bin 11 .add (.t 10) (.k (.int .i64 1))⟩,
    ⟨none, .mov 5 (.t 11)⟩]))
/-- laws.heldBoolS -/
def r65 : RF :=
 ⟨2, [.tmp 4],
 .seq (.reg [⟨none, .mov 4 (.k (.int .i64 0))⟩])
 (.seq (.seq (.reg [⟨none, .mov 5 (.k (.int .i64 0))⟩])
  (.block 0 (.loop [0, 1, 5]
   r65L0)))
 (.seq (.reg [⟨none, .mov 22 (.t 1)⟩,
  ⟨none, .mov 4 (.t 22)⟩])
 (.ret)))⟩
/-- The functions of this text, with their numbers. -/
def tLBool : List (Nat × RF) := [(61, r61), (64, r64), (65, r65)]
end Go.Proofs.Ytlbagejkjkfkjaa.A
/- What the converters of Bool compute. -/
namespace Go.Proofs.Ytlbagejkjkfkjaa.A
open Go
set_option linter.unusedSimpArgs false
set_option linter.unusedVariables false
def bool_enc (b : Bool) : List Cell := [.bool b]
theorem bool_enc_len (b : Bool) : (bool_enc b).length = 1 := rfl
theorem bool_enc_tak (b : Bool) : (bool_enc b).take 1 = bool_enc b := rfl
section
variable {F : Nat → Option RF} {Z : CallF} {h : Heap} {x y : Cell} {xs ys : List Bool} {fp fq : List Nat}
def bool_zero : List Cell := [.bool false]
theorem eqBoolS_run (hL : Has F tLBool) (w : SlR 4 (Fl bool_enc) h x xs fp) (v : SlR 4 (Fl bool_enc) h y ys fq) : call F Z 61 [.c x, .c y] h = some (.c (.bool (decide (xs = ys))), h) := by
  have hw := w.le2
  have hv := v.le2
  rw [call_run F Z (hL.lk (g := 61) rfl) _ _ rfl]
  simp only [run0, run1, run2, run3, run4, noSlot, ownS, ownK, memN, RO.dst, lk, drop, forget, number, Nat.reduceBEq, cut?, splice?, builds, List.length_cons, List.length_nil, List.drop_succ_cons, List.drop_zero, List.take_succ_cons, List.take_zero, List.cons_append, List.nil_append, List.append_nil, List.drop_nil, List.take_nil, Nat.reduceAdd, Nat.reduceLeDiff, Nat.zero_add, Nat.add_zero, ↓reduceIte, Bool.not_true, Bool.not_false, decide_true, decide_false, eq_self, bne_self_eq_false, List.getElem?_cons_zero, List.getElem?_cons_succ, decide_eq_true_eq, Bool.false_eq_true, Bool.true_eq_false, reduceCtorEq, Nat.le_refl, w.len, v.len]
  rw [condC_if]
  split
  · rename_i hne
    have : xs ≠ ys := by rintro rfl; simp at hne
    simp only [run0, run1, run2, run3, run4, noSlot, ownS, ownK, memN, RO.dst, lk, drop, forget, number, Nat.reduceBEq, cut?, splice?, builds, List.length_cons, List.length_nil, List.drop_succ_cons, List.drop_zero, List.take_succ_cons, List.take_zero, List.cons_append, List.nil_append, List.append_nil, List.drop_nil, List.take_nil, Nat.reduceAdd, Nat.reduceLeDiff, Nat.zero_add, Nat.add_zero, ↓reduceIte, Bool.not_true, Bool.not_false, decide_true, decide_false, eq_self, bne_self_eq_false, List.getElem?_cons_zero, List.getElem?_cons_succ, decide_eq_true_eq, Bool.false_eq_true, Bool.true_eq_false, reduceCtorEq, Nat.le_refl, this]
  · rename_i he
    have he : xs.length = ys.length := by simp at he; omega
    simp only [run0, run1, run2, run3, run4, noSlot, ownS, ownK, memN, RO.dst, lk, drop, forget, number, Nat.reduceBEq, cut?, splice?, builds, List.length_cons, List.length_nil, List.drop_succ_cons, List.drop_zero, List.take_succ_cons, List.take_zero, List.cons_append, List.nil_append, List.append_nil, List.drop_nil, List.take_nil, Nat.reduceAdd, Nat.reduceLeDiff, Nat.zero_add, Nat.add_zero, ↓reduceIte, Bool.not_true, Bool.not_false, decide_true, decide_false, eq_self, bne_self_eq_false, List.getElem?_cons_zero, List.getElem?_cons_succ, decide_eq_true_eq, Bool.false_eq_true, Bool.true_eq_false, reduceCtorEq, Nat.le_refl]
    have key := loop_allN (F := F) (Z := Z) (live := [0, 1, 5]) (b := r61L0) xs.length (fun i => ⟨[(0, .c x), (1, .c y), (5, .c (.int .i64 (i : Nat)))], [], [], h⟩) (fun i => decide (xs[i]? = ys[i]?)) (fun s => lk s.env 4 = some (.c (.bool false)) ∧ s.hp = h) fun i hi => by
      have hi' : i < ys.length := by omega
      have hlt : (i : Int) < xs.length := by omega
      rw [loop_run]
      simp only [r61L0, run0, run1, run2, run3, run4, noSlot, ownS, ownK, memN, RO.dst, lk, drop, forget, number, Nat.reduceBEq, cut?, splice?, builds, List.length_cons, List.length_nil, List.drop_succ_cons, List.drop_zero, List.take_succ_cons, List.take_zero, List.cons_append, List.nil_append, List.append_nil, List.drop_nil, List.take_nil, Nat.reduceAdd, Nat.reduceLeDiff, Nat.zero_add, Nat.add_zero, ↓reduceIte, Bool.not_true, Bool.not_false, decide_true, decide_false, eq_self, bne_self_eq_false, List.getElem?_cons_zero, List.getElem?_cons_succ, decide_eq_true_eq, Bool.false_eq_true, Bool.true_eq_false, reduceCtorEq, Nat.le_refl, w.len, hlt, w.idx hi, v.idx hi', w.load hi, v.load hi', bool_enc, wrapS i (by omega)]
      rw [List.getElem?_eq_getElem hi, List.getElem?_eq_getElem hi']
      (repeat' ((first | (rw [gF_if]; split) | (rw [condC_if]; split) | (rw [pickR_if]; split)) <;> (rename_i hh; (try simp only [Bool.not_eq_true, decide_eq_true_eq] at hh); simp only [hh, run0, run1, run2, run3, run4, noSlot, ownS, ownK, memN, RO.dst, lk, drop, forget, number, Nat.reduceBEq, cut?, splice?, builds, List.length_cons, List.length_nil, List.drop_succ_cons, List.drop_zero, List.take_succ_cons, List.take_zero, List.cons_append, List.nil_append, List.append_nil, List.drop_nil, List.take_nil, Nat.reduceAdd, Nat.reduceLeDiff, Nat.zero_add, Nat.add_zero, ↓reduceIte, Bool.not_true, Bool.not_false, decide_true, decide_false, eq_self, bne_self_eq_false, List.getElem?_cons_zero, List.getElem?_cons_succ, decide_eq_true_eq, Bool.false_eq_true, Bool.true_eq_false, reduceCtorEq, Nat.le_refl, wrapS i (by omega)])))
      · exact .inr ⟨by simp_all, _, rfl, rfl, rfl⟩
      · exact .inl ⟨by simp_all, rfl⟩
    rw [all_same he] at key
    rcases key with ⟨k1, k2⟩ | ⟨k1, s, k2, k3, k4⟩
    · simp only [show ((0 : Nat) : Int) = 0 from rfl] at k2
      rw [k2, loop_run]
      have hlt : ¬ (xs.length : Int) < xs.length := by omega
      simp only [r61L0, run0, run1, run2, run3, run4, noSlot, ownS, ownK, memN, RO.dst, lk, drop, forget, number, Nat.reduceBEq, cut?, splice?, builds, List.length_cons, List.length_nil, List.drop_succ_cons, List.drop_zero, List.take_succ_cons, List.take_zero, List.cons_append, List.nil_append, List.append_nil, List.drop_nil, List.take_nil, Nat.reduceAdd, Nat.reduceLeDiff, Nat.zero_add, Nat.add_zero, ↓reduceIte, Bool.not_true, Bool.not_false, decide_true, decide_false, eq_self, bne_self_eq_false, List.getElem?_cons_zero, List.getElem?_cons_succ, decide_eq_true_eq, Bool.false_eq_true, Bool.true_eq_false, reduceCtorEq, Nat.le_refl, w.len, hlt, k1]
    · simp only [show ((0 : Nat) : Int) = 0 from rfl] at k2
      rw [k2]
      simp only [run0, run1, run2, run3, run4, noSlot, ownS, ownK, memN, RO.dst, lk, drop, forget, number, Nat.reduceBEq, cut?, splice?, builds, List.length_cons, List.length_nil, List.drop_succ_cons, List.drop_zero, List.take_succ_cons, List.take_zero, List.cons_append, List.nil_append, List.append_nil, List.drop_nil, List.take_nil, Nat.reduceAdd, Nat.reduceLeDiff, Nat.zero_add, Nat.add_zero, ↓reduceIte, Bool.not_true, Bool.not_false, decide_true, decide_false, eq_self, bne_self_eq_false, List.getElem?_cons_zero, List.getElem?_cons_succ, decide_eq_true_eq, Bool.false_eq_true, Bool.true_eq_false, reduceCtorEq, Nat.le_refl, k3, k4, k1]
/-- What is written to mark one. -/
def bool_mk (k : Int) : Bool := k.tmod 3 == 0
def bool_marks (n : Nat) (k : Int) : List Bool := (List.range n).map fun i : Nat => bool_mk (k + 1 * (i : Int))
theorem bool_marks_len (n : Nat) (k : Int) : (bool_marks n k).length = n := by simp [bool_marks]
set_option maxHeartbeats 1000000 in
theorem markBoolS_run (hL : Has F tLBool) (w : SlR 4 (Fl bool_enc) h x xs fp) (hlo : ∀ id, id ∈ fp → h.floor ≤ id) (k : Int) (h1 : 0 ≤ k) (h2 : k + 1 * xs.length ≤ 9200000000000000000) :
    ∃ h', call F Z 64 [.c x, .c (.int .i64 k)] h = some (.c (.int .i64 (k + 1 * xs.length)), h') ∧ Mk h h' fp ∧ SlR 4 (Fl bool_enc) h' x (bool_marks xs.length k) fp := by
  have hle := w.le2
  have hlm := bool_marks_len xs.length k
  rw [call_run F Z (hL.lk (g := 64) rfl) _ _ rfl]
  simp only [run0, run1, run2, run3, run4, noSlot, ownS, ownK, memN, RO.dst, lk, drop, forget, number, Nat.reduceBEq, cut?, splice?, builds, List.length_cons, List.length_nil, List.drop_succ_cons, List.drop_zero, List.take_succ_cons, List.take_zero, List.cons_append, List.nil_append, List.append_nil, List.drop_nil, List.take_nil, Nat.reduceAdd, Nat.reduceLeDiff, Nat.zero_add, Nat.add_zero, ↓reduceIte, Bool.not_true, Bool.not_false, decide_true, decide_false, eq_self, bne_self_eq_false, List.getElem?_cons_zero, List.getElem?_cons_succ, decide_eq_true_eq, Bool.false_eq_true, Bool.true_eq_false, reduceCtorEq, Nat.le_refl]
  rcases w.flat with ⟨rfl, rfl, rfl⟩ | ⟨hx, hg, hn, rfl⟩
  · rw [loop_run]
    simp only [r64L0, run0, run1, run2, run3, run4, noSlot, ownS, ownK, memN, RO.dst, lk, drop, forget, number, Nat.reduceBEq, cut?, splice?, builds, List.length_cons, List.length_nil, List.drop_succ_cons, List.drop_zero, List.take_succ_cons, List.take_zero, List.cons_append, List.nil_append, List.append_nil, List.drop_nil, List.take_nil, Nat.reduceAdd, Nat.reduceLeDiff, Nat.zero_add, Nat.add_zero, ↓reduceIte, Bool.not_true, Bool.not_false, decide_true, decide_false, eq_self, bne_self_eq_false, List.getElem?_cons_zero, List.getElem?_cons_succ, decide_eq_true_eq, Bool.false_eq_true, Bool.true_eq_false, reduceCtorEq, Nat.le_refl, show ¬ ((0 : Int) < 0) from by omega]
    exact ⟨h, by simp, Mk.refl _ _, by simpa [bool_marks] using w⟩
  · have hfl : h.floor ≤ x.sid := hlo _ (by simp)
    have key : loop F Z [0, 1, 5] r64L0 ⟨[(0, .c x), (1, .c (.int .i64 (k + 1 * (0 : Nat)))), (5, .c (.int .i64 (0 : Nat)))], [], [], h.put x.sid (mixR bool_enc (bool_marks xs.length k) xs 0)⟩ = loop F Z [0, 1, 5] r64L0 ⟨[(0, .c x), (1, .c (.int .i64 (k + 1 * (xs.length : Nat)))), (5, .c (.int .i64 (xs.length : Nat)))], [], [], h.put x.sid (mixR bool_enc (bool_marks xs.length k) xs xs.length)⟩ :=
      loop_goesF xs.length (fun i => ⟨[(0, .c x), (1, .c (.int .i64 (k + 1 * (i : Nat)))), (5, .c (.int .i64 (i : Nat)))], [], [], h.put x.sid (mixR bool_enc (bool_marks xs.length k) xs i)⟩) fun i hi => by
        have hlt : (i : Int) < xs.length := by omega
        have hi2 : i < (mixR bool_enc (bool_marks xs.length k) xs i).length := by rw [mixR_len _ hlm]; exact hi
        have hms : (bool_marks xs.length k)[i]'(by omega) = bool_mk (k + 1 * i) := by simp [bool_marks]
        have hset := mixR_set bool_enc hlm hi
        rw [hms] at hset
        have hput := storeP_put (h := h) hfl hi2
        rw [← mixR_cur bool_enc hlm hi, ← hset, loop_run]
        simp (disch := omega) only [r64L0, run0, run1, run2, run3, run4, noSlot, ownS, ownK, memN, RO.dst, lk, drop, forget, number, Nat.reduceBEq, cut?, splice?, builds, List.length_cons, List.length_nil, List.drop_succ_cons, List.drop_zero, List.take_succ_cons, List.take_zero, List.cons_append, List.nil_append, List.append_nil, List.drop_nil, List.take_nil, Nat.reduceAdd, Nat.reduceLeDiff, Nat.zero_add, Nat.add_zero, ↓reduceIte, Bool.not_true, Bool.not_false, decide_true, decide_false, eq_self, bne_self_eq_false, List.getElem?_cons_zero, List.getElem?_cons_succ, decide_eq_true_eq, Bool.false_eq_true, Bool.true_eq_false, reduceCtorEq, Nat.le_refl, w.len, hlt, w.idx hi, hput, putM_s, wrapI1, wrapU1, bool_enc, b_rem, beq_self_eq_true, Int.reduceEq, bool_mk]
        rw [show k + 1 * ((i : Nat) : Int) + 1 = k + 1 * ((i + 1 : Nat) : Int) from by omega, show ((i : Nat) : Int) + 1 = ((i + 1 : Nat) : Int) from rfl]
    rw [mixR_0, put_same hg, mixR_n _ hlm] at key
    simp only [show ((0 : Nat) : Int) = 0 from rfl, Int.mul_zero, Int.add_zero] at key
    rw [key, loop_run]
    have hlt : ¬ (xs.length : Int) < xs.length := by omega
    simp only [r64L0, run0, run1, run2, run3, run4, noSlot, ownS, ownK, memN, RO.dst, lk, drop, forget, number, Nat.reduceBEq, cut?, splice?, builds, List.length_cons, List.length_nil, List.drop_succ_cons, List.drop_zero, List.take_succ_cons, List.take_zero, List.cons_append, List.nil_append, List.append_nil, List.drop_nil, List.take_nil, Nat.reduceAdd, Nat.reduceLeDiff, Nat.zero_add, Nat.add_zero, ↓reduceIte, Bool.not_true, Bool.not_false, decide_true, decide_false, eq_self, bne_self_eq_false, List.getElem?_cons_zero, List.getElem?_cons_succ, decide_eq_true_eq, Bool.false_eq_true, Bool.true_eq_false, reduceCtorEq, Nat.le_refl, w.len, hlt]
    refine ⟨_, rfl, Mk.put _ _ _, ?_⟩
    have := SlR.ofFlat (tag := 4) (h := h.put x.sid ((bool_marks xs.length k).map bool_enc)) (enc := bool_enc) (xs := bool_marks xs.length k) (id := x.sid) (by rw [hlm]; exact w.le) (by simp [Heap.put]) hn
    rw [hlm, ← hx] at this
    exact this
set_option maxHeartbeats 1000000 in
theorem heldBoolS_run (hL : Has F tLBool) {n : Nat} {k : Int} (w : SlR 4 (Fl bool_enc) h x (bool_marks n k) fp) (h1 : 0 ≤ k) (h2 : k + 1 * n ≤ 9200000000000000000) :
    call F Z 65 [.c x, .c (.int .i64 k)] h = some (.c (.int .i64 (k + 1 * n)), h) := by
  have hle := w.le2
  have hwl := w.len
  rw [bool_marks_len] at hle hwl
  rw [call_run F Z (hL.lk (g := 65) rfl) _ _ rfl]
  simp only [run0, run1, run2, run3, run4, noSlot, ownS, ownK, memN, RO.dst, lk, drop, forget, number, Nat.reduceBEq, cut?, splice?, builds, List.length_cons, List.length_nil, List.drop_succ_cons, List.drop_zero, List.take_succ_cons, List.take_zero, List.cons_append, List.nil_append, List.append_nil, List.drop_nil, List.take_nil, Nat.reduceAdd, Nat.reduceLeDiff, Nat.zero_add, Nat.add_zero, ↓reduceIte, Bool.not_true, Bool.not_false, decide_true, decide_false, eq_self, bne_self_eq_false, List.getElem?_cons_zero, List.getElem?_cons_succ, decide_eq_true_eq, Bool.false_eq_true, Bool.true_eq_false, reduceCtorEq, Nat.le_refl]
  have key : loop F Z [0, 1, 5] r65L0 ⟨[(0, .c x), (1, .c (.int .i64 (k + 1 * (0 : Nat)))), (5, .c (.int .i64 (0 : Nat)))], [], [], h⟩ = loop F Z [0, 1, 5] r65L0 ⟨[(0, .c x), (1, .c (.int .i64 (k + 1 * (n : Nat)))), (5, .c (.int .i64 (n : Nat)))], [], [], h⟩ :=
    loop_goesF n (fun i => ⟨[(0, .c x), (1, .c (.int .i64 (k + 1 * (i : Nat)))), (5, .c (.int .i64 (i : Nat)))], [], [], h⟩) fun i hi0 => by
      have hi : i < (bool_marks n k).length := by rw [bool_marks_len]; exact hi0
      have hlt : (i : Int) < n := by omega
      have hms : (bool_marks n k)[i] = bool_mk (k + 1 * i) := by simp [bool_marks]
      have hld := w.load hi
      rw [hms] at hld
      rw [loop_run]
      simp (disch := omega) only [r65L0, run0, run1, run2, run3, run4, noSlot, ownS, ownK, memN, RO.dst, lk, drop, forget, number, Nat.reduceBEq, cut?, splice?, builds, List.length_cons, List.length_nil, List.drop_succ_cons, List.drop_zero, List.take_succ_cons, List.take_zero, List.cons_append, List.nil_append, List.append_nil, List.drop_nil, List.take_nil, Nat.reduceAdd, Nat.reduceLeDiff, Nat.zero_add, Nat.add_zero, ↓reduceIte, Bool.not_true, Bool.not_false, decide_true, decide_false, eq_self, bne_self_eq_false, List.getElem?_cons_zero, List.getElem?_cons_succ, decide_eq_true_eq, Bool.false_eq_true, Bool.true_eq_false, reduceCtorEq, Nat.le_refl, hwl, hlt, w.idx hi, hld, wrapI1, wrapU1, bool_enc, b_rem, beq_self_eq_true, bool_mk, Int.reduceEq]
      rw [show k + 1 * ((i : Nat) : Int) + 1 = k + 1 * ((i + 1 : Nat) : Int) from by omega, show ((i : Nat) : Int) + 1 = ((i + 1 : Nat) : Int) from rfl]
  simp only [show ((0 : Nat) : Int) = 0 from rfl, Int.mul_zero, Int.add_zero] at key
  rw [key, loop_run]
  have hlt : ¬ (n : Int) < n := by omega
  simp only [r65L0, run0, run1, run2, run3, run4, noSlot, ownS, ownK, memN, RO.dst, lk, drop, forget, number, Nat.reduceBEq, cut?, splice?, builds, List.length_cons, List.length_nil, List.drop_succ_cons, List.drop_zero, List.take_succ_cons, List.take_zero, List.cons_append, List.nil_append, List.append_nil, List.drop_nil, List.take_nil, Nat.reduceAdd, Nat.reduceLeDiff, Nat.zero_add, Nat.add_zero, ↓reduceIte, Bool.not_true, Bool.not_false, decide_true, decide_false, eq_self, bne_self_eq_false, List.getElem?_cons_zero, List.getElem?_cons_succ, decide_eq_true_eq, Bool.false_eq_true, Bool.true_eq_false, reduceCtorEq, Nat.le_refl, hwl, hlt]
end
end Go.Proofs.Ytlbagejkjkfkjaa.A
/- Loops that append. -/
namespace Go.Proofs.Ytlbagejkjkfkjaa.A
open Go
set_option linter.unusedSimpArgs false
set_option linter.unusedVariables false
theorem flatMap_le {α β : Type} (g : α → List β) (hg : ∀ a, (g a).length ≤ 1) : ∀ xs : List α, (xs.flatMap g).length ≤ xs.length
  | [] => by simp
  | a :: r => by
    rw [List.flatMap_cons, List.length_append, List.length_cons]
    have := hg a
    have := flatMap_le g hg r
    omega
/-- One turn goes on, or returns; the run stands here once. -/
def Step2 (r : Option (Ex × St)) (J Q : St → Prop) (L : St → Option (Ex × St)) : Prop := (∃ s', J s' ∧ r = L s') ∨ ∃ s', r = some (.ret, s') ∧ Q s'
section
variable {F : Nat → Option RF} {Z : CallF} {live : List Nat} {b : RC}
/-- A loop that appends at most one element at each turn. -/
theorem loop_acc {α : Type} (xs : List α) (g : α → List (List Cell)) (tag : Nat) (h0 : Heap) (st : Nat → Cell → Heap → St) (hg : ∀ a, (g a).length ≤ 1)
    (hs : ∀ i (hi : i < xs.length) y h rows, Acc tag h0 h y rows → rows.length ≤ i → ∃ y' h', Acc tag h0 h' y' (rows ++ g xs[i]) ∧ loop F Z live b (st i y h) = loop F Z live b (st (i + 1) y' h')) {y : Cell} {h : Heap} (a0 : Acc tag h0 h y []) :
    ∃ y' h', Acc tag h0 h' y' (xs.flatMap g) ∧ loop F Z live b (st 0 y h) = loop F Z live b (st xs.length y' h') := by
  have key : ∀ n, n ≤ xs.length → ∃ y' h', Acc tag h0 h' y' ((xs.take n).flatMap g) ∧ ((xs.take n).flatMap g).length ≤ n ∧ loop F Z live b (st 0 y h) = loop F Z live b (st n y' h') := by
    intro n
    induction n with
    | zero => intro _; exact ⟨y, h, by simpa using a0, by simp, rfl⟩
    | succ n ih =>
      intro hn
      obtain ⟨y1, h1, a1, l1, e1⟩ := ih (by omega)
      obtain ⟨y2, h2, a2, e2⟩ := hs n (by omega) y1 h1 _ a1 l1
      have ht : (xs.take (n + 1)).flatMap g = (xs.take n).flatMap g ++ g xs[n] := by
        rw [List.take_add_one, List.getElem?_eq_getElem (by omega), List.flatMap_append]; simp
      refine ⟨y2, h2, by rw [ht]; exact a2, ?_, e1.trans e2⟩
      rw [ht, List.length_append]
      have := hg xs[n]
      omega
  obtain ⟨y', h', a', _, e'⟩ := key xs.length (Nat.le_refl _)
  rw [List.take_length] at a'
  exact ⟨y', h', a', e'⟩
/-- A loop that returns at the first element that fits. -/
theorem loop_find {α : Type} (xs : List α) (p : α → Bool) (st : Nat → St) (Q : Nat → St → Prop) (hs : ∀ i (hi : i < xs.length), Turn (loop F Z live b (st i)) (loop F Z live b (st (i + 1))) (!p xs[i]) (Q i)) :
    (xs.findIdx? p = none ∧ loop F Z live b (st 0) = loop F Z live b (st xs.length)) ∨ ∃ i, xs.findIdx? p = some i ∧ i < xs.length ∧ ∃ s, loop F Z live b (st 0) = some (.ret, s) ∧ Q i s := by
  have key : ∀ n, n ≤ xs.length → ((∀ i (hi : i < xs.length), i < n → p xs[i] = false) ∧ loop F Z live b (st 0) = loop F Z live b (st n)) ∨ ∃ i, xs.findIdx? p = some i ∧ i < xs.length ∧ ∃ s, loop F Z live b (st 0) = some (.ret, s) ∧ Q i s := by
    intro n
    induction n with
    | zero => intro _; exact .inl ⟨fun i hi h => absurd h (Nat.not_lt_zero _), rfl⟩
    | succ n ih =>
      intro hn
      rcases ih (by omega) with ⟨h1, h2⟩ | h
      · rcases hs n (by omega) with ⟨h3, h4⟩ | ⟨h3, s, h4, h5⟩
        · refine .inl ⟨fun i hi hl => ?_, h2.trans h4⟩
          by_cases he : i = n
          · subst he; simpa using h3
          · exact h1 i hi (by omega)
        · refine .inr ⟨n, ?_, by omega, s, h2.trans h4, h5⟩
          rw [List.findIdx?_eq_some_iff_getElem]
          refine ⟨by omega, by simpa using h3, fun j hj => ?_⟩
          simpa using h1 j (by omega) (by omega)
      · exact .inr h
  rcases key xs.length (Nat.le_refl _) with ⟨h1, h2⟩ | h
  · refine .inl ⟨?_, h2⟩
    rw [List.findIdx?_eq_none_iff]
    intro a ha
    obtain ⟨i, hi, rfl⟩ := List.mem_iff_getElem.1 ha
    exact h1 i hi hi
  · exact .inr h
/-- A loop of so many turns, some of which return. -/
theorem loop_rel (n : Nat) (I : Nat → St → Prop) (Q : St → Prop) (hs : ∀ i s, i < n → I i s → Step2 (loop F Z live b s) (I (i + 1)) Q (loop F Z live b)) {s : St} (h0 : I 0 s) :
    (∃ s', I n s' ∧ loop F Z live b s = loop F Z live b s') ∨ ∃ s', loop F Z live b s = some (.ret, s') ∧ Q s' := by
  induction n with
  | zero => exact .inl ⟨s, h0, rfl⟩
  | succ n ih =>
    rcases ih fun i s hi => hs i s (by omega) with ⟨s1, i1, e1⟩ | h
    · rcases hs n s1 (by omega) i1 with ⟨s2, i2, e2⟩ | ⟨s2, e2, q2⟩
      · exact .inl ⟨s2, i2, e1.trans e2⟩
      · exact .inr ⟨s2, e1.trans e2, q2⟩
    · exact .inr h
/-- The place of the first that fits, -1 for none. -/
def findI {α : Type} (p : α → Bool) (xs : List α) : Int := match xs.findIdx? p with
  | some i => (i : Int)
  | none => -1
/-- A loop over a list that carries a value on. -/
theorem loop_fold {α σ : Type} (xs : List α) (step : σ → α → σ) (I : Nat → σ → St → Prop) (hs : ∀ i (hi : i < xs.length) a s, I i a s → ∃ s', I (i + 1) (step a xs[i]) s' ∧ loop F Z live b s = loop F Z live b s') {a : σ} {s : St} (h0 : I 0 a s) :
    ∃ s', I xs.length (xs.foldl step a) s' ∧ loop F Z live b s = loop F Z live b s' := by
  have key : ∀ n, n ≤ xs.length → ∃ s', I n ((xs.take n).foldl step a) s' ∧ loop F Z live b s = loop F Z live b s' := by
    intro n
    induction n with
    | zero => intro _; exact ⟨s, by simpa using h0, rfl⟩
    | succ n ih =>
      intro hn
      obtain ⟨s1, i1, e1⟩ := ih (by omega)
      obtain ⟨s2, i2, e2⟩ := hs n (by omega) _ s1 i1
      refine ⟨s2, ?_, e1.trans e2⟩
      rw [List.take_add_one, List.getElem?_eq_getElem (by omega), List.foldl_append]
      exact i2
  obtain ⟨s', i', e'⟩ := key xs.length (Nat.le_refl _)
  rw [List.take_length] at i'
  exact ⟨s', i', e'⟩
end
end Go.Proofs.Ytlbagejkjkfkjaa.A
/- What the play of a transfer computes. -/
namespace Go.Proofs.Ytlbagejkjkfkjaa.A
open Go
set_option linter.unusedSimpArgs false
set_option linter.unusedVariables false
theorem Tx.drp (t : Tx) : t.enc.drop 10 = [] := rfl
def Tx.step (t : Tx) (e : TxEvent) : Tx × Bool := bif e.kind == 0 then t.vote e.side e.code else bif e.kind == 1 then t.ack e.side else bif e.kind == 2 then t.giveUp e.code else (t, false)
def Tx.play (t : Tx) (es : List TxEvent) : Tx × List Bool := bif t.ok && decide (es.length ≤ 100) then es.foldl (fun a e => ((a.1.step e).1, a.2 ++ [(a.1.step e).2])) (t, []) else (t, [])
section
variable {F : Nat → Option RF} {Z : CallF} {h : Heap}
theorem isTx_e (hI14 : Has F tI14) (t : Tx) (h : Heap) : call F Z 28 [.agg t.enc] h = some (.c (.bool t.ok), h) := isTx_run hI14 ..
theorem sTxOk_e (hS01d : Has F tS01d) (hS14 : Has F tS14) (t : Tx) (h : Heap) : call F Z 14 [.agg t.enc] h = some (.c (.bool t.ok), h) := sTxOk_run hS01d hS14 ..
theorem vote_e (hI14 : Has F tI14) (t : Tx) (side code : Int) (h : Heap) : call F Z 38 [.agg t.enc, .c (.int .i64 side), .c (.int .i64 code)] h = some (.tup [.agg (t.vote side code).1.enc, .c (.bool (t.vote side code).2)], h) := txVote_run hI14 ..
theorem sVote_e (hS01d : Has F tS01d) (hS14 : Has F tS14) (t : Tx) (side code : Int) (h : Heap) : call F Z 35 [.agg t.enc, .c (.int .i64 side), .c (.int .i64 code)] h = some (.tup [.agg (t.vote side code).1.enc, .c (.bool (t.vote side code).2)], h) := sTxVote_run hS01d hS14 ..
theorem ack_e (hI14 : Has F tI14) (t : Tx) (side : Int) (h : Heap) : call F Z 37 [.agg t.enc, .c (.int .i64 side)] h = some (.tup [.agg (t.ack side).1.enc, .c (.bool (t.ack side).2)], h) := txAck_run hI14 ..
theorem sAck_e (hS01d : Has F tS01d) (hS14 : Has F tS14) (t : Tx) (side : Int) (h : Heap) : call F Z 32 [.agg t.enc, .c (.int .i64 side)] h = some (.tup [.agg (t.ack side).1.enc, .c (.bool (t.ack side).2)], h) := sTxAck_run hS01d hS14 ..
theorem giveUp_e (hI14 : Has F tI14) (t : Tx) (r : Int) (h : Heap) : call F Z 29 [.agg t.enc, .c (.int .i64 r)] h = some (.tup [.agg (t.giveUp r).1.enc, .c (.bool (t.giveUp r).2)], h) := txGiveUp_run hI14 ..
theorem sGiveUp_e (hS01d : Has F tS01d) (hS14 : Has F tS14) (t : Tx) (r : Int) (h : Heap) : call F Z 24 [.agg t.enc, .c (.int .i64 r)] h = some (.tup [.agg (t.giveUp r).1.enc, .c (.bool (t.giveUp r).2)], h) := sTxGiveUp_run hS01d hS14 ..
set_option maxHeartbeats 1000000 in
theorem PlayTx_turn {h0 : Heap} (hI14 : Has F tI14) {x y : Cell} {es : List TxEvent} {fp : List Nat} (hf : h0.floor ≤ h0.next) (w : SlR 5 (Fl TxEvent.enc) h0 x es fp) {rows : List (List Cell)} (a : Acc 4 h0 h y rows) (hl : rows.length ≤ 1048576) (i : Nat) (hi : i < es.length) (t : Tx) :
    ∃ y' h', Acc 4 h0 h' y' (rows ++ [bool_enc (t.step es[i]).2]) ∧ loop F Z [2, 4, 6, 20, 21, 22] r60L0 ⟨[(6, .c y), (20, .c x), (21, .c (.int .i64 (es.length : Nat))), (22, .c (.int .i64 ((i : Nat) : Int)))], [(2, 2, 0), (4, 4, 0)], [(2, t.enc), (4, Tx.zero.enc)], h⟩ = loop F Z [2, 4, 6, 20, 21, 22] r60L0 ⟨[(6, .c y'), (20, .c x), (21, .c (.int .i64 (es.length : Nat))), (22, .c (.int .i64 ((i + 1 : Nat) : Int)))], [(2, 2, 0), (4, 4, 0)], [(2, (t.step es[i]).1.enc), (4, Tx.zero.enc)], h'⟩ := by
  have e1 := a.one_eq hf (bytes := 1) (by omega)
  have a1 := a.one hf (by omega)
  have hle := w.le2
  have hlt : (i : Int) < es.length := by omega
  have wg := w.on (Fl.ok _) a.on
  have hws := wrapS i (by omega)
  rw [loop_run]
  conv in (codeF _ _ r60L0 _) => unfold r60L0
  simp only [run0, run1, run2, run3, run4, noSlot, ownS, ownK, memN, RO.dst, lk, drop, forget, number, Nat.reduceBEq, cut?, splice?, builds, List.length_cons, List.length_nil, List.drop_succ_cons, List.drop_zero, List.take_succ_cons, List.take_zero, List.cons_append, List.nil_append, List.append_nil, List.drop_nil, List.take_nil, Nat.reduceAdd, Nat.reduceLeDiff, Nat.zero_add, Nat.add_zero, ↓reduceIte, Bool.not_true, Bool.not_false, decide_true, decide_false, eq_self, bne_self_eq_false, List.getElem?_cons_zero, List.getElem?_cons_succ, decide_eq_true_eq, Bool.false_eq_true, Bool.true_eq_false, reduceCtorEq, Nat.le_refl, w.len, hlt, w.idx hi, wg.load hi, TxEvent.enc]
  generalize es[i] = e
  obtain ⟨k, s, c⟩ := e
  clear w wg hi hlt
  (repeat' ((first | (rw [gF_if]; split) | (rw [condC_if]; split) | (rw [pickR_if]; split)) <;> (rename_i hh; (try simp only [Bool.not_eq_true, decide_eq_true_eq] at hh); simp only [hh, run0, run1, run2, run3, run4, noSlot, ownS, ownK, memN, RO.dst, lk, drop, forget, number, Nat.reduceBEq, cut?, splice?, builds, List.length_cons, List.length_nil, List.drop_succ_cons, List.drop_zero, List.take_succ_cons, List.take_zero, List.cons_append, List.nil_append, List.append_nil, List.drop_nil, List.take_nil, Nat.reduceAdd, Nat.reduceLeDiff, Nat.zero_add, Nat.add_zero, ↓reduceIte, Bool.not_true, Bool.not_false, decide_true, decide_false, eq_self, bne_self_eq_false, List.getElem?_cons_zero, List.getElem?_cons_succ, decide_eq_true_eq, Bool.false_eq_true, Bool.true_eq_false, reduceCtorEq, Nat.le_refl, Tx.len, Tx.tak, Tx.drp, vote_e hI14, ack_e hI14, giveUp_e hI14, hws, List.replicate_succ, List.replicate_zero, e1, fills, and_self, Nat.zero_lt_one, List.set_cons_zero])))
  all_goals (clear e1 hws; simp only [Tx.step, bool_enc, *, cond_true, cond_false]; exact ⟨_, _, a1 _, rfl⟩)
set_option maxHeartbeats 1000000 in
theorem sPlayTx_turn {h0 : Heap} (hS : Has F tS01d) (hS14 : Has F tS14) {x y : Cell} {es : List TxEvent} {fp : List Nat} (hf : h0.floor ≤ h0.next) (w : SlR 5 (Fl TxEvent.enc) h0 x es fp) {rows : List (List Cell)} (a : Acc 4 h0 h y rows) (hl : rows.length ≤ 1048576) (i : Nat) (hi : i < es.length) (t : Tx) :
    ∃ y' h', Acc 4 h0 h' y' (rows ++ [bool_enc (t.step es[i]).2]) ∧ loop F Z [1, 2, 4, 6, 7] r59L0 ⟨[(1, .c x), (6, .c y), (7, .c (.int .i64 ((i : Nat) : Int)))], [(2, 2, 0), (4, 4, 0)], [(2, t.enc), (4, Tx.zero.enc)], h⟩ = loop F Z [1, 2, 4, 6, 7] r59L0 ⟨[(1, .c x), (6, .c y'), (7, .c (.int .i64 ((i + 1 : Nat) : Int)))], [(2, 2, 0), (4, 4, 0)], [(2, (t.step es[i]).1.enc), (4, Tx.zero.enc)], h'⟩ := by
  have e1 := a.one_eq hf (bytes := 1) (by omega)
  have a1 := a.one hf (by omega)
  have hle := w.le2
  have hlt : (i : Int) < es.length := by omega
  have wg := w.on (Fl.ok _) a.on
  have hws := wrapS i (by omega)
  rw [loop_run]
  conv in (codeF _ _ r59L0 _) => unfold r59L0
  simp only [run0, run1, run2, run3, run4, noSlot, ownS, ownK, memN, RO.dst, lk, drop, forget, number, Nat.reduceBEq, cut?, splice?, builds, List.length_cons, List.length_nil, List.drop_succ_cons, List.drop_zero, List.take_succ_cons, List.take_zero, List.cons_append, List.nil_append, List.append_nil, List.drop_nil, List.take_nil, Nat.reduceAdd, Nat.reduceLeDiff, Nat.zero_add, Nat.add_zero, ↓reduceIte, Bool.not_true, Bool.not_false, decide_true, decide_false, eq_self, bne_self_eq_false, List.getElem?_cons_zero, List.getElem?_cons_succ, decide_eq_true_eq, Bool.false_eq_true, Bool.true_eq_false, reduceCtorEq, Nat.le_refl, w.len, hlt, w.idx hi, wg.load hi, TxEvent.enc]
  generalize es[i] = e
  obtain ⟨k, s, c⟩ := e
  clear w wg hi hlt
  (repeat' ((first | (rw [gF_if]; split) | (rw [condC_if]; split) | (rw [pickR_if]; split)) <;> (rename_i hh; (try simp only [Bool.not_eq_true, decide_eq_true_eq] at hh); simp only [hh, run0, run1, run2, run3, run4, noSlot, ownS, ownK, memN, RO.dst, lk, drop, forget, number, Nat.reduceBEq, cut?, splice?, builds, List.length_cons, List.length_nil, List.drop_succ_cons, List.drop_zero, List.take_succ_cons, List.take_zero, List.cons_append, List.nil_append, List.append_nil, List.drop_nil, List.take_nil, Nat.reduceAdd, Nat.reduceLeDiff, Nat.zero_add, Nat.add_zero, ↓reduceIte, Bool.not_true, Bool.not_false, decide_true, decide_false, eq_self, bne_self_eq_false, List.getElem?_cons_zero, List.getElem?_cons_succ, decide_eq_true_eq, Bool.false_eq_true, Bool.true_eq_false, reduceCtorEq, Nat.le_refl, Tx.len, Tx.tak, Tx.drp, sVote_e hS hS14, sAck_e hS hS14, sGiveUp_e hS hS14, hws, List.replicate_succ, List.replicate_zero, e1, fills, and_self, Nat.zero_lt_one, List.set_cons_zero])))
  all_goals (clear e1 hws; simp only [Tx.step, bool_enc, *, cond_true, cond_false]; exact ⟨_, _, a1 _, rfl⟩)
set_option maxHeartbeats 1000000 in
theorem PlayTx_run (hI14 : Has F tI14) {x : Cell} {es : List TxEvent} {fp : List Nat} (hf : h.floor ≤ h.next) (w : SlR 5 (Fl TxEvent.enc) h x es fp) (t : Tx) :
    ∃ y h', call F Z 60 [.agg t.enc, .c x] h = some (.tup [.agg (t.play es).1.enc, .c y], h') ∧ Acc 4 h h' y ((t.play es).2.map bool_enc) := by
  have a0 := Acc.lit0 (tag := 4) (On.refl h)
  have hle := w.le2
  rw [call_run F Z (hI14.lk (g := 60) rfl) _ _ rfl]
  simp only [run0, run1, run2, run3, run4, noSlot, ownS, ownK, memN, RO.dst, lk, drop, forget, number, Nat.reduceBEq, cut?, splice?, builds, List.length_cons, List.length_nil, List.drop_succ_cons, List.drop_zero, List.take_succ_cons, List.take_zero, List.cons_append, List.nil_append, List.append_nil, List.drop_nil, List.take_nil, Nat.reduceAdd, Nat.reduceLeDiff, Nat.zero_add, Nat.add_zero, ↓reduceIte, Bool.not_true, Bool.not_false, decide_true, decide_false, eq_self, bne_self_eq_false, List.getElem?_cons_zero, List.getElem?_cons_succ, decide_eq_true_eq, Bool.false_eq_true, Bool.true_eq_false, reduceCtorEq, Nat.le_refl, Tx.len, Tx.tak, isTx_e hI14]
  (repeat' ((first | (rw [gF_if]; split) | (rw [condC_if]; split) | (rw [pickR_if]; split)) <;> (rename_i hh; (try simp only [Bool.not_eq_true, decide_eq_true_eq] at hh); simp only [hh, run0, run1, run2, run3, run4, noSlot, ownS, ownK, memN, RO.dst, lk, drop, forget, number, Nat.reduceBEq, cut?, splice?, builds, List.length_cons, List.length_nil, List.drop_succ_cons, List.drop_zero, List.take_succ_cons, List.take_zero, List.cons_append, List.nil_append, List.append_nil, List.drop_nil, List.take_nil, Nat.reduceAdd, Nat.reduceLeDiff, Nat.zero_add, Nat.add_zero, ↓reduceIte, Bool.not_true, Bool.not_false, decide_true, decide_false, eq_self, bne_self_eq_false, List.getElem?_cons_zero, List.getElem?_cons_succ, decide_eq_true_eq, Bool.false_eq_true, Bool.true_eq_false, reduceCtorEq, Nat.le_refl, Tx.len, Tx.tak, Tx.drp, isTx_e hI14, w.len, List.replicate_zero, fills])))
  · have hp : t.play es = (t, []) := by
      unfold Tx.play
      cases hok : t.ok with
      | false => rfl
      | true => rw [decide_eq_false (by simp_all <;> omega)]; rfl
    rw [hp]
    exact ⟨_, _, rfl, Acc.nil 4 h⟩
  · have hn : es.length ≤ 100 := by simp_all <;> omega
    have hp : t.play es = es.foldl (fun a e => ((a.1.step e).1, a.2 ++ [(a.1.step e).2])) (t, []) := by
      have hok : t.ok = true := by simp_all
      unfold Tx.play
      rw [hok, decide_eq_true hn]; rfl
    obtain ⟨s', ⟨y', g', hs', ha', _⟩, l1⟩ := loop_fold (F := F) (Z := Z) (live := [2, 4, 6, 20, 21, 22]) (b := r60L0) es (fun a e => ((a.1.step e).1, a.2 ++ [(a.1.step e).2]))
      (fun i a s => ∃ y g, s = ⟨[(6, .c y), (20, .c x), (21, .c (.int .i64 (es.length : Nat))), (22, .c (.int .i64 ((i : Nat) : Int)))], [(2, 2, 0), (4, 4, 0)], [(2, a.1.enc), (4, Tx.zero.enc)], g⟩ ∧ Acc 4 h g y (a.2.map bool_enc) ∧ a.2.length ≤ i) (fun i hi a s ⟨y, g, hs, ha, hl⟩ => by
        subst hs
        obtain ⟨y', g', ha', e'⟩ := PlayTx_turn (F := F) (Z := Z) hI14 hf w ha (by simp; omega) i hi a.1
        exact ⟨_, ⟨y', g', rfl, by simpa using ha', by simp; omega⟩, e'⟩) (a := (t, [])) (s := ⟨[(6, .c (.sl 4 h.next 0 0)), (20, .c x), (21, .c (.int .i64 (es.length : Nat))), (22, .c (.int .i64 ((0 : Nat) : Int)))], [(2, 2, 0), (4, 4, 0)], [(2, t.enc), (4, Tx.zero.enc)], (h.push [])⟩) ⟨_, _, rfl, by simpa using a0, Nat.le_refl _⟩
    subst hs'
    rw [← hp] at l1 ha'
    simp only [show ((0 : Nat) : Int) = 0 from rfl] at l1
    have ez : Tx.zero.enc = [.int .i64 0, .int .u64 0, .int .u64 0, .int .u64 0, .int .i64 0, .bool false, .bool false, .bool false, .bool false, .int .i64 0] := rfl
    rw [ez] at l1
    have hlt : ¬ (es.length : Int) < es.length := by omega
    simp only [run0, run1, run2, run3, run4, noSlot, ownS, ownK, memN, RO.dst, lk, drop, forget, number, Nat.reduceBEq, cut?, splice?, builds, List.length_cons, List.length_nil, List.drop_succ_cons, List.drop_zero, List.take_succ_cons, List.take_zero, List.cons_append, List.nil_append, List.append_nil, List.drop_nil, List.take_nil, Nat.reduceAdd, Nat.reduceLeDiff, Nat.zero_add, Nat.add_zero, ↓reduceIte, Bool.not_true, Bool.not_false, decide_true, decide_false, eq_self, bne_self_eq_false, List.getElem?_cons_zero, List.getElem?_cons_succ, decide_eq_true_eq, Bool.false_eq_true, Bool.true_eq_false, reduceCtorEq, Nat.le_refl, w.len, l1]
    rw [loop_run]
    conv in (codeF _ _ r60L0 _) => unfold r60L0
    simp only [run0, run1, run2, run3, run4, noSlot, ownS, ownK, memN, RO.dst, lk, drop, forget, number, Nat.reduceBEq, cut?, splice?, builds, List.length_cons, List.length_nil, List.drop_succ_cons, List.drop_zero, List.take_succ_cons, List.take_zero, List.cons_append, List.nil_append, List.append_nil, List.drop_nil, List.take_nil, Nat.reduceAdd, Nat.reduceLeDiff, Nat.zero_add, Nat.add_zero, ↓reduceIte, Bool.not_true, Bool.not_false, decide_true, decide_false, eq_self, bne_self_eq_false, List.getElem?_cons_zero, List.getElem?_cons_succ, decide_eq_true_eq, Bool.false_eq_true, Bool.true_eq_false, reduceCtorEq, Nat.le_refl, w.len, hlt, Tx.len, Tx.tak]
    exact ⟨_, _, rfl, ha'⟩
  · have hp : t.play es = (t, []) := by
      unfold Tx.play
      cases hok : t.ok with
      | false => rfl
      | true => rw [decide_eq_false (by simp_all <;> omega)]; rfl
    rw [hp]
    exact ⟨_, _, rfl, Acc.nil 4 h⟩
set_option maxHeartbeats 1000000 in
theorem sPlayTx_run (hS : Has F tS01d) (hS14 : Has F tS14) {x : Cell} {es : List TxEvent} {fp : List Nat} (hf : h.floor ≤ h.next) (w : SlR 5 (Fl TxEvent.enc) h x es fp) (t : Tx) :
    ∃ y h', call F Z 59 [.agg t.enc, .c x] h = some (.tup [.agg (t.play es).1.enc, .c y], h') ∧ Acc 4 h h' y ((t.play es).2.map bool_enc) := by
  have a0 := Acc.lit0 (tag := 4) (On.refl h)
  have hle := w.le2
  rw [call_run F Z (hS14.lk (g := 59) rfl) _ _ rfl]
  simp only [run0, run1, run2, run3, run4, noSlot, ownS, ownK, memN, RO.dst, lk, drop, forget, number, Nat.reduceBEq, cut?, splice?, builds, List.length_cons, List.length_nil, List.drop_succ_cons, List.drop_zero, List.take_succ_cons, List.take_zero, List.cons_append, List.nil_append, List.append_nil, List.drop_nil, List.take_nil, Nat.reduceAdd, Nat.reduceLeDiff, Nat.zero_add, Nat.add_zero, ↓reduceIte, Bool.not_true, Bool.not_false, decide_true, decide_false, eq_self, bne_self_eq_false, List.getElem?_cons_zero, List.getElem?_cons_succ, decide_eq_true_eq, Bool.false_eq_true, Bool.true_eq_false, reduceCtorEq, Nat.le_refl, Tx.len, Tx.tak, sTxOk_e hS hS14]
  (repeat' ((first | (rw [gF_if]; split) | (rw [condC_if]; split) | (rw [pickR_if]; split)) <;> (rename_i hh; (try simp only [Bool.not_eq_true, decide_eq_true_eq] at hh); simp only [hh, run0, run1, run2, run3, run4, noSlot, ownS, ownK, memN, RO.dst, lk, drop, forget, number, Nat.reduceBEq, cut?, splice?, builds, List.length_cons, List.length_nil, List.drop_succ_cons, List.drop_zero, List.take_succ_cons, List.take_zero, List.cons_append, List.nil_append, List.append_nil, List.drop_nil, List.take_nil, Nat.reduceAdd, Nat.reduceLeDiff, Nat.zero_add, Nat.add_zero, ↓reduceIte, Bool.not_true, Bool.not_false, decide_true, decide_false, eq_self, bne_self_eq_false, List.getElem?_cons_zero, List.getElem?_cons_succ, decide_eq_true_eq, Bool.false_eq_true, Bool.true_eq_false, reduceCtorEq, Nat.le_refl, Tx.len, Tx.tak, Tx.drp, sTxOk_e hS hS14, w.len, List.replicate_zero, fills])))
  · have hp : t.play es = (t, []) := by
      unfold Tx.play
      cases hok : t.ok with
      | false => rfl
      | true => rw [decide_eq_false (by simp_all <;> omega)]; rfl
    rw [hp]
    exact ⟨_, _, rfl, Acc.nil 4 h⟩
  · have hn : es.length ≤ 100 := by simp_all <;> omega
    have hp : t.play es = es.foldl (fun a e => ((a.1.step e).1, a.2 ++ [(a.1.step e).2])) (t, []) := by
      have hok : t.ok = true := by simp_all
      unfold Tx.play
      rw [hok, decide_eq_true hn]; rfl
    obtain ⟨s', ⟨y', g', hs', ha', _⟩, l1⟩ := loop_fold (F := F) (Z := Z) (live := [1, 2, 4, 6, 7]) (b := r59L0) es (fun a e => ((a.1.step e).1, a.2 ++ [(a.1.step e).2]))
      (fun i a s => ∃ y g, s = ⟨[(1, .c x), (6, .c y), (7, .c (.int .i64 ((i : Nat) : Int)))], [(2, 2, 0), (4, 4, 0)], [(2, a.1.enc), (4, Tx.zero.enc)], g⟩ ∧ Acc 4 h g y (a.2.map bool_enc) ∧ a.2.length ≤ i) (fun i hi a s ⟨y, g, hs, ha, hl⟩ => by
        subst hs
        obtain ⟨y', g', ha', e'⟩ := sPlayTx_turn (F := F) (Z := Z) hS hS14 hf w ha (by simp; omega) i hi a.1
        exact ⟨_, ⟨y', g', rfl, by simpa using ha', by simp; omega⟩, e'⟩) (a := (t, [])) (s := ⟨[(1, .c x), (6, .c (.sl 4 h.next 0 0)), (7, .c (.int .i64 ((0 : Nat) : Int)))], [(2, 2, 0), (4, 4, 0)], [(2, t.enc), (4, Tx.zero.enc)], (h.push [])⟩) ⟨_, _, rfl, by simpa using a0, Nat.le_refl _⟩
    subst hs'
    rw [← hp] at l1 ha'
    simp only [show ((0 : Nat) : Int) = 0 from rfl] at l1
    have ez : Tx.zero.enc = [.int .i64 0, .int .u64 0, .int .u64 0, .int .u64 0, .int .i64 0, .bool false, .bool false, .bool false, .bool false, .int .i64 0] := rfl
    rw [ez] at l1
    have hlt : ¬ (es.length : Int) < es.length := by omega
    simp only [run0, run1, run2, run3, run4, noSlot, ownS, ownK, memN, RO.dst, lk, drop, forget, number, Nat.reduceBEq, cut?, splice?, builds, List.length_cons, List.length_nil, List.drop_succ_cons, List.drop_zero, List.take_succ_cons, List.take_zero, List.cons_append, List.nil_append, List.append_nil, List.drop_nil, List.take_nil, Nat.reduceAdd, Nat.reduceLeDiff, Nat.zero_add, Nat.add_zero, ↓reduceIte, Bool.not_true, Bool.not_false, decide_true, decide_false, eq_self, bne_self_eq_false, List.getElem?_cons_zero, List.getElem?_cons_succ, decide_eq_true_eq, Bool.false_eq_true, Bool.true_eq_false, reduceCtorEq, Nat.le_refl, w.len, l1]
    rw [loop_run]
    conv in (codeF _ _ r59L0 _) => unfold r59L0
    simp only [run0, run1, run2, run3, run4, noSlot, ownS, ownK, memN, RO.dst, lk, drop, forget, number, Nat.reduceBEq, cut?, splice?, builds, List.length_cons, List.length_nil, List.drop_succ_cons, List.drop_zero, List.take_succ_cons, List.take_zero, List.cons_append, List.nil_append, List.append_nil, List.drop_nil, List.take_nil, Nat.reduceAdd, Nat.reduceLeDiff, Nat.zero_add, Nat.add_zero, ↓reduceIte, Bool.not_true, Bool.not_false, decide_true, decide_false, eq_self, bne_self_eq_false, List.getElem?_cons_zero, List.getElem?_cons_succ, decide_eq_true_eq, Bool.false_eq_true, Bool.true_eq_false, reduceCtorEq, Nat.le_refl, w.len, hlt, Tx.len, Tx.tak]
    exact ⟨_, _, rfl, ha'⟩
  · have hp : t.play es = (t, []) := by
      unfold Tx.play
      cases hok : t.ok with
      | false => rfl
      | true => rw [decide_eq_false (by simp_all <;> omega)]; rfl
    rw [hp]
    exact ⟨_, _, rfl, Acc.nil 4 h⟩
end
end Go.Proofs.Ytlbagejkjkfkjaa.A
/- The play of a transfer, as the laws need it. -/
namespace Go.Proofs.Ytlbagejkjkfkjaa.A
open Go
set_option linter.unusedSimpArgs false
set_option linter.unusedVariables false
section
variable {F : Nat → Option RF} {Z : CallF} {h : Heap}
theorem toTx_e (hL : Has F tLTx) (t : Tx) (h : Heap) : call F Z 13 [.agg t.enc] h = some (.agg t.enc, h) := toTx_run hL ..
theorem PlayTx_c (hI14 : Has F tI14) (hf : h.floor ≤ h.next) (t : Tx) {x : Cell} {es : List TxEvent} {fp : List Nat} (w : SlR 5 (Fl TxEvent.enc) h x es fp) :
    ∃ y h' fq, call F Z 60 [.agg t.enc, .c x] h = some (.tup [.agg (t.play es).1.enc, .c y], h') ∧ On h h' ∧ SlR 4 (Fl bool_enc) h' y (t.play es).2 fq ∧ Fre h fq := by
  obtain ⟨y, h', e, a⟩ := PlayTx_run (Z := Z) hI14 hf w t
  obtain ⟨o, fq, v, f⟩ := a.flat
  exact ⟨y, h', fq, e, o, v, f⟩
theorem sPlayTx_c (hS : Has F tS01d) (hS14 : Has F tS14) (hf : h.floor ≤ h.next) (t : Tx) {x : Cell} {es : List TxEvent} {fp : List Nat} (w : SlR 5 (Fl TxEvent.enc) h x es fp) :
    ∃ y h' fq, call F Z 59 [.agg t.enc, .c x] h = some (.tup [.agg (t.play es).1.enc, .c y], h') ∧ On h h' ∧ SlR 4 (Fl bool_enc) h' y (t.play es).2 fq ∧ Fre h fq := by
  obtain ⟨y, h', e, a⟩ := sPlayTx_run (Z := Z) hS hS14 hf w t
  obtain ⟨o, fq, v, f⟩ := a.flat
  exact ⟨y, h', fq, e, o, v, f⟩
theorem Tx.play_len (t : Tx) (es : List TxEvent) : (t.play es).2.length ≤ 100 := by
  unfold Tx.play
  cases hb : (t.ok && decide (es.length ≤ 100)) with
  | false => simp
  | true =>
    have hl : es.length ≤ 100 := by simp at hb; exact hb.2
    simp only [cond_true]
    have : ∀ (l : List TxEvent) (a : Tx × List Bool), (l.foldl (fun a e => ((a.1.step e).1, a.2 ++ [(a.1.step e).2])) a).2.length = a.2.length + l.length := by
      intro l
      induction l with
      | nil => intro a; simp
      | cons e r ih => intro a; rw [List.foldl_cons, ih]; simp; omega
    rw [this]; simpa using hl
end
end Go.Proofs.Ytlbagejkjkfkjaa.A
/- Calls with the floor raised. -/
namespace Go.Proofs.Ytlbagejkjkfkjaa.A
open Go
set_option linter.unusedSimpArgs false
set_option linter.unusedVariables false
theorem On.quiet {h h' : Heap} (o : On { h with floor := h.next } h') : On h { h' with floor := h.floor } := ⟨⟨o.ext.1, o.ext.2⟩, rfl⟩
theorem On.up (h : Heap) : On h { h with floor := h.floor } := ⟨⟨Nat.le_refl _, fun _ _ => rfl⟩, rfl⟩
theorem SlR.up {α : Type} {R : Rel α} {tag : Nat} {h : Heap} {x : Cell} {xs : List α} {fp : List Nat} (w : SlR tag R h x xs fp) (ok : RelOk R) (n : Nat) : SlR tag R { h with floor := n } x xs fp := w.mv ok (Nat.le_refl _) fun _ _ => rfl
/-- A call with the floor raised, and the heap behind it as one thing. -/
theorem quietly {F : Nat → Option RF} {Z : CallF} {h h' : Heap} {f : Nat} {vs : List V} {r : V} (e : call F Z f vs ⟨h.next, h.next, h.get⟩ = some (r, h')) (o : On ⟨h.next, h.next, h.get⟩ h') :
    ∃ h' g, call F Z f vs ⟨h.next, h.next, h.get⟩ = some (r, h') ∧ Heap.mk h'.next h.floor h'.get = g ∧ On h g := ⟨h', _, e, rfl, ⟨⟨o.ext.1, o.ext.2⟩, rfl⟩⟩
theorem RelOk.up {α : Type} {R : Rel α} (ok : RelOk R) {h : Heap} {cs : List Cell} {a : α} {fp : List Nat} (w : R h cs a fp) (n : Nat) : R ⟨h.next, n, h.get⟩ cs a fp := ok.mv w (Nat.le_refl _) fun _ _ => rfl
end Go.Proofs.Ytlbagejkjkfkjaa.A
/- Views: slices that show a part of a row. -/
namespace Go.Proofs.Ytlbagejkjkfkjaa.A
open Go
set_option linter.unusedSimpArgs false
set_option linter.unusedVariables false
def Cell.off : Cell → Nat
  | .sl _ _ off _ => off
  | _ => 0
/-- A cell shows a list, out of a row that may be longer. -/
def Vw {α : Type} (tag : Nat) (enc : α → List Cell) (h : Heap) (x : Cell) (xs : List α) : Prop :=
  xs.length ≤ maxLen ∧ ((x = .nil ∧ xs = []) ∨ ∃ id off rows, x = .sl tag id off xs.length ∧ h.get id = some rows ∧ id < h.next ∧ ∀ i (hi : i < xs.length), rows[off + i]? = some (enc xs[i]))
section
variable {α : Type} {enc : α → List Cell} {h h' : Heap} {tag : Nat} {x : Cell} {xs : List α} {fp : List Nat}
theorem Vw.le (w : Vw tag enc h x xs) : xs.length ≤ maxLen := w.1
theorem Vw.le2 (w : Vw tag enc h x xs) : xs.length ≤ 9223372036854775807 := by have := w.1; unfold maxLen at this; omega
theorem Vw.len (w : Vw tag enc h x xs) : lenR (some x) = some (.int .i64 (xs.length : Nat)) := by
  rcases w with ⟨_, ⟨rfl, rfl⟩ | ⟨id, off, rows, rfl, _⟩⟩ <;> rfl
theorem Vw.on (w : Vw tag enc h x xs) (o : On h h') : Vw tag enc h' x xs := by
  rcases w with ⟨hl, h0 | ⟨id, off, rows, h1, h2, h3, h4⟩⟩
  · exact ⟨hl, .inl h0⟩
  · exact ⟨hl, .inr ⟨id, off, rows, h1, (o.ext.2 id h3).trans h2, Nat.lt_of_lt_of_le h3 o.ext.1, h4⟩⟩
theorem Vw.up (w : Vw tag enc h x xs) (n : Nat) : Vw tag enc ⟨h.next, n, h.get⟩ x xs := by
  rcases w with ⟨hl, h0 | ⟨id, off, rows, h1, h2, h3, h4⟩⟩
  · exact ⟨hl, .inl h0⟩
  · exact ⟨hl, .inr ⟨id, off, rows, h1, h2, h3, h4⟩⟩
theorem Vw.idx (w : Vw tag enc h x xs) {i : Nat} (hi : i < xs.length) : idxR tag (some x) (some (i : Int)) = some (.ptr x.sid (x.off + i) 0) := by
  rcases w with ⟨_, ⟨rfl, rfl⟩ | ⟨id, off, rows, rfl, _⟩⟩
  · exact absurd hi (Nat.not_lt_zero _)
  · rw [idxR_s, if_pos (by omega)]; simp [Cell.sid, Cell.off]
theorem Vw.load (w : Vw tag enc h x xs) {i : Nat} (hi : i < xs.length) (j n : Nat) : loadP h x.sid (x.off + i) j n = cut? (enc xs[i]) j n := by
  rcases w with ⟨_, ⟨rfl, rfl⟩ | ⟨id, off, rows, rfl, h2, h3, h4⟩⟩
  · exact absurd hi (Nat.not_lt_zero _)
  · simp [loadP, rowOf, Cell.sid, Cell.off, h2, h4 i hi]
theorem SlR.vw (w : SlR tag (Fl enc) h x xs fp) : Vw tag enc h x xs := by
  refine ⟨w.le, ?_⟩
  rcases w.flat with ⟨h1, h2, _⟩ | ⟨h1, h2, h3, _⟩
  · exact .inl ⟨h1, h2⟩
  · refine .inr ⟨x.sid, 0, _, h1, h2, h3, fun i hi => ?_⟩
    rw [Nat.zero_add, List.getElem?_map, List.getElem?_eq_getElem hi]; rfl
theorem Vw.cut (w : Vw tag enc h x xs) {a b : Nat} (hab : a ≤ b) (hb : b ≤ xs.length) {lo hi : Option Int} (hlo : lo.getD 0 = a) (hhi : hi.getD xs.length = b) :
    ∃ y, cutR tag (some x) (some lo) (some hi) = some y ∧ Vw tag enc h y ((xs.take b).drop a) := by
  have hle := w.le
  rcases w with ⟨_, ⟨rfl, rfl⟩ | ⟨id, off, rows, rfl, h2, h3, h4⟩⟩
  · simp only [List.length_nil, Nat.le_zero] at hb
    subst hb
    obtain rfl : a = 0 := by omega
    refine ⟨.nil, ?_, ⟨by simp, .inl ⟨rfl, by simp⟩⟩⟩
    rw [cutR_n, if_pos ⟨by simpa using hlo, by simpa using hhi⟩]
  · have hl : ((xs.take b).drop a).length = b - a := by simp; omega
    refine ⟨.sl tag id (off + a) (b - a), ?_, ⟨by rw [hl]; omega, .inr ⟨id, off + a, rows, by rw [hl], h2, h3, fun i hi => ?_⟩⟩⟩
    · rw [cutR_s, hlo, hhi, if_pos (by omega)]; simp
    · rw [hl] at hi
      have := h4 (a + i) (by omega)
      rw [Nat.add_assoc, this]
      simp
theorem Vw.pre (w : Vw tag enc h x xs) {b : Nat} (hb : b ≤ xs.length) : ∃ y, cutR tag (some x) (some none) (some (some (b : Int))) = some y ∧ Vw tag enc h y (xs.take b) := by
  obtain ⟨y, h1, h2⟩ := w.cut (a := 0) (b := b) (Nat.zero_le _) hb (lo := none) (hi := some (b : Int)) rfl rfl
  exact ⟨y, h1, by simpa using h2⟩
end
end Go.Proofs.Ytlbagejkjkfkjaa.A
/- The compact code of some functions: laws.eqIntS, laws.markIntS, laws.heldIntS, laws.toIntS. -/
namespace Go.Proofs.Ytlbagejkjkfkjaa.A
open Go
/-- A loop of laws.eqIntS. -/
def r285L0 : RC :=
 .seq (.seq (.reg [⟨none, .mov 11 (.t 5)⟩,
      ⟨none, .mov 12 (.t 0)⟩,
      ⟨none, .len 13 (.t 12)⟩,
      ⟨none, .bin 14 .lss (.t 11) (.t 13)⟩])
     (.cond (.t 14)
     (.skip)
     (.exit 0)))
    (.seq (.block 1 (.seq (.reg [⟨none, .chk []⟩,
       ⟨none, .mov 17 (.t 0)⟩,
       ⟨none, .mov 18 (.t 5)⟩,
       ⟨none, .idx 19 15 (.t 17) (.t 18)⟩,
       ⟨none, .mov 21 (.t 1)⟩,
       ⟨none, .mov 22 (.t 5)⟩,
       ⟨none, .idx 23 15 (.t 21) (.t 22)⟩,
       ⟨none, .load 20 19 1 false⟩,
       ⟨none, .load 24 23 1 false⟩,
       ⟨none, .bin 25 .neq (.t 20) (.t 24)⟩])
      (.cond (.t 25)
      (.seq (.reg [⟨none, .mov 4 (.k (.bool false))⟩])
       (.ret))
      (.skip))))
    (.reg [⟨none, .mov 15 (.t 5)⟩,
    ⟨none, .bin 16 .add (.t 15) (.k (.int .i64 1))⟩,
    ⟨none, .mov 5 (.t 16)⟩]))
/-- laws.eqIntS -/
def r285 : RF :=
 ⟨2, [.tmp 4],
 .seq (.reg [⟨none, .mov 4 (.k (.bool false))⟩])
 (.seq (.seq (.reg [⟨none, .mov 6 (.t 0)⟩,
   ⟨none, .len 7 (.t 6)⟩,
   ⟨none, .mov 8 (.t 1)⟩,
   ⟨none, .len 9 (.t 8)⟩,
   ⟨none, .bin 10 .neq (.t 7) (.t 9)⟩])
  (.cond (.t 10)
  (.seq (.reg [⟨none, .mov 4 (.k (.bool false))⟩])
   (.ret))
  (.skip)))
 (.seq (.seq (.reg [⟨none, .mov 5 (.k (.int .i64 0))⟩])
  (.block 0 (.loop [0, 1, 5]
   r285L0)))
 (.seq (.reg [⟨none, .mov 4 (.k (.bool true))⟩])
 (.ret))))⟩
/-- A loop of laws.markIntS. -/
def r287L0 : RC :=
 .seq (.seq (.reg [⟨none, .mov 6 (.t 5)⟩,
      ⟨none, .mov 7 (.t 0)⟩,
      ⟨none, .len 8 (.t 7)⟩,
      ⟨none, .bin 9 .lss (.t 6) (.t 8)⟩])
     (.cond (.t 9)
     (.skip)
     (.exit 0)))
    (.seq (.block 1 (.seq (.reg [⟨none, .mov 12 (.t 0)⟩,
       ⟨none, .mov 13 (.t 5)⟩,
       ⟨none, .mov 14 (.t 1)⟩,
       ⟨none, .idx 15 15 (.t 12) (.t 13)⟩,
       ⟨none, .store 15 1 (.t 14)⟩])
      (.reg [⟨none, .mov 16 (.t 1)⟩,
      ⟨none, .bin 17 .add (.t 16) (.k (.int .i64 1))⟩,
      ⟨none, .mov 1 (.t 17)⟩])))
    (.reg [⟨none, .mov 10 (.t 5)⟩,
    ⟨none, .bin 11 .add (.t 10) (.k (.int .i64 1))⟩,
    ⟨none, .mov 5 (.t 11)⟩]))
/-- laws.markIntS -/
def r287 : RF :=
 ⟨2, [.tmp 4],
 .seq (.reg [⟨none, .mov 4 (.k (.int .i64 0))⟩])
 (.seq (.seq (.reg [⟨none, .mov 5 (.k (.int .i64 0))⟩])
  (.block 0 (.loop [0, 1, 5]
   r287L0)))
 (.seq (.reg [⟨none, .mov 18 (.t 1)⟩,
  ⟨none, .mov 4 (.t 18)⟩])
 (.ret)))⟩
/-- A loop of laws.heldIntS. -/
def r288L0 : RC :=
 .seq (.seq (.reg [⟨none, .mov 6 (.t 5)⟩,
      ⟨none, .mov 7 (.t 0)⟩,
      ⟨none, .len 8 (.t 7)⟩,
      ⟨none, .bin 9 .lss (.t 6) (.t 8)⟩])
     (.cond (.t 9)
     (.skip)
     (.exit 0)))
    (.seq (.block 1 (.seq (.seq (.reg [⟨none, .mov 12 (.t 0)⟩,
        ⟨none, .mov 13 (.t 5)⟩,
        ⟨none, .idx 14 15 (.t 12) (.t 13)⟩,
        ⟨none, .load 15 14 1 false⟩,
        ⟨none, .mov 16 (.t 1)⟩,
        ⟨none, .bin 17 .neq (.t 15) (.t 16)⟩])
       (.cond (.t 17)
       (.seq (.reg [⟨none, .mov 4 (.k (.int .i64 (-1)))⟩])
        (.ret))
       (.skip)))
      (.reg [⟨none, .mov 18 (.t 1)⟩,
      ⟨none, .bin 19 .add (.t 18) (.k (.int .i64 1))⟩,
      ⟨none, .mov 1 (.t 19)⟩])))
    (.reg [⟨none, .mov 10 (.t 5)⟩,
    ⟨none, .bin 11 .add (.t 10) (.k (.int .i64 1))⟩,
    ⟨none, .mov 5 (.t 11)⟩]))
/-- laws.heldIntS -/
def r288 : RF :=
 ⟨2, [.tmp 4],
 .seq (.reg [⟨none, .mov 4 (.k (.int .i64 0))⟩])
 (.seq (.seq (.reg [⟨none, .mov 5 (.k (.int .i64 0))⟩])
  (.block 0 (.loop [0, 1, 5]
   r288L0)))
 (.seq (.reg [⟨none, .mov 20 (.t 1)⟩,
  ⟨none, .mov 4 (.t 20)⟩])
 (.ret)))⟩
/-- A loop of laws.toIntS. -/
def r360L0 : RC :=
 .seq (.seq (.reg [⟨none, .mov 8 (.t 4)⟩,
      ⟨none, .mov 9 (.t 0)⟩,
      ⟨none, .len 10 (.t 9)⟩,
      ⟨none, .bin 11 .lss (.t 8) (.t 10)⟩])
     (.cond (.t 11)
     (.skip)
     (.exit 0)))
    (.seq (.block 1 (.reg [⟨none, .mov 14 (.t 3)⟩,
      ⟨none, .mov 15 (.t 4)⟩,
      ⟨none, .mov 16 (.t 0)⟩,
      ⟨none, .mov 17 (.t 4)⟩,
      ⟨none, .idx 18 15 (.t 16) (.t 17)⟩,
      ⟨none, .load 19 18 1 false⟩,
      ⟨none, .idx 20 15 (.t 14) (.t 15)⟩,
      ⟨none, .store 20 1 (.t 19)⟩]))
    (.reg [⟨none, .mov 12 (.t 4)⟩,
    ⟨none, .bin 13 .add (.t 12) (.k (.int .i64 1))⟩,
    ⟨none, .mov 4 (.t 13)⟩]))
/-- laws.toIntS -/
def r360 : RF :=
 ⟨1, [.tmp 2],
 .seq (.reg [⟨none, .mov 2 (.k (.nil))⟩])
 (.seq (.reg [⟨none, .mov 5 (.t 0)⟩,
  ⟨none, .len 6 (.t 5)⟩,
  ⟨none, .mks 7 15 8 [.int .i64 0] (.t 6) (.t 6)⟩,
  ⟨none, .mov 3 (.t 7)⟩])
 (.seq (.seq (.reg [⟨none, .mov 4 (.k (.int .i64 0))⟩])
  (.block 0 (.loop [0, 3, 4]
   r360L0)))
 (.seq (.reg [⟨none, .mov 21 (.t 3)⟩,
  ⟨none, .mov 2 (.t 21)⟩])
 (.ret))))⟩
/-- The functions of this text, with their numbers. -/
def tLInt : List (Nat × RF) := [(285, r285), (287, r287), (288, r288), (360, r360)]
end Go.Proofs.Ytlbagejkjkfkjaa.A
/- What the converters of Int compute. -/
namespace Go.Proofs.Ytlbagejkjkfkjaa.A
open Go
set_option linter.unusedSimpArgs false
set_option linter.unusedVariables false
def int_enc (b : Int) : List Cell := [.int .i64 b]
theorem int_enc_len (b : Int) : (int_enc b).length = 1 := rfl
theorem int_enc_tak (b : Int) : (int_enc b).take 1 = int_enc b := rfl
section
variable {F : Nat → Option RF} {Z : CallF} {h : Heap} {x y : Cell} {xs ys : List Int} {fp fq : List Nat}
def int_zero : List Cell := [.int .i64 0]
theorem eqIntS_run (hL : Has F tLInt) (w : SlR 15 (Fl int_enc) h x xs fp) (v : SlR 15 (Fl int_enc) h y ys fq) : call F Z 285 [.c x, .c y] h = some (.c (.bool (decide (xs = ys))), h) := by
  have hw := w.le2
  have hv := v.le2
  rw [call_run F Z (hL.lk (g := 285) rfl) _ _ rfl]
  simp only [run0, run1, run2, run3, run4, noSlot, ownS, ownK, memN, RO.dst, lk, drop, forget, number, Nat.reduceBEq, cut?, splice?, builds, List.length_cons, List.length_nil, List.drop_succ_cons, List.drop_zero, List.take_succ_cons, List.take_zero, List.cons_append, List.nil_append, List.append_nil, List.drop_nil, List.take_nil, Nat.reduceAdd, Nat.reduceLeDiff, Nat.zero_add, Nat.add_zero, ↓reduceIte, Bool.not_true, Bool.not_false, decide_true, decide_false, eq_self, bne_self_eq_false, List.getElem?_cons_zero, List.getElem?_cons_succ, decide_eq_true_eq, Bool.false_eq_true, Bool.true_eq_false, reduceCtorEq, Nat.le_refl, w.len, v.len]
  rw [condC_if]
  split
  · rename_i hne
    have : xs ≠ ys := by rintro rfl; simp at hne
    simp only [run0, run1, run2, run3, run4, noSlot, ownS, ownK, memN, RO.dst, lk, drop, forget, number, Nat.reduceBEq, cut?, splice?, builds, List.length_cons, List.length_nil, List.drop_succ_cons, List.drop_zero, List.take_succ_cons, List.take_zero, List.cons_append, List.nil_append, List.append_nil, List.drop_nil, List.take_nil, Nat.reduceAdd, Nat.reduceLeDiff, Nat.zero_add, Nat.add_zero, ↓reduceIte, Bool.not_true, Bool.not_false, decide_true, decide_false, eq_self, bne_self_eq_false, List.getElem?_cons_zero, List.getElem?_cons_succ, decide_eq_true_eq, Bool.false_eq_true, Bool.true_eq_false, reduceCtorEq, Nat.le_refl, this]
  · rename_i he
    have he : xs.length = ys.length := by simp at he; omega
    simp only [run0, run1, run2, run3, run4, noSlot, ownS, ownK, memN, RO.dst, lk, drop, forget, number, Nat.reduceBEq, cut?, splice?, builds, List.length_cons, List.length_nil, List.drop_succ_cons, List.drop_zero, List.take_succ_cons, List.take_zero, List.cons_append, List.nil_append, List.append_nil, List.drop_nil, List.take_nil, Nat.reduceAdd, Nat.reduceLeDiff, Nat.zero_add, Nat.add_zero, ↓reduceIte, Bool.not_true, Bool.not_false, decide_true, decide_false, eq_self, bne_self_eq_false, List.getElem?_cons_zero, List.getElem?_cons_succ, decide_eq_true_eq, Bool.false_eq_true, Bool.true_eq_false, reduceCtorEq, Nat.le_refl]
    have key := loop_allN (F := F) (Z := Z) (live := [0, 1, 5]) (b := r285L0) xs.length (fun i => ⟨[(0, .c x), (1, .c y), (5, .c (.int .i64 (i : Nat)))], [], [], h⟩) (fun i => decide (xs[i]? = ys[i]?)) (fun s => lk s.env 4 = some (.c (.bool false)) ∧ s.hp = h) fun i hi => by
      have hi' : i < ys.length := by omega
      have hlt : (i : Int) < xs.length := by omega
      rw [loop_run]
      simp only [r285L0, run0, run1, run2, run3, run4, noSlot, ownS, ownK, memN, RO.dst, lk, drop, forget, number, Nat.reduceBEq, cut?, splice?, builds, List.length_cons, List.length_nil, List.drop_succ_cons, List.drop_zero, List.take_succ_cons, List.take_zero, List.cons_append, List.nil_append, List.append_nil, List.drop_nil, List.take_nil, Nat.reduceAdd, Nat.reduceLeDiff, Nat.zero_add, Nat.add_zero, ↓reduceIte, Bool.not_true, Bool.not_false, decide_true, decide_false, eq_self, bne_self_eq_false, List.getElem?_cons_zero, List.getElem?_cons_succ, decide_eq_true_eq, Bool.false_eq_true, Bool.true_eq_false, reduceCtorEq, Nat.le_refl, w.len, hlt, w.idx hi, v.idx hi', w.load hi, v.load hi', int_enc, wrapS i (by omega)]
      rw [List.getElem?_eq_getElem hi, List.getElem?_eq_getElem hi']
      (repeat' ((first | (rw [gF_if]; split) | (rw [condC_if]; split) | (rw [pickR_if]; split)) <;> (rename_i hh; (try simp only [Bool.not_eq_true, decide_eq_true_eq] at hh); simp only [hh, run0, run1, run2, run3, run4, noSlot, ownS, ownK, memN, RO.dst, lk, drop, forget, number, Nat.reduceBEq, cut?, splice?, builds, List.length_cons, List.length_nil, List.drop_succ_cons, List.drop_zero, List.take_succ_cons, List.take_zero, List.cons_append, List.nil_append, List.append_nil, List.drop_nil, List.take_nil, Nat.reduceAdd, Nat.reduceLeDiff, Nat.zero_add, Nat.add_zero, ↓reduceIte, Bool.not_true, Bool.not_false, decide_true, decide_false, eq_self, bne_self_eq_false, List.getElem?_cons_zero, List.getElem?_cons_succ, decide_eq_true_eq, Bool.false_eq_true, Bool.true_eq_false, reduceCtorEq, Nat.le_refl, wrapS i (by omega)])))
      · exact .inr ⟨by simp_all, _, rfl, rfl, rfl⟩
      · exact .inl ⟨by simp_all, rfl⟩
    rw [all_same he] at key
    rcases key with ⟨k1, k2⟩ | ⟨k1, s, k2, k3, k4⟩
    · simp only [show ((0 : Nat) : Int) = 0 from rfl] at k2
      rw [k2, loop_run]
      have hlt : ¬ (xs.length : Int) < xs.length := by omega
      simp only [r285L0, run0, run1, run2, run3, run4, noSlot, ownS, ownK, memN, RO.dst, lk, drop, forget, number, Nat.reduceBEq, cut?, splice?, builds, List.length_cons, List.length_nil, List.drop_succ_cons, List.drop_zero, List.take_succ_cons, List.take_zero, List.cons_append, List.nil_append, List.append_nil, List.drop_nil, List.take_nil, Nat.reduceAdd, Nat.reduceLeDiff, Nat.zero_add, Nat.add_zero, ↓reduceIte, Bool.not_true, Bool.not_false, decide_true, decide_false, eq_self, bne_self_eq_false, List.getElem?_cons_zero, List.getElem?_cons_succ, decide_eq_true_eq, Bool.false_eq_true, Bool.true_eq_false, reduceCtorEq, Nat.le_refl, w.len, hlt, k1]
    · simp only [show ((0 : Nat) : Int) = 0 from rfl] at k2
      rw [k2]
      simp only [run0, run1, run2, run3, run4, noSlot, ownS, ownK, memN, RO.dst, lk, drop, forget, number, Nat.reduceBEq, cut?, splice?, builds, List.length_cons, List.length_nil, List.drop_succ_cons, List.drop_zero, List.take_succ_cons, List.take_zero, List.cons_append, List.nil_append, List.append_nil, List.drop_nil, List.take_nil, Nat.reduceAdd, Nat.reduceLeDiff, Nat.zero_add, Nat.add_zero, ↓reduceIte, Bool.not_true, Bool.not_false, decide_true, decide_false, eq_self, bne_self_eq_false, List.getElem?_cons_zero, List.getElem?_cons_succ, decide_eq_true_eq, Bool.false_eq_true, Bool.true_eq_false, reduceCtorEq, Nat.le_refl, k3, k4, k1]
/-- What is written to mark one. -/
def int_mk (k : Int) : Int := k
def int_marks (n : Nat) (k : Int) : List Int := (List.range n).map fun i : Nat => int_mk (k + 1 * (i : Int))
theorem int_marks_len (n : Nat) (k : Int) : (int_marks n k).length = n := by simp [int_marks]
set_option maxHeartbeats 1000000 in
theorem markIntS_run (hL : Has F tLInt) (w : SlR 15 (Fl int_enc) h x xs fp) (hlo : ∀ id, id ∈ fp → h.floor ≤ id) (k : Int) (h1 : 0 ≤ k) (h2 : k + 1 * xs.length ≤ 9200000000000000000) :
    ∃ h', call F Z 287 [.c x, .c (.int .i64 k)] h = some (.c (.int .i64 (k + 1 * xs.length)), h') ∧ Mk h h' fp ∧ SlR 15 (Fl int_enc) h' x (int_marks xs.length k) fp := by
  have hle := w.le2
  have hlm := int_marks_len xs.length k
  rw [call_run F Z (hL.lk (g := 287) rfl) _ _ rfl]
  simp only [run0, run1, run2, run3, run4, noSlot, ownS, ownK, memN, RO.dst, lk, drop, forget, number, Nat.reduceBEq, cut?, splice?, builds, List.length_cons, List.length_nil, List.drop_succ_cons, List.drop_zero, List.take_succ_cons, List.take_zero, List.cons_append, List.nil_append, List.append_nil, List.drop_nil, List.take_nil, Nat.reduceAdd, Nat.reduceLeDiff, Nat.zero_add, Nat.add_zero, ↓reduceIte, Bool.not_true, Bool.not_false, decide_true, decide_false, eq_self, bne_self_eq_false, List.getElem?_cons_zero, List.getElem?_cons_succ, decide_eq_true_eq, Bool.false_eq_true, Bool.true_eq_false, reduceCtorEq, Nat.le_refl]
  rcases w.flat with ⟨rfl, rfl, rfl⟩ | ⟨hx, hg, hn, rfl⟩
  · rw [loop_run]
    simp only [r287L0, run0, run1, run2, run3, run4, noSlot, ownS, ownK, memN, RO.dst, lk, drop, forget, number, Nat.reduceBEq, cut?, splice?, builds, List.length_cons, List.length_nil, List.drop_succ_cons, List.drop_zero, List.take_succ_cons, List.take_zero, List.cons_append, List.nil_append, List.append_nil, List.drop_nil, List.take_nil, Nat.reduceAdd, Nat.reduceLeDiff, Nat.zero_add, Nat.add_zero, ↓reduceIte, Bool.not_true, Bool.not_false, decide_true, decide_false, eq_self, bne_self_eq_false, List.getElem?_cons_zero, List.getElem?_cons_succ, decide_eq_true_eq, Bool.false_eq_true, Bool.true_eq_false, reduceCtorEq, Nat.le_refl, show ¬ ((0 : Int) < 0) from by omega]
    exact ⟨h, by simp, Mk.refl _ _, by simpa [int_marks] using w⟩
  · have hfl : h.floor ≤ x.sid := hlo _ (by simp)
    have key : loop F Z [0, 1, 5] r287L0 ⟨[(0, .c x), (1, .c (.int .i64 (k + 1 * (0 : Nat)))), (5, .c (.int .i64 (0 : Nat)))], [], [], h.put x.sid (mixR int_enc (int_marks xs.length k) xs 0)⟩ = loop F Z [0, 1, 5] r287L0 ⟨[(0, .c x), (1, .c (.int .i64 (k + 1 * (xs.length : Nat)))), (5, .c (.int .i64 (xs.length : Nat)))], [], [], h.put x.sid (mixR int_enc (int_marks xs.length k) xs xs.length)⟩ :=
      loop_goesF xs.length (fun i => ⟨[(0, .c x), (1, .c (.int .i64 (k + 1 * (i : Nat)))), (5, .c (.int .i64 (i : Nat)))], [], [], h.put x.sid (mixR int_enc (int_marks xs.length k) xs i)⟩) fun i hi => by
        have hlt : (i : Int) < xs.length := by omega
        have hi2 : i < (mixR int_enc (int_marks xs.length k) xs i).length := by rw [mixR_len _ hlm]; exact hi
        have hms : (int_marks xs.length k)[i]'(by omega) = int_mk (k + 1 * i) := by simp [int_marks]
        have hset := mixR_set int_enc hlm hi
        rw [hms] at hset
        have hput := storeP_put (h := h) hfl hi2
        rw [← mixR_cur int_enc hlm hi, ← hset, loop_run]
        simp (disch := omega) only [r287L0, run0, run1, run2, run3, run4, noSlot, ownS, ownK, memN, RO.dst, lk, drop, forget, number, Nat.reduceBEq, cut?, splice?, builds, List.length_cons, List.length_nil, List.drop_succ_cons, List.drop_zero, List.take_succ_cons, List.take_zero, List.cons_append, List.nil_append, List.append_nil, List.drop_nil, List.take_nil, Nat.reduceAdd, Nat.reduceLeDiff, Nat.zero_add, Nat.add_zero, ↓reduceIte, Bool.not_true, Bool.not_false, decide_true, decide_false, eq_self, bne_self_eq_false, List.getElem?_cons_zero, List.getElem?_cons_succ, decide_eq_true_eq, Bool.false_eq_true, Bool.true_eq_false, reduceCtorEq, Nat.le_refl, w.len, hlt, w.idx hi, hput, putM_s, wrapI1, wrapU1, int_enc, b_rem, beq_self_eq_true, Int.reduceEq, int_mk]
        rw [show k + 1 * ((i : Nat) : Int) + 1 = k + 1 * ((i + 1 : Nat) : Int) from by omega, show ((i : Nat) : Int) + 1 = ((i + 1 : Nat) : Int) from rfl]
    rw [mixR_0, put_same hg, mixR_n _ hlm] at key
    simp only [show ((0 : Nat) : Int) = 0 from rfl, Int.mul_zero, Int.add_zero] at key
    rw [key, loop_run]
    have hlt : ¬ (xs.length : Int) < xs.length := by omega
    simp only [r287L0, run0, run1, run2, run3, run4, noSlot, ownS, ownK, memN, RO.dst, lk, drop, forget, number, Nat.reduceBEq, cut?, splice?, builds, List.length_cons, List.length_nil, List.drop_succ_cons, List.drop_zero, List.take_succ_cons, List.take_zero, List.cons_append, List.nil_append, List.append_nil, List.drop_nil, List.take_nil, Nat.reduceAdd, Nat.reduceLeDiff, Nat.zero_add, Nat.add_zero, ↓reduceIte, Bool.not_true, Bool.not_false, decide_true, decide_false, eq_self, bne_self_eq_false, List.getElem?_cons_zero, List.getElem?_cons_succ, decide_eq_true_eq, Bool.false_eq_true, Bool.true_eq_false, reduceCtorEq, Nat.le_refl, w.len, hlt]
    refine ⟨_, rfl, Mk.put _ _ _, ?_⟩
    have := SlR.ofFlat (tag := 15) (h := h.put x.sid ((int_marks xs.length k).map int_enc)) (enc := int_enc) (xs := int_marks xs.length k) (id := x.sid) (by rw [hlm]; exact w.le) (by simp [Heap.put]) hn
    rw [hlm, ← hx] at this
    exact this
set_option maxHeartbeats 1000000 in
theorem heldIntS_run (hL : Has F tLInt) {n : Nat} {k : Int} (w : SlR 15 (Fl int_enc) h x (int_marks n k) fp) (h1 : 0 ≤ k) (h2 : k + 1 * n ≤ 9200000000000000000) :
    call F Z 288 [.c x, .c (.int .i64 k)] h = some (.c (.int .i64 (k + 1 * n)), h) := by
  have hle := w.le2
  have hwl := w.len
  rw [int_marks_len] at hle hwl
  rw [call_run F Z (hL.lk (g := 288) rfl) _ _ rfl]
  simp only [run0, run1, run2, run3, run4, noSlot, ownS, ownK, memN, RO.dst, lk, drop, forget, number, Nat.reduceBEq, cut?, splice?, builds, List.length_cons, List.length_nil, List.drop_succ_cons, List.drop_zero, List.take_succ_cons, List.take_zero, List.cons_append, List.nil_append, List.append_nil, List.drop_nil, List.take_nil, Nat.reduceAdd, Nat.reduceLeDiff, Nat.zero_add, Nat.add_zero, ↓reduceIte, Bool.not_true, Bool.not_false, decide_true, decide_false, eq_self, bne_self_eq_false, List.getElem?_cons_zero, List.getElem?_cons_succ, decide_eq_true_eq, Bool.false_eq_true, Bool.true_eq_false, reduceCtorEq, Nat.le_refl]
  have key : loop F Z [0, 1, 5] r288L0 ⟨[(0, .c x), (1, .c (.int .i64 (k + 1 * (0 : Nat)))), (5, .c (.int .i64 (0 : Nat)))], [], [], h⟩ = loop F Z [0, 1, 5] r288L0 ⟨[(0, .c x), (1, .c (.int .i64 (k + 1 * (n : Nat)))), (5, .c (.int .i64 (n : Nat)))], [], [], h⟩ :=
    loop_goesF n (fun i => ⟨[(0, .c x), (1, .c (.int .i64 (k + 1 * (i : Nat)))), (5, .c (.int .i64 (i : Nat)))], [], [], h⟩) fun i hi0 => by
      have hi : i < (int_marks n k).length := by rw [int_marks_len]; exact hi0
      have hlt : (i : Int) < n := by omega
      have hms : (int_marks n k)[i] = int_mk (k + 1 * i) := by simp [int_marks]
      have hld := w.load hi
      rw [hms] at hld
      rw [loop_run]
      simp (disch := omega) only [r288L0, run0, run1, run2, run3, run4, noSlot, ownS, ownK, memN, RO.dst, lk, drop, forget, number, Nat.reduceBEq, cut?, splice?, builds, List.length_cons, List.length_nil, List.drop_succ_cons, List.drop_zero, List.take_succ_cons, List.take_zero, List.cons_append, List.nil_append, List.append_nil, List.drop_nil, List.take_nil, Nat.reduceAdd, Nat.reduceLeDiff, Nat.zero_add, Nat.add_zero, ↓reduceIte, Bool.not_true, Bool.not_false, decide_true, decide_false, eq_self, bne_self_eq_false, List.getElem?_cons_zero, List.getElem?_cons_succ, decide_eq_true_eq, Bool.false_eq_true, Bool.true_eq_false, reduceCtorEq, Nat.le_refl, hwl, hlt, w.idx hi, hld, wrapI1, wrapU1, int_enc, b_rem, beq_self_eq_true, int_mk, Int.reduceEq]
      rw [show k + 1 * ((i : Nat) : Int) + 1 = k + 1 * ((i + 1 : Nat) : Int) from by omega, show ((i : Nat) : Int) + 1 = ((i + 1 : Nat) : Int) from rfl]
  simp only [show ((0 : Nat) : Int) = 0 from rfl, Int.mul_zero, Int.add_zero] at key
  rw [key, loop_run]
  have hlt : ¬ (n : Int) < n := by omega
  simp only [r288L0, run0, run1, run2, run3, run4, noSlot, ownS, ownK, memN, RO.dst, lk, drop, forget, number, Nat.reduceBEq, cut?, splice?, builds, List.length_cons, List.length_nil, List.drop_succ_cons, List.drop_zero, List.take_succ_cons, List.take_zero, List.cons_append, List.nil_append, List.append_nil, List.drop_nil, List.take_nil, Nat.reduceAdd, Nat.reduceLeDiff, Nat.zero_add, Nat.add_zero, ↓reduceIte, Bool.not_true, Bool.not_false, decide_true, decide_false, eq_self, bne_self_eq_false, List.getElem?_cons_zero, List.getElem?_cons_succ, decide_eq_true_eq, Bool.false_eq_true, Bool.true_eq_false, reduceCtorEq, Nat.le_refl, hwl, hlt]
end
end Go.Proofs.Ytlbagejkjkfkjaa.A
/- Rows of data with memory of their own: read, and filled one by one. -/
namespace Go.Proofs.Ytlbagejkjkfkjaa.A
open Go
set_option linter.unusedSimpArgs false
set_option linter.unusedVariables false
section
variable {α : Type} {R : Rel α} {tag : Nat} {h : Heap} {x : Cell} {xs : List α} {fp : List Nat}
/-- One row of a slice. -/
theorem SlR.one (w : SlR tag R h x xs fp) {i : Nat} (hi : i < xs.length) : ∃ r f, (∀ j n, loadP h x.sid i j n = cut? r j n) ∧ R h r xs[i] f ∧ ∀ id, id ∈ f → id ∈ fp := by
  obtain ⟨r, f, h1, h2, h3⟩ := w.row hi
  exact ⟨r, f, fun j n => by simp [loadP, h1], h2, h3⟩
/-- Rows of which the first are filled. -/
structure Filled (R : Rel α) (h0 g : Heap) (o : Nat) (z : List Cell) (xs : List α) (i : Nat) (rows : List (List Cell)) (fps : List (List Nat)) : Prop where
  on : On h0 g
  ge : h0.next ≤ o
  lt : o < g.next
  get : g.get o = some rows
  len : rows.length = xs.length
  rel : AllR R g (rows.take i) (xs.take i) fps
  rest : ∀ j, i ≤ j → j < xs.length → rows[j]? = some z
  nd : fps.flatten.Nodup
  out : ∀ id, id ∈ fps.flatten → o < id
theorem AllR.snoc {h : Heap} : ∀ {rows : List (List Cell)} {xs : List α} {fps : List (List Nat)}, AllR R h rows xs fps → ∀ {r a f}, R h r a f → AllR R h (rows ++ [r]) (xs ++ [a]) (fps ++ [f])
  | [], [], [], _ => fun w => ⟨w, trivial⟩
  | _ :: _, _ :: _, _ :: _, ⟨w1, w⟩ => fun w2 => ⟨w1, w.snoc w2⟩
  | [], [], _ :: _, w => w.elim
  | [], _ :: _, _, w => w.elim
  | _ :: _, [], _, w => w.elim
  | _ :: _, _ :: _, [], w => w.elim
theorem Filled.start (h : Heap) (z : List Cell) (xs : List α) : Filled R h (h.push (List.replicate xs.length z)) h.next z xs 0 (List.replicate xs.length z) [] where
  on := On.push _ _
  ge := Nat.le_refl _
  lt := by rw [push_next]; omega
  get := push_get _ _
  len := by simp
  rel := trivial
  rest := fun j _ hj => by rw [List.getElem?_replicate, if_pos hj]
  nd := List.nodup_nil
  out := fun id hid => by simp at hid
/-- One more row. -/
theorem Filled.step (ok : RelOk R) {h0 g g' : Heap} {o : Nat} {z : List Cell} {i : Nat} {rows : List (List Cell)} {fps : List (List Nat)} (w : Filled R h0 g o z xs i rows fps) (hf : h0.floor ≤ h0.next) (hi : i < xs.length)
    {cs : List Cell} {fq : List Nat} (hz : cs.length = z.length) (o' : On g g') (v : R g' cs xs[i] fq) (f : Fre g fq) :
    storeP g' o i 0 cs = some (g'.put o (rows.set i cs)) ∧ Filled R h0 (g'.put o (rows.set i cs)) o z xs (i + 1) (rows.set i cs) (fps ++ [fq]) := by
  have hget : g'.get o = some rows := by rw [o'.ext.2 o w.lt]; exact w.get
  have hri : rows[i]? = some z := w.rest i (Nat.le_refl _) hi
  have hfl : g'.floor ≤ o := by rw [o'.fl, w.on.fl]; exact Nat.le_trans hf w.ge
  have hlen : i < rows.length := by rw [w.len]; exact hi
  have hput : ∀ id, id ≠ o → (g'.put o (rows.set i cs)).get id = g'.get id := fun id hid => by simp only [Heap.put]; rw [if_neg hid]
  have hin : ∀ id, id ∈ fps.flatten → id < g.next := by
    intro id hid
    exact w.rel.lt ok id hid
  refine ⟨?_, ?_⟩
  · refine storeP_at hfl hget hri ?_
    rw [splice?, if_pos (by omega)]
    simp [← hz]
  · refine ⟨⟨⟨Nat.le_trans w.on.ext.1 o'.ext.1, fun id hid => ?_⟩, o'.fl.trans w.on.fl⟩, w.ge, Nat.lt_of_lt_of_le w.lt o'.ext.1, by simp [Heap.put], by simp [w.len], ?_, fun j h1 h2 => ?_, ?_, fun id hid => ?_⟩
    · have := w.ge
      rw [hput id (by omega), o'.ext.2 id (Nat.lt_of_lt_of_le hid w.on.ext.1)]
      exact w.on.ext.2 id hid
    · have e1 : (rows.set i cs).take (i + 1) = rows.take i ++ [cs] := by
        rw [List.take_add_one, List.getElem?_set_self hlen]
        rw [List.take_set, List.set_eq_of_length_le (by simp; omega)]
        rfl
      have e2 : xs.take (i + 1) = xs.take i ++ [xs[i]] := by rw [List.take_add_one, List.getElem?_eq_getElem hi]; rfl
      rw [e1, e2]
      have v' : R (g'.put o (rows.set i cs)) cs xs[i] fq := ok.mv v (Nat.le_refl _) fun id hid => hput id (by have := f.lo id hid; have := w.lt; omega)
      refine AllR.snoc (w.rel.mv (h' := g'.put o (rows.set i cs)) ok o'.ext.1 fun id hid => ?_) v'
      rw [hput id (by have := w.out id hid; omega)]
      exact o'.ext.2 id (hin id hid)
    · rw [List.getElem?_set_ne (by omega)]
      exact w.rest j (by omega) h2
    · rw [List.flatten_append]
      simp only [List.flatten_cons, List.flatten_nil, List.append_nil]
      exact List.nodup_append.2 ⟨w.nd, f.nd, fun a ha b hb => by have := hin a ha; have := f.lo b hb; omega⟩
    · rw [List.flatten_append] at hid
      simp only [List.flatten_cons, List.flatten_nil, List.append_nil] at hid
      rcases List.mem_append.1 hid with hid | hid
      · exact w.out id hid
      · have := f.lo id hid
        have := w.lt
        omega
theorem Filled.all {h0 g : Heap} {o : Nat} {z : List Cell} {rows : List (List Cell)} {fps : List (List Nat)} (w : Filled R h0 g o z xs xs.length rows fps) (hl : xs.length ≤ 1048576) (tag : Nat) :
    On h0 g ∧ SlR tag R g (.sl tag o 0 xs.length) xs (o :: fps.flatten) ∧ Fre h0 (o :: fps.flatten) := by
  have hr := w.rel
  rw [List.take_length, ← w.len, List.take_length] at hr
  refine ⟨w.on, ⟨by unfold maxLen; omega, .inr ⟨o, rows, fps, rfl, w.get, w.lt, rfl, hr⟩⟩, ⟨fun id hid => ?_, ?_⟩⟩
  · have := w.ge
    rcases List.mem_cons.1 hid with rfl | hid
    · omega
    · have := w.out id hid; omega
  · exact List.nodup_cons.2 ⟨fun hc => by have := w.out o hc; omega, w.nd⟩
end
end Go.Proofs.Ytlbagejkjkfkjaa.A
/- Loops behind which the heap goes on. -/
namespace Go.Proofs.Ytlbagejkjkfkjaa.A
open Go
set_option linter.unusedSimpArgs false
set_option linter.unusedVariables false
/-- One turn goes on with a heap that goes on, or returns. -/
def TurnO (r : Option (Ex × St)) (next : Heap → Option (Ex × St)) (g : Heap) (p : Bool) (Q : St → Prop) : Prop :=
  (p = true ∧ ∃ g', On g g' ∧ r = next g') ∨ (p = false ∧ ∃ s', r = some (.ret, s') ∧ On g s'.hp ∧ Q s')
section
variable {F : Nat → Option RF} {Z : CallF} {live : List Nat} {b : RC}
theorem loop_on (n : Nat) (st : Nat → Heap → St) (h : Heap) (P : Nat → Bool) (Q : St → Prop)
    (hs : ∀ i g, i < n → On h g → TurnO (loop F Z live b (st i g)) (fun g' => loop F Z live b (st (i + 1) g')) g (P i) Q) :
    TurnO (loop F Z live b (st 0 h)) (fun g' => loop F Z live b (st n g')) h ((List.range n).all P) Q := by
  induction n with
  | zero => exact .inl ⟨rfl, h, On.refl h, rfl⟩
  | succ n ih =>
    have hl : (List.range (n + 1)).all P = ((List.range n).all P && P n) := by rw [List.range_succ, List.all_append]; simp
    rcases ih fun i g hi => hs i g (by omega) with ⟨h1, g1, o1, e1⟩ | ⟨h1, s', e1, o1, q1⟩
    · rcases hs n g1 (by omega) o1 with ⟨h3, g2, o2, e2⟩ | ⟨h3, s', e2, o2, q2⟩
      · exact .inl ⟨by rw [hl, h1, h3]; rfl, g2, o1.trans o2, e1.trans e2⟩
      · exact .inr ⟨by rw [hl, h1, h3]; rfl, s', e1.trans e2, o1.trans o2, q2⟩
    · exact .inr ⟨by rw [hl, h1]; rfl, s', e1, o1, q1⟩
end
theorem On.mkup {h h' : Heap} (o : On ⟨h.next, h.next, h.get⟩ h') : On h ⟨h'.next, h.floor, h'.get⟩ := ⟨⟨o.ext.1, o.ext.2⟩, rfl⟩
end Go.Proofs.Ytlbagejkjkfkjaa.A
/- Slices of data with memory: built by appending, and with one row turned. -/
namespace Go.Proofs.Ytlbagejkjkfkjaa.A
open Go
set_option linter.unusedSimpArgs false
set_option linter.unusedVariables false
theorem push_ne {h : Heap} (r : List (List Cell)) {id : Nat} (hid : id ≠ h.next) : (h.push r).get id = h.get id := by simp only [Heap.push]; rw [if_neg hid]
theorem kill_ne {h : Heap} {k id : Nat} (hid : id ≠ k) : (h.kill k).get id = h.get id := by simp only [Heap.kill]; rw [if_neg hid]
theorem put_ne {h : Heap} {k id : Nat} (r : List (List Cell)) (hid : id ≠ k) : (h.put k r).get id = h.get id := by simp only [Heap.put]; rw [if_neg hid]
theorem kill_next (h : Heap) (k : Nat) : (h.kill k).next = h.next := rfl
/-- A cell shows data that was made behind h0. -/
structure AccM {α : Type} (R : Rel α) (tag : Nat) (h0 h : Heap) (x : Cell) (xs : List α) (fp : List Nat) : Prop where
  on : On h0 h
  sh : SlR tag R h x xs fp
  fr : Fre h0 fp
section
variable {α : Type} {R : Rel α} {tag : Nat} {h0 h g : Heap} {x : Cell} {xs : List α} {fp fq : List Nat}
theorem AccM.nil (R : Rel α) (tag : Nat) (h : Heap) : AccM R tag h h .nil [] [] := ⟨On.refl h, SlR.nil _ _ _, Fre.nil h⟩
theorem AccM.none (R : Rel α) (tag : Nat) (o : On h0 h) : AccM R tag h0 h .nil [] [] := ⟨o, SlR.nil _ _ _, Fre.nil h0⟩
theorem AccM.lit0 (R : Rel α) (tag : Nat) (o : On h0 h) : AccM R tag h0 (h.push []) (.sl tag h.next 0 0) [] [h.next] :=
  ⟨o.trans (On.push h []), ⟨by simp, .inr ⟨h.next, [], [], rfl, push_get _ _, by rw [push_next]; omega, rfl, trivial⟩⟩, Fre.at o.ext.1⟩
theorem AccM.go (a : AccM R tag h0 h x xs fp) (ok : RelOk R) (o : On h g) : AccM R tag h0 g x xs fp := ⟨a.on.trans o, a.sh.on ok o, a.fr⟩
theorem Fre.gt (f : Fre h0 fp) : ∀ id, id < h0.next → id ∉ fp := fun id h1 h2 => by have := f.lo id h2; omega
theorem Fre.sep {p q : List Nat} (f : Fre h0 p) (hp : ∀ id, id ∈ p → id < h.next) (g : Fre h q) : ∀ id, id ∈ q → id ∉ p := fun id h1 h2 => by
  have := hp id h2
  have := g.lo id h1
  omega
theorem flat_snoc {fps : List (List Nat)} {fq : List Nat} : (fps ++ [fq]).flatten = fps.flatten ++ fq := by simp
/-- One more element. -/
theorem AccM.one (ok : RelOk R) (a : AccM R tag h0 h x xs fp) (hf : h0.floor ≤ h0.next) {bytes : Nat} (hb : (xs.length + 1) * bytes ≤ 140737488355328) (hl : xs.length + 1 ≤ 140737488355328)
    (o : On h g) {cs : List Cell} {t : α} (v : R g cs t fq) (f : Fre h0 fq) (d : ∀ id, id ∈ fq → id ∉ fp) :
    ∃ y' g' fp', appF (g.push [cs]) tag bytes x (.sl tag g.next 0 1) = some (y', g') ∧ AccM R tag h0 g' y' (xs ++ [t]) fp' ∧ h.next ≤ g'.next ∧ (∀ id, id ∈ fp' → id ∈ fp ∨ id ∈ fq ∨ g.next ≤ id) ∧ (∀ id, id < g.next → id ∉ fp → g'.get id = g.get id) := by
  have on' := a.on.trans o
  have hlt : ∀ id, id ∈ fq → id < g.next := ok.lt v
  have hp1 : ∀ id, id < g.next → (g.push [cs]).get id = g.get id := fun id hid => by simp only [Heap.push]; rw [if_neg (by omega)]
  have hn := o.ext.1
  rcases a.sh with ⟨_, ⟨rfl, rfl, rfl⟩ | ⟨id, rows, fps, rfl, q1, q2, rfl, q3⟩⟩
  · refine ⟨.sl tag (g.next + 1) 0 1, (g.push [cs]).push [cs], (g.next + 1) :: ([fq] : List (List Nat)).flatten, ?_, ⟨on'.trans ((On.push _ _).trans (On.push _ _)), ⟨by simp [maxLen], .inr ⟨g.next + 1, [cs], [fq], rfl, ?_, ?_, rfl, ?_⟩⟩, ⟨?_, ?_⟩⟩, ?_, ?_, ?_⟩
    · simp only [List.length_nil, Nat.zero_add] at hb
      simp only [appF, isTag, beq_self_eq_true, ↓reduceIte, rowsOf, push_get, Option.bind_some, List.length_singleton, Nat.zero_add, Nat.le_refl, List.drop_zero, List.take_one, List.head?_cons, Option.toList_some]
      rw [if_neg (by omega), if_pos (by omega)]; rfl
    · exact push_get _ _
    · simp only [push_next]; omega
    · refine ⟨ok.mv v (by simp only [push_next]; omega) fun id hid => ?_, trivial⟩
      have := hlt id hid
      rw [push_ne _ (by rw [push_next]; omega), push_ne _ (by omega)]
    · intro id hid
      simp only [List.flatten_cons, List.flatten_nil, List.append_nil, List.mem_cons] at hid
      rcases hid with rfl | hid
      · have := on'.ext.1; omega
      · exact f.lo id hid
    · simp only [List.flatten_cons, List.flatten_nil, List.append_nil, List.nodup_cons]
      exact ⟨fun hc => by have := hlt _ hc; omega, f.nd⟩
    · simp only [push_next]; omega
    · intro id hid
      simp only [List.flatten_cons, List.flatten_nil, List.append_nil, List.mem_cons] at hid
      rcases hid with rfl | hid
      · exact .inr (.inr (by omega))
      · exact .inr (.inl hid)
    · intro id h1 _
      rw [push_ne _ (by rw [push_next]; omega), push_ne _ (by omega)]
  · have hlo : h0.next ≤ id := a.fr.lo id (by simp)
    have hnd := List.nodup_cons.1 a.fr.nd
    have hrl := q3.len
    have hg : (g.push [cs]).get id = some rows := by rw [hp1 id (by omega), o.ext.2 id q2, q1]
    have hfl : g.floor ≤ id := by rw [on'.fl]; omega
    have hin : ∀ j, j ∈ fps.flatten → j < h.next := q3.lt ok
    have hgt : ∀ j, j < g.next → j ≠ id → (((g.push [cs]).kill id).push (rows ++ [cs])).get j = g.get j := fun j h1 h2 => by
      rw [push_ne _ (by rw [kill_next, push_next]; omega), kill_ne h2, push_ne _ (by omega)]
    refine ⟨.sl tag (g.next + 1) 0 (xs.length + 1), ((g.push [cs]).kill id).push (rows ++ [cs]), (g.next + 1) :: (fps ++ [fq]).flatten, ?_, ⟨⟨⟨?_, ?_⟩, ?_⟩, ⟨by simp [maxLen]; omega, .inr ⟨g.next + 1, rows ++ [cs], fps ++ [fq], by simp, ?_, ?_, rfl, ?_⟩⟩, ⟨?_, ?_⟩⟩, ?_, ?_, ?_⟩
    · simp only [appF, isTag, beq_self_eq_true, ↓reduceIte, rowsOf, push_get, Option.bind_some, List.length_singleton, Nat.zero_add, Nat.le_refl, List.drop_zero, List.take_one, List.head?_cons, Option.toList_some, hg]
      simp only [hrl, push_floor, hfl, hb, and_self, ↓reduceIte]; rfl
    · have := on'.ext.1
      simp only [Heap.push, Heap.kill]; omega
    · intro j hj
      have := on'.ext.1
      rw [hgt j (by omega) (by omega)]
      exact on'.ext.2 j hj
    · exact on'.fl
    · simp [Heap.push, Heap.kill]
    · simp only [Heap.push, Heap.kill]; omega
    · refine AllR.snoc (q3.mv (h' := ((g.push [cs]).kill id).push (rows ++ [cs])) ok (by simp only [Heap.push, Heap.kill]; omega) fun j hj => ?_) (ok.mv v (by simp only [Heap.push, Heap.kill]; omega) fun j hj => ?_)
      · have h1 := hin j hj
        rw [hgt j (by omega) (fun e => hnd.1 (e ▸ hj))]
        exact o.ext.2 j h1
      · exact hgt j (hlt j hj) fun e => d j hj (by rw [e]; simp)
    · intro j hj
      rw [flat_snoc] at hj
      rcases List.mem_cons.1 hj with rfl | hj
      · have := on'.ext.1; omega
      · rcases List.mem_append.1 hj with hj | hj
        · exact a.fr.lo j (by simp [hj])
        · exact f.lo j hj
    · rw [flat_snoc, List.nodup_cons]
      refine ⟨fun hc => ?_, List.nodup_append.2 ⟨hnd.2, f.nd, fun p hp q hq e => d q hq (by rw [← e]; simp [hp])⟩⟩
      rcases List.mem_append.1 hc with hc | hc
      · have := hin _ hc; omega
      · have := hlt _ hc; omega
    · simp only [Heap.push, Heap.kill]; omega
    · intro j hj
      rw [flat_snoc] at hj
      rcases List.mem_cons.1 hj with rfl | hj
      · exact .inr (.inr (by omega))
      · rcases List.mem_append.1 hj with hj | hj
        · exact .inl (by simp [hj])
        · exact .inr (.inl hj)
    · intro j h1 h2
      exact hgt j h1 fun e => h2 (by rw [e]; simp)
end
end Go.Proofs.Ytlbagejkjkfkjaa.A
/- One row of data with memory is turned in place. -/
namespace Go.Proofs.Ytlbagejkjkfkjaa.A
open Go
set_option linter.unusedSimpArgs false
set_option linter.unusedVariables false
theorem flat_set_mem {fq : List Nat} {id : Nat} : ∀ (fps : List (List Nat)) (i : Nat), id ∈ (fps.set i fq).flatten → id ∈ fps.flatten ∨ id ∈ fq
  | [], i, h => by simp at h
  | f :: r, 0, h => by
    simp only [List.set_cons_zero, List.flatten_cons, List.mem_append] at h ⊢
    rcases h with h | h
    · exact .inr h
    · exact .inl (.inr h)
  | f :: r, i + 1, h => by
    simp only [List.set_cons_succ, List.flatten_cons, List.mem_append] at h ⊢
    rcases h with h | h
    · exact .inl (.inl h)
    · rcases flat_set_mem r i h with h | h
      · exact .inl (.inr h)
      · exact .inr h
theorem flat_set_nodup {fq : List Nat} (nq : fq.Nodup) : ∀ (fps : List (List Nat)) (i : Nat) (f : List Nat), fps[i]? = some f → fps.flatten.Nodup → (∀ id, id ∈ fq → id ∈ f ∨ id ∉ fps.flatten) → (fps.set i fq).flatten.Nodup
  | [], i, f, h, _, _ => by simp at h
  | g :: r, 0, f, h, nd, hd => by
    simp only [List.getElem?_cons_zero, Option.some.injEq] at h
    subst h
    simp only [List.set_cons_zero, List.flatten_cons] at nd ⊢
    obtain ⟨n1, n2, n3⟩ := List.nodup_append.1 nd
    refine List.nodup_append.2 ⟨nq, n2, fun a ha b hb e => ?_⟩
    subst e
    rcases hd a ha with h | h
    · exact n3 a h a hb rfl
    · exact h (by rw [List.flatten_cons, List.mem_append]; exact .inr hb)
  | g :: r, i + 1, f, h, nd, hd => by
    simp only [List.getElem?_cons_succ] at h
    simp only [List.set_cons_succ, List.flatten_cons] at nd ⊢
    obtain ⟨n1, n2, n3⟩ := List.nodup_append.1 nd
    refine List.nodup_append.2 ⟨n1, flat_set_nodup nq r i f h n2 fun id hid => ?_, fun a ha b hb e => ?_⟩
    · rcases hd id hid with h | h
      · exact .inl h
      · exact .inr fun hc => h (by rw [List.flatten_cons, List.mem_append]; exact .inr hc)
    · subst e
      rcases flat_set_mem r i hb with hb | hb
      · exact n3 a ha a hb rfl
      · rcases hd a hb with h' | h'
        · exact n3 a ha a (List.mem_flatten.2 ⟨f, List.mem_of_getElem? h, h'⟩) rfl
        · exact h' (by rw [List.flatten_cons, List.mem_append]; exact .inl ha)
section
variable {α : Type} {R : Rel α} {tag : Nat} {h0 h g : Heap} {x : Cell} {xs : List α} {fp fq : List Nat}
theorem AllR.set {r : List Cell} {t : α} (w1 : R h r t fq) : ∀ {rows : List (List Cell)} {xs : List α} {fps : List (List Nat)}, AllR R h rows xs fps → ∀ (i : Nat), AllR R h (rows.set i r) (xs.set i t) (fps.set i fq)
  | [], [], [], _, _ => trivial
  | _ :: _, _ :: _, _ :: _, ⟨_, w⟩, 0 => ⟨w1, w⟩
  | _ :: _, _ :: _, _ :: _, ⟨w0, w⟩, i + 1 => ⟨w0, AllR.set w1 w i⟩
  | [], [], _ :: _, w, _ => w.elim
  | [], _ :: _, _, w, _ => w.elim
  | _ :: _, [], _, w, _ => w.elim
  | _ :: _, _ :: _, [], w, _ => w.elim
/-- One row, and what a store into it leaves. -/
theorem SlR.setRow (ok : RelOk R) (w : SlR tag R h x xs fp) (nd : fp.Nodup) (hfl : ∀ id, id ∈ fp → h.floor ≤ id) {i : Nat} (hi : i < xs.length) :
    ∃ r f, ∃ rows : List (List Cell), R h r xs[i] f ∧ (∀ id, id ∈ f → id ∈ fp) ∧ f.Nodup ∧ x.sid ∈ fp ∧ x.sid ∉ f ∧ (∀ j n, loadP h x.sid i j n = cut? r j n) ∧ (∀ j new r', splice? r j new = some r' → storeP h x.sid i j new = some (h.put x.sid (rows.set i r'))) ∧
      ∀ r' t' fq, R h r' t' fq → fq.Nodup → (∀ id, id ∈ fq → id ∈ f ∨ id ∉ fp) → ∃ fp', SlR tag R (h.put x.sid (rows.set i r')) x (xs.set i t') fp' ∧ fp'.Nodup ∧ ∀ id, id ∈ fp' → id ∈ fp ∨ id ∈ fq := by
  rcases w with ⟨hl, ⟨rfl, rfl, rfl⟩ | ⟨id, rows, fps, rfl, q1, q2, rfl, q3⟩⟩
  · exact absurd hi (Nat.not_lt_zero _)
  obtain ⟨r, f, e1, e2, v⟩ := q3.at i hi
  have hn := List.nodup_cons.1 nd
  have hin : ∀ j, j ∈ f → j ∈ fps.flatten := fun j hj => List.mem_flatten.2 ⟨f, List.mem_of_getElem? e2, hj⟩
  have hfn : f.Nodup := by
    have : ∀ (fps : List (List Nat)) (i : Nat), fps[i]? = some f → fps.flatten.Nodup → f.Nodup := by
      intro fps
      induction fps with
      | nil => intro i h _; simp at h
      | cons g r ih =>
        intro i h nd
        rw [List.flatten_cons] at nd
        obtain ⟨n1, n2, _⟩ := List.nodup_append.1 nd
        cases i with
        | zero => simp only [List.getElem?_cons_zero, Option.some.injEq] at h; exact h ▸ n1
        | succ i => exact ih i (by simpa using h) n2
    exact this fps i e2 hn.2
  refine ⟨r, f, rows, v, fun j hj => List.mem_cons_of_mem _ (hin j hj), hfn, by simp [Cell.sid], fun hc => hn.1 (hin _ hc), fun j n => by simp [loadP, rowOf, Cell.sid, q1, e1], fun j new r' hs => ?_, fun r' t' fq v' nq hd => ?_⟩
  · exact storeP_at (hfl _ (by simp [Cell.sid])) q1 e1 hs
  · have hne : ∀ j, j ∈ fq → j ≠ id := fun j hj e => by
      rcases hd j hj with h1 | h1
      · exact hn.1 (e ▸ hin j h1)
      · exact h1 (by rw [e]; simp)
    refine ⟨id :: (fps.set i fq).flatten, ⟨by simpa using hl, .inr ⟨id, rows.set i r', fps.set i fq, by simp, by simp [Heap.put, Cell.sid], q2, rfl, ?_⟩⟩, ?_, ?_⟩
    · have v'' : R (h.put id (rows.set i r')) r' t' fq := ok.mv v' (Nat.le_refl _) fun j hj => put_ne _ (hne j hj)
      exact AllR.set v'' (q3.mv (h' := h.put id (rows.set i r')) ok (Nat.le_refl _) fun j hj => put_ne _ fun e => hn.1 (e ▸ hj)) i
    · rw [List.nodup_cons]
      refine ⟨fun hc => ?_, flat_set_nodup nq fps i f e2 hn.2 fun j hj => ?_⟩
      · rcases flat_set_mem _ _ hc with hc | hc
        · exact hn.1 hc
        · exact hne _ hc rfl
      · rcases hd j hj with h1 | h1
        · exact .inl h1
        · exact .inr fun hc => h1 (List.mem_cons_of_mem _ hc)
    · intro j hj
      rcases List.mem_cons.1 hj with rfl | hj
      · exact .inl (by simp)
      · rcases flat_set_mem _ _ hj with hj | hj
        · exact .inl (List.mem_cons_of_mem _ hj)
        · exact .inr hj
theorem AllR.turn (ok : RelOk R) {h' : Heap} (hn : h.next ≤ h'.next) {r' : List Cell} {t' : α} : ∀ {rows : List (List Cell)} {xs : List α} {fps : List (List Nat)}, AllR R h rows xs fps → ∀ (i : Nat) (f : List Nat), fps[i]? = some f → fps.flatten.Nodup →
    (∀ id, id ∈ fps.flatten → id ∉ f → h'.get id = h.get id) → R h' r' t' f → AllR R h' (rows.set i r') (xs.set i t') fps
  | [], [], [], _, i, f, e, _, _, _ => by simp at e
  | r :: rs, a :: bs, g :: gs, ⟨w0, w⟩, 0, f, e, nd, hg, v => by
    simp only [List.getElem?_cons_zero, Option.some.injEq] at e
    subst e
    rw [List.flatten_cons] at nd
    obtain ⟨n1, n2, n3⟩ := List.nodup_append.1 nd
    exact ⟨v, w.mv ok hn fun id hid => hg id (by rw [List.flatten_cons, List.mem_append]; exact .inr hid) fun hf => n3 id hf id hid rfl⟩
  | r :: rs, a :: bs, g :: gs, ⟨w0, w⟩, i + 1, f, e, nd, hg, v => by
    simp only [List.getElem?_cons_succ] at e
    rw [List.flatten_cons] at nd
    obtain ⟨n1, n2, n3⟩ := List.nodup_append.1 nd
    exact ⟨ok.mv w0 hn fun id hid => hg id (by rw [List.flatten_cons, List.mem_append]; exact .inl hid) fun hf => n3 id hid id (List.mem_flatten.2 ⟨f, List.mem_of_getElem? e, hf⟩) rfl,
      AllR.turn ok hn w i f e n2 (fun id hid hf => hg id (by rw [List.flatten_cons, List.mem_append]; exact .inr hid) hf) v⟩
  | [], [], _ :: _, w, _, _, _, _, _, _ => w.elim
  | [], _ :: _, _, w, _, _, _, _, _, _ => w.elim
  | _ :: _, [], _, w, _, _, _, _, _, _ => w.elim
  | _ :: _, _ :: _, [], w, _, _, _, _, _, _ => w.elim
theorem flat_at_nodup {f : List Nat} : ∀ (fps : List (List Nat)) (i : Nat), fps[i]? = some f → fps.flatten.Nodup → f.Nodup
  | [], i, h, _ => by simp at h
  | g :: r, i, h, nd => by
    rw [List.flatten_cons] at nd
    obtain ⟨n1, n2, _⟩ := List.nodup_append.1 nd
    cases i with
    | zero => simp only [List.getElem?_cons_zero, Option.some.injEq] at h; exact h ▸ n1
    | succ i => exact flat_at_nodup r i (by simpa using h) n2
/-- One element with its own memory is turned. -/
theorem SlR.turn (ok : RelOk R) (w : SlR tag R h x xs fp) (nd : fp.Nodup) {i : Nat} (hi : i < xs.length) :
    ∃ r f, ∃ rows : List (List Cell), R h r xs[i] f ∧ (∀ id, id ∈ f → id ∈ fp) ∧ f.Nodup ∧ x.sid ∈ fp ∧ x.sid ∉ f ∧ x.sid < h.next ∧ h.get x.sid = some rows ∧ rows[i]? = some r ∧ i < rows.length ∧
      ∀ h' r' t', h.next ≤ h'.next → (∀ id, id ∈ fp → id ≠ x.sid → id ∉ f → h'.get id = h.get id) → h'.get x.sid = some (rows.set i r') → R h' r' t' f → SlR tag R h' x (xs.set i t') fp := by
  rcases w with ⟨hl, ⟨rfl, rfl, rfl⟩ | ⟨id, rows, fps, rfl, q1, q2, rfl, q3⟩⟩
  · exact absurd hi (Nat.not_lt_zero _)
  obtain ⟨r, f, e1, e2, v⟩ := q3.at i hi
  have hn := List.nodup_cons.1 nd
  have hin : ∀ j, j ∈ f → j ∈ fps.flatten := fun j hj => List.mem_flatten.2 ⟨f, List.mem_of_getElem? e2, hj⟩
  refine ⟨r, f, rows, v, fun j hj => List.mem_cons_of_mem _ (hin j hj), flat_at_nodup fps i e2 hn.2, by simp [Cell.sid], fun hc => hn.1 (hin _ hc), q2, q1, e1, by rw [q3.len]; exact hi, fun h' r' t' hn' hg hg' v' => ?_⟩
  refine ⟨by simpa using hl, .inr ⟨id, rows.set i r', fps, by simp, hg', Nat.lt_of_lt_of_le q2 hn', rfl, ?_⟩⟩
  exact q3.turn ok hn' i f e2 hn.2 (fun j hj hf => hg j (List.mem_cons_of_mem _ hj) (fun e => hn.1 (by simp only [Cell.sid] at e; exact e ▸ hj)) hf) v'
theorem loadP_row {h : Heap} {id i : Nat} {rows : List (List Cell)} {r : List Cell} (hg : h.get id = some rows) (hi : rows[i]? = some r) (j n : Nat) : loadP h id i j n = cut? r j n := by simp [loadP, rowOf, hg, hi]
theorem loadP_put {h : Heap} {id i : Nat} {rows : List (List Cell)} (hi : i < rows.length) (r : List Cell) (j n : Nat) : loadP (h.put id (rows.set i r)) id i j n = cut? r j n := loadP_row (rows := rows.set i r) (by simp [Heap.put]) (List.getElem?_set_self hi) j n
theorem put_row {h : Heap} {id i : Nat} {rows : List (List Cell)} {r : List Cell} (hg : h.get id = some rows) (hi : rows[i]? = some r) : h.put id (rows.set i r) = h := by
  have : rows.set i r = rows := by
    apply List.ext_getElem?
    intro j
    by_cases e : i = j
    · subst e
      have hlt : i < rows.length := by
        rcases Nat.lt_or_ge i rows.length with hlt | hge
        · exact hlt
        · rw [List.getElem?_eq_none hge] at hi; cases hi
      rw [List.getElem?_set_self hlt, hi]
    · rw [List.getElem?_set_ne e]
  rw [this]; exact put_same hg
end
end Go.Proofs.Ytlbagejkjkfkjaa.A
/- Loops that look for one, behind which the heap goes on; rows that are shown twice. -/
namespace Go.Proofs.Ytlbagejkjkfkjaa.A
open Go
set_option linter.unusedSimpArgs false
set_option linter.unusedVariables false
section
variable {F : Nat → Option RF} {Z : CallF} {live : List Nat} {b : RC}
theorem loop_findO {α : Type} (xs : List α) (p : α → Bool) (st : Nat → Heap → St) (h : Heap) (Q : Nat → St → Prop)
    (hs : ∀ i (hi : i < xs.length) g, On h g → TurnO (loop F Z live b (st i g)) (fun g' => loop F Z live b (st (i + 1) g')) g (!p xs[i]) (Q i)) :
    (xs.findIdx? p = none ∧ ∃ g, On h g ∧ loop F Z live b (st 0 h) = loop F Z live b (st xs.length g)) ∨ ∃ i, xs.findIdx? p = some i ∧ i < xs.length ∧ ∃ s, loop F Z live b (st 0 h) = some (.ret, s) ∧ On h s.hp ∧ Q i s := by
  have key : ∀ n, n ≤ xs.length → ((∀ i (hi : i < xs.length), i < n → p xs[i] = false) ∧ ∃ g, On h g ∧ loop F Z live b (st 0 h) = loop F Z live b (st n g)) ∨ ∃ i, xs.findIdx? p = some i ∧ i < xs.length ∧ ∃ s, loop F Z live b (st 0 h) = some (.ret, s) ∧ On h s.hp ∧ Q i s := by
    intro n
    induction n with
    | zero => intro _; exact .inl ⟨fun i hi h => absurd h (Nat.not_lt_zero _), h, On.refl h, rfl⟩
    | succ n ih =>
      intro hn
      rcases ih (by omega) with ⟨h1, g, og, h2⟩ | h
      · rcases hs n (by omega) g og with ⟨h3, g', og', h4⟩ | ⟨h3, s, h4, os, h5⟩
        · refine .inl ⟨fun i hi hl => ?_, g', og.trans og', h2.trans h4⟩
          by_cases he : i = n
          · subst he; simpa using h3
          · exact h1 i hi (by omega)
        · refine .inr ⟨n, ?_, by omega, s, h2.trans h4, og.trans os, h5⟩
          rw [List.findIdx?_eq_some_iff_getElem]
          refine ⟨by omega, by simpa using h3, fun j hj => ?_⟩
          simpa using h1 j (by omega) (by omega)
      · exact .inr h
  rcases key xs.length (Nat.le_refl _) with ⟨h1, g, og, h2⟩ | h
  · refine .inl ⟨?_, g, og, h2⟩
    rw [List.findIdx?_eq_none_iff]
    intro a ha
    obtain ⟨i, hi, rfl⟩ := List.mem_iff_getElem.1 ha
    exact h1 i hi hi
  · exact .inr h
end
theorem findI_any {α : Type} (p : α → Bool) (xs : List α) : decide (findI p xs ≥ 0) = xs.any p := by
  unfold findI
  cases hf : xs.findIdx? p with
  | none =>
    rw [List.findIdx?_eq_none_iff] at hf
    have : xs.any p = false := by rw [List.any_eq_false]; intro a ha; simp [hf a ha]
    rw [this]; rfl
  | some i =>
    rw [List.findIdx?_eq_some_iff_getElem] at hf
    obtain ⟨h1, h2, _⟩ := hf
    have : xs.any p = true := List.any_eq_true.2 ⟨_, List.getElem_mem h1, h2⟩
    rw [this]; simp
section
variable {α : Type} {R : Rel α} {tag : Nat} {h0 h g : Heap} {x : Cell} {xs ys : List α} {fp fq : List Nat}
theorem SlR.rowsM (w : SlR tag R h x xs fp) : ∃ rows fps, rowsOf h x = some rows ∧ AllR R h rows xs fps := by
  rcases w with ⟨_, ⟨rfl, rfl, rfl⟩ | ⟨id, rows, fps, rfl, q1, q2, rfl, q3⟩⟩
  · exact ⟨[], [], rfl, trivial⟩
  · refine ⟨rows, fps, ?_, q3⟩
    have := q3.len
    simp only [rowsOf, q1, Option.bind_some, Nat.zero_add]
    rw [if_pos (by omega), List.drop_zero, List.take_of_length_le (by omega)]
theorem AllR.app : ∀ {r1 r2 : List (List Cell)} {xs ys : List α} {f1 f2 : List (List Nat)}, AllR R h r1 xs f1 → AllR R h r2 ys f2 → AllR R h (r1 ++ r2) (xs ++ ys) (f1 ++ f2)
  | [], _, [], _, [], _, _, w => w
  | _ :: _, _, _ :: _, _, _ :: _, _, ⟨w1, w⟩, u => ⟨w1, AllR.app w u⟩
  | [], _, [], _, _ :: _, _, w, _ => w.elim
  | [], _, _ :: _, _, _, _, w, _ => w.elim
  | _ :: _, _, [], _, _, _, w, _ => w.elim
  | _ :: _, _, _ :: _, _, [], _, w, _ => w.elim
/-- Raw rows that were laid together show what they show. -/
theorem Acc.shows (ok : RelOk R) {rows : List (List Cell)} {fps : List (List Nat)} (a : Acc tag h0 h x rows) (w : AllR R h0 rows xs fps) : ∃ fp, SlR tag R h x xs fp := by
  obtain ⟨o, fp, v, f⟩ := a
  have w' : AllR R h rows xs fps := w.mv ok o.ext.1 fun id hid => o.ext.2 id (w.lt ok id hid)
  have hl := w.len
  have hle := v.le
  rcases v.flat with ⟨rfl, h2, rfl⟩ | ⟨hx, hg, hn, rfl⟩
  · have : xs = [] := List.eq_nil_of_length_eq_zero (by rw [← hl, h2]; rfl)
    subst this
    exact ⟨_, SlR.nil _ _ _⟩
  · refine ⟨x.sid :: fps.flatten, by omega, .inr ⟨x.sid, rows, fps, by rw [← hl]; exact hx, by simpa using hg, hn, rfl, w'⟩⟩
end
end Go.Proofs.Ytlbagejkjkfkjaa.A
/- Stores into rows of data with memory. -/
namespace Go.Proofs.Ytlbagejkjkfkjaa.A
open Go
set_option linter.unusedSimpArgs false
set_option linter.unusedVariables false
section
variable {α : Type} {R : Rel α} {tag : Nat} {h0 h g : Heap} {x : Cell} {xs : List α} {fp fq : List Nat}
/-- Rows that were made behind h have turned: h goes on all the same. -/
theorem On.turned (o : On h0 h) (m : Mk h g fp) (f : Fre h0 fp) : On h0 g :=
  ⟨⟨by rw [m.next]; exact o.ext.1, fun id hid => by rw [m.get id (f.gt id hid)]; exact o.ext.2 id hid⟩, m.fl.trans o.fl⟩
theorem Fre.own (f : Fre h0 fp) (o : On h0 h) (hf : h0.floor ≤ h0.next) : ∀ id, id ∈ fp → h.floor ≤ id := fun id hid => by
  rw [o.fl]; exact Nat.le_trans hf (f.lo id hid)
theorem Mk.then {a b c : Heap} (m : Mk a b fp) (n : Mk b c fp) : Mk a c fp := ⟨n.next.trans m.next, n.fl.trans m.fl, fun id hid => (n.get id hid).trans (m.get id hid)⟩
/-- One row, and what stores into it leave. -/
theorem SlR.putRow (ok : RelOk R) (w : SlR tag R h x xs fp) (nd : fp.Nodup) (hfl : ∀ id, id ∈ fp → h.floor ≤ id) {i : Nat} (hi : i < xs.length) :
    ∃ r f, ∃ rows : List (List Cell), R h r xs[i] f ∧ x.sid ∈ fp ∧ (∀ j n, loadP h x.sid i j n = cut? r j n) ∧ h.put x.sid (rows.set i r) = h ∧
      (∀ r1 j new, storeP (h.put x.sid (rows.set i r1)) x.sid i j new = putM h x.sid rows i (splice? r1 j new)) ∧ (∀ r1 j n, loadP (h.put x.sid (rows.set i r1)) x.sid i j n = cut? r1 j n) ∧
      ∀ r' t', R h r' t' f → SlR tag R (h.put x.sid (rows.set i r')) x (xs.set i t') fp ∧ Mk h (h.put x.sid (rows.set i r')) fp := by
  obtain ⟨r, f, rows, hR, hin, nf, hs, hns, hsl, hg, hr, hir, fin⟩ := w.turn ok nd hi
  refine ⟨r, f, rows, hR, hs, loadP_row hg hr, put_row hg hr, fun r1 j new => storeP_put (hfl _ hs) hir r1 new j, fun r1 j n => loadP_put hir r1 j n, fun r' t' v => ⟨?_, rfl, rfl, fun id hid => put_ne _ fun e => hid (e ▸ hs)⟩⟩
  exact fin _ r' t' (Nat.le_refl _) (fun id _ h2 _ => put_ne _ h2) (by simp [Heap.put]) (ok.mv v (Nat.le_refl _) fun id hid => put_ne _ fun e => hns (e ▸ hid))
end
end Go.Proofs.Ytlbagejkjkfkjaa.A
/- The cursor that drawn values come from: what it keeps, and how its heap goes on. -/
namespace Go.Proofs.Ytlbagejkjkfkjaa.A
open Go
set_option linter.unusedSimpArgs false
set_option linter.unusedVariables false
def byte_enc (b : Int) : List Cell := [.int .u8 b]
/-- A cursor over bytes: a row of the heap. -/
structure Cur (h : Heap) (k : Nat) (x : Cell) (code : List Int) : Prop where
  fl : h.floor ≤ k ∧ k < h.next
  vw : Vw 19 byte_enc h x code
  ne : x = .nil ∨ x.sid ≠ k
  row : ∃ i hh : Int, h.get k = some [[x, .int .i64 i, .int .i64 hh]] ∧ 0 ≤ i ∧ i ≤ code.length
/-- The heap goes on, but for one row. -/
structure Dr (k : Nat) (h h' : Heap) : Prop where
  next : h.next ≤ h'.next
  fl : h'.floor = h.floor
  get : ∀ id, id < h.next → id ≠ k → h'.get id = h.get id
section
variable {h h' h2 : Heap} {k : Nat} {x : Cell} {code : List Int}
theorem Dr.refl (k : Nat) (h : Heap) : Dr k h h := ⟨Nat.le_refl _, rfl, fun _ _ _ => rfl⟩
theorem Dr.trans (a : Dr k h h') (b : Dr k h' h2) : Dr k h h2 := ⟨Nat.le_trans a.next b.next, b.fl.trans a.fl, fun id h1 hn => (b.get id (Nat.lt_of_lt_of_le h1 a.next) hn).trans (a.get id h1 hn)⟩
theorem On.dr (o : On h h') (k : Nat) : Dr k h h' := ⟨o.ext.1, o.fl, fun id h1 _ => o.ext.2 id h1⟩
theorem Mk.dr (m : Mk h h' [k]) : Dr k h h' := ⟨by rw [m.next]; exact Nat.le_refl _, m.fl, fun id _ hn => m.get id (by simpa using hn)⟩
theorem Dr.le (d : Dr k h h') (hf : h.floor ≤ h.next) : h'.floor ≤ h'.next := by have := d.next; have := d.fl; omega
theorem RelOk.dr {α : Type} {R : Rel α} (ok : RelOk R) {cs : List Cell} {a : α} {fp : List Nat} (w : R h cs a fp) (d : Dr k h h') (hk : k ∉ fp) : R h' cs a fp :=
  ok.mv w d.next fun id hid => d.get id (ok.lt w id hid) fun he => hk (he ▸ hid)
theorem SlR.dr {α : Type} {R : Rel α} {tag : Nat} {y : Cell} {xs : List α} {fp : List Nat} (w : SlR tag R h y xs fp) (ok : RelOk R) (d : Dr k h h') (hk : k ∉ fp) : SlR tag R h' y xs fp :=
  w.mv ok d.next fun id hid => d.get id (w.lt ok id hid) fun he => hk (he ▸ hid)
theorem Vw.dr {α : Type} {enc : α → List Cell} {tag : Nat} {y : Cell} {xs : List α} (w : Vw tag enc h y xs) (d : Dr k h h') (hk : y = .nil ∨ y.sid ≠ k) : Vw tag enc h' y xs := by
  rcases w with ⟨hl, h0 | ⟨id, off, rows, rfl, h2, h3, h4⟩⟩
  · exact ⟨hl, .inl h0⟩
  · have hk : id ≠ k := hk.elim (fun h => (nomatch h)) fun h => h
    exact ⟨hl, .inr ⟨id, off, rows, rfl, (d.get id h3 hk).trans h2, Nat.lt_of_lt_of_le h3 d.next, h4⟩⟩
theorem Cur.on (c : Cur h k x code) (o : On h h') : Cur h' k x code := by
  obtain ⟨i, hh, h1, h2⟩ := c.row
  exact ⟨⟨by rw [o.fl]; exact c.fl.1, Nat.lt_of_lt_of_le c.fl.2 o.ext.1⟩, c.vw.on o, c.ne, i, hh, (o.ext.2 k c.fl.2).trans h1, h2⟩
/-- Rows that were made behind h are not the cursor's. -/
theorem Cur.far (c : Cur h k x code) {fp : List Nat} (f : Fre h fp) : k ∉ fp := fun hk => by have := f.lo k hk; have := c.fl.2; omega
theorem Cur.put (c : Cur h k x code) (i hh : Int) (h0 : 0 ≤ i) (h1 : i ≤ code.length) : Cur (h.put k [[x, .int .i64 i, .int .i64 hh]]) k x code :=
  ⟨c.fl, c.vw.dr (Mk.put h k _).dr c.ne, c.ne, i, hh, by simp [Heap.put], h0, h1⟩
def put1 (h : Heap) (k : Nat) : Option (List Cell) → Option Heap
  | some r => some (h.put k [r])
  | none => none
theorem put1_s (h : Heap) (k : Nat) (r : List Cell) : put1 h k (some r) = some (h.put k [r]) := rfl
theorem sto1 (hf : h.floor ≤ k) (r : List Cell) (j : Nat) (new : List Cell) : storeP (h.put k [r]) k 0 j new = put1 h k (splice? r j new) := by
  have hf' : (h.put k [r]).floor ≤ k := hf
  have hg : (h.put k [r]).get k = some [r] := by simp [Heap.put]
  simp only [storeP]
  rw [if_pos hf', hg]
  simp only [Option.bind_some, List.getElem?_cons_zero]
  cases splice? r j new with
  | none => rfl
  | some r' => simp only [Option.bind_some, List.set_cons_zero, put_put, put1]
theorem loa1 (h : Heap) (k : Nat) (r : List Cell) (j n : Nat) : loadP (h.put k [r]) k 0 j n = cut? r j n := by simp [loadP, rowOf, Heap.put]
theorem loa2 (h : Heap) {k id : Nat} (hn : id ≠ k) (rows : List (List Cell)) (i j n : Nat) : loadP (h.put k rows) id i j n = loadP h id i j n := by simp [loadP, rowOf, Heap.put, hn]
/-! ### bits -/
theorem b_and (k : IntKind) (a b : Int) : binF .and (.int k a) (.int k b) = some (.int k (k.wrap ((BitVec.ofInt k.bits a &&& BitVec.ofInt k.bits b).toNat : Nat))) := by simp [binF, Op.intBits, pureCell, valCell?]; rfl
theorem b_xor (k : IntKind) (a b : Int) : binF .xor (.int k a) (.int k b) = some (.int k (k.wrap ((BitVec.ofInt k.bits a ^^^ BitVec.ofInt k.bits b).toNat : Nat))) := by simp [binF, Op.intBits, pureCell, valCell?]; rfl
def shrI (k : IntKind) (a b : Int) : Int := a.fdiv (2 ^ (min b.toNat k.bits))
def shlI (k : IntKind) (a b : Int) : Int := k.wrap (a * 2 ^ (min b.toNat k.bits))
theorem b_shr (k yk : IntKind) (a b : Int) (h : 0 ≤ b) : binF .shr (.int k a) (.int yk b) = some (.int k (shrI k a b)) := by
  have : ¬ b < 0 := by omega
  simp only [binF, Op.shift, if_neg this]; rfl
theorem b_shl (k yk : IntKind) (a b : Int) (h : 0 ≤ b) : binF .shl (.int k a) (.int yk b) = some (.int k (shlI k a b)) := by
  have : ¬ b < 0 := by omega
  simp only [binF, Op.shift, if_neg this]; rfl
theorem and255 (a : Int) : 0 ≤ IntKind.i64.wrap ((BitVec.ofInt IntKind.i64.bits a &&& BitVec.ofInt IntKind.i64.bits 255).toNat : Nat) ∧ IntKind.i64.wrap ((BitVec.ofInt IntKind.i64.bits a &&& BitVec.ofInt IntKind.i64.bits 255).toNat : Nat) ≤ 255 := by
  have h1 : (BitVec.ofInt IntKind.i64.bits a &&& BitVec.ofInt IntKind.i64.bits 255).toNat ≤ 255 := by
    rw [BitVec.toNat_and]
    exact Nat.le_trans Nat.and_le_right (by decide)
  generalize (BitVec.ofInt IntKind.i64.bits a &&& BitVec.ofInt IntKind.i64.bits 255).toNat = n at *
  rw [wrapI _ (by omega) (by omega)]
  omega
end
section
variable {F : Nat → Option RF} {Z : CallF} {h : Heap} {k : Nat} {x : Cell} {code : List Int}
set_option maxHeartbeats 1000000 in
theorem l01Byte_c (hS : Has F tS01d) (c : Cur h k x code) : ∃ r h', call F Z 263 [.c (.ptr k 0 0)] h = some (.c (.int .i64 r), h') ∧ (0 ≤ r ∧ r ≤ 255) ∧ Mk h h' [k] ∧ Cur h' k x code := by
  obtain ⟨i, hh, hg, h0, h1⟩ := c.row
  have hle := c.vw.le
  unfold maxLen at hle
  have hput : h.put k [[x, .int .i64 i, .int .i64 hh]] = h := put_same hg
  obtain ⟨i, rfl⟩ : ∃ j : Nat, i = (j : Int) := ⟨i.toNat, by omega⟩
  have hl0 : ∀ j n, loadP h k 0 j n = cut? [x, .int .i64 i, .int .i64 hh] j n := fun j n => by rw [← hput]; exact loa1 _ _ _ _ _
  have hst : ∀ j new, storeP h k 0 j new = put1 h k (splice? [x, .int .i64 i, .int .i64 hh] j new) := fun j new => by
    have := sto1 c.fl.1 [x, .int .i64 i, .int .i64 hh] j new
    rwa [hput] at this
  have hl1 := loa1 h k
  have hs1 := fun r => sto1 c.fl.1 (r := r)
  rw [call_run F Z (hS.lk (g := 263) rfl) _ _ rfl]
  by_cases hlt : i < code.length
  · have hlt' : (i : Int) < code.length := by omega
    have hws := wrapS i (by omega)
    have hid := c.vw.idx hlt
    have hld := c.vw.load hlt
    have hne : x.sid ≠ k := c.ne.elim (fun hx => by subst hx; rcases c.vw with ⟨_, ⟨_, h0⟩ | ⟨_, _, _, h0, _⟩⟩ <;> simp_all) fun h => h
    have hl2 := fun rows => loa2 h hne rows
    simp only [run0, run1, run2, run3, run4, noSlot, ownS, ownK, memN, RO.dst, lk, drop, forget, number, Nat.reduceBEq, cut?, splice?, builds, List.length_cons, List.length_nil, List.drop_succ_cons, List.drop_zero, List.take_succ_cons, List.take_zero, List.cons_append, List.nil_append, List.append_nil, List.drop_nil, List.take_nil, Nat.reduceAdd, Nat.reduceLeDiff, Nat.zero_add, Nat.add_zero, ↓reduceIte, Bool.not_true, Bool.not_false, decide_true, decide_false, eq_self, bne_self_eq_false, List.getElem?_cons_zero, List.getElem?_cons_succ, decide_eq_true_eq, Bool.false_eq_true, Bool.true_eq_false, reduceCtorEq, Nat.le_refl, hl0, hst, put1_s, hl1, hs1, b_and, b_xor, b_shr _ _ _ _ (show (0 : Int) ≤ 33 from by omega), b_shr _ _ _ _ (show (0 : Int) ≤ 45 from by omega), c.vw.len, hlt', hid, hl2, hld, byte_enc, hws]
    exact ⟨_, _, rfl, and255 _, Mk.put _ _ _, c.put _ _ (by omega) (by omega)⟩
  · have hlt' : ¬ (i : Int) < code.length := by omega
    simp only [run0, run1, run2, run3, run4, noSlot, ownS, ownK, memN, RO.dst, lk, drop, forget, number, Nat.reduceBEq, cut?, splice?, builds, List.length_cons, List.length_nil, List.drop_succ_cons, List.drop_zero, List.take_succ_cons, List.take_zero, List.cons_append, List.nil_append, List.append_nil, List.drop_nil, List.take_nil, Nat.reduceAdd, Nat.reduceLeDiff, Nat.zero_add, Nat.add_zero, ↓reduceIte, Bool.not_true, Bool.not_false, decide_true, decide_false, eq_self, bne_self_eq_false, List.getElem?_cons_zero, List.getElem?_cons_succ, decide_eq_true_eq, Bool.false_eq_true, Bool.true_eq_false, reduceCtorEq, Nat.le_refl, hl0, hst, put1_s, hl1, hs1, b_and, b_xor, b_shr _ _ _ _ (show (0 : Int) ≤ 33 from by omega), b_shr _ _ _ _ (show (0 : Int) ≤ 45 from by omega), c.vw.len, hlt']
    exact ⟨_, _, rfl, and255 _, Mk.put _ _ _, c.put _ _ (by omega) (by omega)⟩
theorem tmod_in {a n : Int} (ha : 0 ≤ a) (hn : 0 < n) : 0 ≤ a.tmod n ∧ a.tmod n < n := ⟨Int.tmod_nonneg _ ha, Int.tmod_lt_of_pos _ hn⟩
set_option maxHeartbeats 1000000 in
/-- A number below n; 0 where n is not above 0. -/
theorem l01Below_c (hS : Has F tS01d) (c : Cur h k x code) (n : Int) : ∃ r h', call F Z 236 [.c (.ptr k 0 0), .c (.int .i64 n)] h = some (.c (.int .i64 r), h') ∧ 0 ≤ r ∧ (0 < n → r < n) ∧ (n ≤ 0 → r = 0) ∧ Mk h h' [k] ∧ Cur h' k x code := by
  rw [call_run F Z (hS.lk (g := 236) rfl) _ _ rfl]
  by_cases hn : n ≤ 0
  · simp only [run0, run1, run2, run3, run4, noSlot, ownS, ownK, memN, RO.dst, lk, drop, forget, number, Nat.reduceBEq, cut?, splice?, builds, List.length_cons, List.length_nil, List.drop_succ_cons, List.drop_zero, List.take_succ_cons, List.take_zero, List.cons_append, List.nil_append, List.append_nil, List.drop_nil, List.take_nil, Nat.reduceAdd, Nat.reduceLeDiff, Nat.zero_add, Nat.add_zero, ↓reduceIte, Bool.not_true, Bool.not_false, decide_true, decide_false, eq_self, bne_self_eq_false, List.getElem?_cons_zero, List.getElem?_cons_succ, decide_eq_true_eq, Bool.false_eq_true, Bool.true_eq_false, reduceCtorEq, Nat.le_refl, hn]
    exact ⟨_, _, rfl, by omega, fun h' => absurd hn (by omega), fun _ => rfl, Mk.refl _ _, c⟩
  by_cases hm : n ≤ 256
  · obtain ⟨r, h1, e1, b1, m1, c1⟩ := l01Byte_c (Z := Z) hS c
    have ht := tmod_in b1.1 (show 0 < n from by omega)
    simp only [run0, run1, run2, run3, run4, noSlot, ownS, ownK, memN, RO.dst, lk, drop, forget, number, Nat.reduceBEq, cut?, splice?, builds, List.length_cons, List.length_nil, List.drop_succ_cons, List.drop_zero, List.take_succ_cons, List.take_zero, List.cons_append, List.nil_append, List.append_nil, List.drop_nil, List.take_nil, Nat.reduceAdd, Nat.reduceLeDiff, Nat.zero_add, Nat.add_zero, ↓reduceIte, Bool.not_true, Bool.not_false, decide_true, decide_false, eq_self, bne_self_eq_false, List.getElem?_cons_zero, List.getElem?_cons_succ, decide_eq_true_eq, Bool.false_eq_true, Bool.true_eq_false, reduceCtorEq, Nat.le_refl, hn, hm, e1, b_rem _ _ _ (show n ≠ 0 from by omega)]
    exact ⟨_, _, rfl, ht.1, fun _ => ht.2, fun h' => h'.elim, m1, c1⟩
  · obtain ⟨r1, h1, e1, b1, m1, c1⟩ := l01Byte_c (Z := Z) hS c
    obtain ⟨r2, h2, e2, b2, m2, c2⟩ := l01Byte_c (Z := Z) hS c1
    obtain ⟨r3, h3, e3, b3, m3, c3⟩ := l01Byte_c (Z := Z) hS c2
    have w1 : IntKind.i64.wrap (r1 * 65536) = r1 * 65536 := wrapI _ (by omega) (by omega)
    have w2 : IntKind.i64.wrap (r2 * 256) = r2 * 256 := wrapI _ (by omega) (by omega)
    have w3 : IntKind.i64.wrap (r1 * 65536 + r2 * 256) = r1 * 65536 + r2 * 256 := wrapI _ (by omega) (by omega)
    have w4 : IntKind.i64.wrap (r1 * 65536 + r2 * 256 + r3) = r1 * 65536 + r2 * 256 + r3 := wrapI _ (by omega) (by omega)
    have ht := tmod_in (show 0 ≤ r1 * 65536 + r2 * 256 + r3 from by omega) (show 0 < n from by omega)
    simp only [run0, run1, run2, run3, run4, noSlot, ownS, ownK, memN, RO.dst, lk, drop, forget, number, Nat.reduceBEq, cut?, splice?, builds, List.length_cons, List.length_nil, List.drop_succ_cons, List.drop_zero, List.take_succ_cons, List.take_zero, List.cons_append, List.nil_append, List.append_nil, List.drop_nil, List.take_nil, Nat.reduceAdd, Nat.reduceLeDiff, Nat.zero_add, Nat.add_zero, ↓reduceIte, Bool.not_true, Bool.not_false, decide_true, decide_false, eq_self, bne_self_eq_false, List.getElem?_cons_zero, List.getElem?_cons_succ, decide_eq_true_eq, Bool.false_eq_true, Bool.true_eq_false, reduceCtorEq, Nat.le_refl, hn, hm, e1, e2, e3, w1, w2, w3, w4, b_rem _ _ _ (show n ≠ 0 from by omega)]
    exact ⟨_, _, rfl, ht.1, fun _ => ht.2, fun h' => h'.elim, (m1.then m2).then m3, c3⟩
end
end Go.Proofs.Ytlbagejkjkfkjaa.A
/- Drawn numbers. -/
namespace Go.Proofs.Ytlbagejkjkfkjaa.A
open Go
set_option linter.unusedSimpArgs false
set_option linter.unusedVariables false
section
variable {F : Nat → Option RF} {Z : CallF} {h : Heap} {k : Nat} {x y : Cell} {code : List Int} {xs : List Int} {fp : List Nat}
theorem l01Once_c (hS : Has F tS01d) (c : Cur h k x code) (n : Int) : ∃ b h', call F Z 240 [.c (.ptr k 0 0), .c (.int .i64 n)] h = some (.c (.bool b), h') ∧ Mk h h' [k] ∧ Cur h' k x code := by
  obtain ⟨r, h1, e1, _, _, _, m1, c1⟩ := l01Below_c (Z := Z) hS c n
  rw [call_run F Z (hS.lk (g := 240) rfl) _ _ rfl]
  simp only [run0, run1, run2, run3, run4, noSlot, ownS, ownK, memN, RO.dst, lk, drop, forget, number, Nat.reduceBEq, cut?, splice?, builds, List.length_cons, List.length_nil, List.drop_succ_cons, List.drop_zero, List.take_succ_cons, List.take_zero, List.cons_append, List.nil_append, List.append_nil, List.drop_nil, List.take_nil, Nat.reduceAdd, Nat.reduceLeDiff, Nat.zero_add, Nat.add_zero, ↓reduceIte, Bool.not_true, Bool.not_false, decide_true, decide_false, eq_self, bne_self_eq_false, List.getElem?_cons_zero, List.getElem?_cons_succ, decide_eq_true_eq, Bool.false_eq_true, Bool.true_eq_false, reduceCtorEq, Nat.le_refl, e1]
  exact ⟨_, _, rfl, m1, c1⟩
/-- One of a list. -/
theorem l01PickInt_c (hS : Has F tS01d) (c : Cur h k x code) (w : SlR 15 (Fl int_enc) h y xs fp) (hk : k ∉ fp) (hx : 0 < xs.length) :
    ∃ r h', call F Z 239 [.c (.ptr k 0 0), .c y] h = some (.c (.int .i64 r), h') ∧ r ∈ xs ∧ Mk h h' [k] ∧ Cur h' k x code := by
  obtain ⟨r, h1, e1, r0, rn, _, m1, c1⟩ := l01Below_c (Z := Z) hS c (xs.length : Int)
  have hlt := rn (by omega)
  obtain ⟨j, rfl⟩ : ∃ j : Nat, r = (j : Int) := ⟨r.toNat, by omega⟩
  have hj : j < xs.length := by omega
  have w1 := w.dr (Fl.ok _) m1.dr hk
  have hi := w.idx hj
  have hl := w1.load hj
  rw [call_run F Z (hS.lk (g := 239) rfl) _ _ rfl]
  simp only [run0, run1, run2, run3, run4, noSlot, ownS, ownK, memN, RO.dst, lk, drop, forget, number, Nat.reduceBEq, cut?, splice?, builds, List.length_cons, List.length_nil, List.drop_succ_cons, List.drop_zero, List.take_succ_cons, List.take_zero, List.cons_append, List.nil_append, List.append_nil, List.drop_nil, List.take_nil, Nat.reduceAdd, Nat.reduceLeDiff, Nat.zero_add, Nat.add_zero, ↓reduceIte, Bool.not_true, Bool.not_false, decide_true, decide_false, eq_self, bne_self_eq_false, List.getElem?_cons_zero, List.getElem?_cons_succ, decide_eq_true_eq, Bool.false_eq_true, Bool.true_eq_false, reduceCtorEq, Nat.le_refl, w.len, e1, hi, hl, int_enc]
  exact ⟨_, _, rfl, List.getElem_mem hj, m1, c1⟩
theorem l01Size_c (hS : Has F tS01d) (w : Vw 19 byte_enc h x code) (most : Int) (hm : 2 ≤ most) : ∃ r, call F Z 238 [.c x, .c (.int .i64 most)] h = some (.c (.int .i64 r), h) ∧ 2 ≤ r ∧ r ≤ most := by
  have hle := w.le2
  have hq : (code.length : Int).tdiv 16 = ((code.length / 16 : Nat) : Int) := by rw [Int.tdiv_eq_ediv_of_nonneg (by omega)]; omega
  have h1 : IntKind.i64.wrap ((code.length / 16 : Nat) : Int) = ((code.length / 16 : Nat) : Int) := wrapI _ (by omega) (by omega)
  have h2 : IntKind.i64.wrap (2 + ((code.length / 16 : Nat) : Int)) = 2 + ((code.length / 16 : Nat) : Int) := wrapI _ (by omega) (by omega)
  have hb := b_quo .i64 (code.length : Int) 16 (by omega)
  rw [hq, h1] at hb
  rw [call_run F Z (hS.lk (g := 238) rfl) _ _ rfl]
  by_cases hgt : 2 + ((code.length / 16 : Nat) : Int) > most
  · simp only [run0, run1, run2, run3, run4, noSlot, ownS, ownK, memN, RO.dst, lk, drop, forget, number, Nat.reduceBEq, cut?, splice?, builds, List.length_cons, List.length_nil, List.drop_succ_cons, List.drop_zero, List.take_succ_cons, List.take_zero, List.cons_append, List.nil_append, List.append_nil, List.drop_nil, List.take_nil, Nat.reduceAdd, Nat.reduceLeDiff, Nat.zero_add, Nat.add_zero, ↓reduceIte, Bool.not_true, Bool.not_false, decide_true, decide_false, eq_self, bne_self_eq_false, List.getElem?_cons_zero, List.getElem?_cons_succ, decide_eq_true_eq, Bool.false_eq_true, Bool.true_eq_false, reduceCtorEq, Nat.le_refl, w.len, hb, h2, hgt]
    exact ⟨_, rfl, hm, by omega⟩
  · simp only [run0, run1, run2, run3, run4, noSlot, ownS, ownK, memN, RO.dst, lk, drop, forget, number, Nat.reduceBEq, cut?, splice?, builds, List.length_cons, List.length_nil, List.drop_succ_cons, List.drop_zero, List.take_succ_cons, List.take_zero, List.cons_append, List.nil_append, List.append_nil, List.drop_nil, List.take_nil, Nat.reduceAdd, Nat.reduceLeDiff, Nat.zero_add, Nat.add_zero, ↓reduceIte, Bool.not_true, Bool.not_false, decide_true, decide_false, eq_self, bne_self_eq_false, List.getElem?_cons_zero, List.getElem?_cons_succ, decide_eq_true_eq, Bool.false_eq_true, Bool.true_eq_false, reduceCtorEq, Nat.le_refl, w.len, hb, h2, hgt]
    exact ⟨_, rfl, by omega, by omega⟩
theorem l01New_c (hS : Has F tS01d) (hf : h.floor ≤ h.next) (w : Vw 19 byte_enc h x code) : ∃ h', call F Z 194 [.c x] h = some (.c (.ptr h.next 0 0), h') ∧ On h h' ∧ Cur h' h.next x code := by
  have hle := w.le2
  rw [call_run F Z (hS.lk (g := 194) rfl) _ _ rfl]
  simp only [run0, run1, run2, run3, run4, noSlot, ownS, ownK, memN, RO.dst, lk, drop, forget, number, Nat.reduceBEq, cut?, splice?, builds, List.length_cons, List.length_nil, List.drop_succ_cons, List.drop_zero, List.take_succ_cons, List.take_zero, List.cons_append, List.nil_append, List.append_nil, List.drop_nil, List.take_nil, Nat.reduceAdd, Nat.reduceLeDiff, Nat.zero_add, Nat.add_zero, ↓reduceIte, Bool.not_true, Bool.not_false, decide_true, decide_false, eq_self, bne_self_eq_false, List.getElem?_cons_zero, List.getElem?_cons_succ, decide_eq_true_eq, Bool.false_eq_true, Bool.true_eq_false, reduceCtorEq, Nat.le_refl, w.len]
  have key := loop_goes (F := F) (Z := Z) (live := [0, 3, 4]) (b := r194L0) (min code.length 4000) (fun i s => ∃ hh : Int, s = ⟨[(0, .c x), (3, .c (.int .i64 hh)), (4, .c (.int .i64 (i : Nat)))], [], [], h⟩) (fun i s hi ⟨hh, hs⟩ => by
    subst hs
    have hlt : (i : Int) < code.length := by omega
    have h4 : (i : Int) < 4000 := by omega
    have hid := w.idx (i := i) (by omega)
    have hld := w.load (i := i) (by omega)
    have hws := wrapS i (by omega)
    refine ⟨?aa, ?pp, ?ee⟩
    case ee =>
      rw [loop_run]
      conv in (codeF _ _ r194L0 _) => unfold r194L0
      simp only [run0, run1, run2, run3, run4, noSlot, ownS, ownK, memN, RO.dst, lk, drop, forget, number, Nat.reduceBEq, cut?, splice?, builds, List.length_cons, List.length_nil, List.drop_succ_cons, List.drop_zero, List.take_succ_cons, List.take_zero, List.cons_append, List.nil_append, List.append_nil, List.drop_nil, List.take_nil, Nat.reduceAdd, Nat.reduceLeDiff, Nat.zero_add, Nat.add_zero, ↓reduceIte, Bool.not_true, Bool.not_false, decide_true, decide_false, eq_self, bne_self_eq_false, List.getElem?_cons_zero, List.getElem?_cons_succ, decide_eq_true_eq, Bool.false_eq_true, Bool.true_eq_false, reduceCtorEq, Nat.le_refl, w.len, hlt, h4, hid, hld, byte_enc, b_and, hws]
      rfl
    case pp => exact ⟨_, rfl⟩) (s := ⟨[(0, .c x), (3, .c (.int .i64 (IntKind.i64.wrap (138138 + (code.length : Nat))))), (4, .c (.int .i64 ((0 : Nat) : Int)))], [], [], h⟩) ⟨_, rfl⟩
  obtain ⟨s', ⟨hh, rfl⟩, e⟩ := key
  simp only [show ((0 : Nat) : Int) = 0 from rfl] at e
  rw [e, loop_run]
  conv in (codeF _ _ r194L0 _) => unfold r194L0
  have hcur : Cur (h.push [[x, .int .i64 0, .int .i64 hh]]) h.next x code := by
    refine ⟨⟨hf, by simp [Heap.push]⟩, w.on (On.push _ _), ?_, 0, hh, by simp [Heap.push], by omega, by omega⟩
    rcases w with ⟨_, ⟨rfl, _⟩ | ⟨id, off, rows, rfl, _, h3, _⟩⟩
    · exact .inl rfl
    · exact .inr (by simp [Cell.sid]; omega)
  by_cases hc : code.length ≤ 4000
  · have hlt : ¬ ((min code.length 4000 : Nat) : Int) < code.length := by omega
    simp only [run0, run1, run2, run3, run4, noSlot, ownS, ownK, memN, RO.dst, lk, drop, forget, number, Nat.reduceBEq, cut?, splice?, builds, List.length_cons, List.length_nil, List.drop_succ_cons, List.drop_zero, List.take_succ_cons, List.take_zero, List.cons_append, List.nil_append, List.append_nil, List.drop_nil, List.take_nil, Nat.reduceAdd, Nat.reduceLeDiff, Nat.zero_add, Nat.add_zero, ↓reduceIte, Bool.not_true, Bool.not_false, decide_true, decide_false, eq_self, bne_self_eq_false, List.getElem?_cons_zero, List.getElem?_cons_succ, decide_eq_true_eq, Bool.false_eq_true, Bool.true_eq_false, reduceCtorEq, Nat.le_refl, w.len, hlt]
    exact ⟨_, rfl, On.push _ _, hcur⟩
  · have hlt : ((min code.length 4000 : Nat) : Int) < code.length := by omega
    have h4 : ¬ ((min code.length 4000 : Nat) : Int) < 4000 := by omega
    simp only [run0, run1, run2, run3, run4, noSlot, ownS, ownK, memN, RO.dst, lk, drop, forget, number, Nat.reduceBEq, cut?, splice?, builds, List.length_cons, List.length_nil, List.drop_succ_cons, List.drop_zero, List.take_succ_cons, List.take_zero, List.cons_append, List.nil_append, List.append_nil, List.drop_nil, List.take_nil, Nat.reduceAdd, Nat.reduceLeDiff, Nat.zero_add, Nat.add_zero, ↓reduceIte, Bool.not_true, Bool.not_false, decide_true, decide_false, eq_self, bne_self_eq_false, List.getElem?_cons_zero, List.getElem?_cons_succ, decide_eq_true_eq, Bool.false_eq_true, Bool.true_eq_false, reduceCtorEq, Nat.le_refl, w.len, hlt, h4]
    exact ⟨_, rfl, On.push _ _, hcur⟩
/-! ### numbers of 64 bits -/
theorem wrapU_in (z : Int) : 0 ≤ IntKind.u64.wrap z ∧ IntKind.u64.wrap z ≤ 18446744073709551615 := by
  show 0 ≤ (if (false && decide (z % 18446744073709551616 ≥ 9223372036854775808)) = true then z % 18446744073709551616 - 18446744073709551616 else z % 18446744073709551616) ∧ (if (false && decide (z % 18446744073709551616 ≥ 9223372036854775808)) = true then z % 18446744073709551616 - 18446744073709551616 else z % 18446744073709551616) ≤ _
  rw [if_neg (by simp)]
  omega
theorem shr_in {a : Int} (ha : 0 ≤ a ∧ a ≤ 18446744073709551615) (b : Int) : 0 ≤ shrI .u64 a b ∧ shrI .u64 a b ≤ 18446744073709551615 := by
  unfold shrI
  generalize min b.toNat IntKind.u64.bits = n
  have hp : (0 : Int) < 2 ^ n := Int.pow_pos (by omega)
  rw [Int.fdiv_eq_ediv_of_nonneg _ (Int.le_of_lt hp)]
  exact ⟨Int.ediv_nonneg ha.1 (Int.le_of_lt hp), Int.le_trans (Int.ediv_le_self _ ha.1) ha.2⟩
set_option maxHeartbeats 1000000 in
theorem l01Big_c (hS : Has F tS01d) (c : Cur h k x code) : ∃ r h', call F Z 264 [.c (.ptr k 0 0)] h = some (.c (.int .u64 r), h') ∧ (0 ≤ r ∧ r ≤ 18446744073709551615) ∧ Mk h h' [k] ∧ Cur h' k x code := by
  obtain ⟨r1, h1, e1, r0, rn, _, m1, c1⟩ := l01Below_c (Z := Z) hS c 8
  rw [call_run F Z (hS.lk (g := 264) rfl) _ _ rfl]
  by_cases a0 : r1 = 0
  · simp only [run0, run1, run2, run3, run4, noSlot, ownS, ownK, memN, RO.dst, lk, drop, forget, number, Nat.reduceBEq, cut?, splice?, builds, List.length_cons, List.length_nil, List.drop_succ_cons, List.drop_zero, List.take_succ_cons, List.take_zero, List.cons_append, List.nil_append, List.append_nil, List.drop_nil, List.take_nil, Nat.reduceAdd, Nat.reduceLeDiff, Nat.zero_add, Nat.add_zero, ↓reduceIte, Bool.not_true, Bool.not_false, decide_true, decide_false, eq_self, bne_self_eq_false, List.getElem?_cons_zero, List.getElem?_cons_succ, decide_eq_true_eq, Bool.false_eq_true, Bool.true_eq_false, reduceCtorEq, Nat.le_refl, e1, show (r1 == 0) = true by simpa using a0]
    exact ⟨_, _, rfl, by omega, m1, c1⟩
  have b0 : (r1 == 0) = false := by simpa using a0
  by_cases a1 : r1 = 1
  · simp only [run0, run1, run2, run3, run4, noSlot, ownS, ownK, memN, RO.dst, lk, drop, forget, number, Nat.reduceBEq, cut?, splice?, builds, List.length_cons, List.length_nil, List.drop_succ_cons, List.drop_zero, List.take_succ_cons, List.take_zero, List.cons_append, List.nil_append, List.append_nil, List.drop_nil, List.take_nil, Nat.reduceAdd, Nat.reduceLeDiff, Nat.zero_add, Nat.add_zero, ↓reduceIte, Bool.not_true, Bool.not_false, decide_true, decide_false, eq_self, bne_self_eq_false, List.getElem?_cons_zero, List.getElem?_cons_succ, decide_eq_true_eq, Bool.false_eq_true, Bool.true_eq_false, reduceCtorEq, Nat.le_refl, e1, b0, show (r1 == 1) = true by simpa using a1]
    exact ⟨_, _, rfl, by omega, m1, c1⟩
  have b1 : (r1 == 1) = false := by simpa using a1
  by_cases a2 : r1 = 2
  · obtain ⟨r2, h2, e2, s0, sn, _, m2, c2⟩ := l01Below_c (Z := Z) hS c1 300
    simp only [run0, run1, run2, run3, run4, noSlot, ownS, ownK, memN, RO.dst, lk, drop, forget, number, Nat.reduceBEq, cut?, splice?, builds, List.length_cons, List.length_nil, List.drop_succ_cons, List.drop_zero, List.take_succ_cons, List.take_zero, List.cons_append, List.nil_append, List.append_nil, List.drop_nil, List.take_nil, Nat.reduceAdd, Nat.reduceLeDiff, Nat.zero_add, Nat.add_zero, ↓reduceIte, Bool.not_true, Bool.not_false, decide_true, decide_false, eq_self, bne_self_eq_false, List.getElem?_cons_zero, List.getElem?_cons_succ, decide_eq_true_eq, Bool.false_eq_true, Bool.true_eq_false, reduceCtorEq, Nat.le_refl, e1, b0, b1, show (r1 == 2) = true by simpa using a2, e2]
    exact ⟨_, _, rfl, wrapU_in _, m1.then m2, c2⟩
  have b2 : (r1 == 2) = false := by simpa using a2
  by_cases a3 : r1 = 3
  · obtain ⟨r2, h2, e2, s0, sn, _, m2, c2⟩ := l01Below_c (Z := Z) hS c1 300
    simp only [run0, run1, run2, run3, run4, noSlot, ownS, ownK, memN, RO.dst, lk, drop, forget, number, Nat.reduceBEq, cut?, splice?, builds, List.length_cons, List.length_nil, List.drop_succ_cons, List.drop_zero, List.take_succ_cons, List.take_zero, List.cons_append, List.nil_append, List.append_nil, List.drop_nil, List.take_nil, Nat.reduceAdd, Nat.reduceLeDiff, Nat.zero_add, Nat.add_zero, ↓reduceIte, Bool.not_true, Bool.not_false, decide_true, decide_false, eq_self, bne_self_eq_false, List.getElem?_cons_zero, List.getElem?_cons_succ, decide_eq_true_eq, Bool.false_eq_true, Bool.true_eq_false, reduceCtorEq, Nat.le_refl, e1, b0, b1, b2, show (r1 == 3) = true by simpa using a3, e2]
    exact ⟨_, _, rfl, wrapU_in _, m1.then m2, c2⟩
  have b3 : (r1 == 3) = false := by simpa using a3
  by_cases a4 : r1 = 4
  · obtain ⟨r2, h2, e2, s0, sn, _, m2, c2⟩ := l01Below_c (Z := Z) hS c1 64
    have hw : IntKind.u64.wrap r2 = r2 := wrapU _ s0 (by have := sn (by omega); omega)
    simp only [run0, run1, run2, run3, run4, noSlot, ownS, ownK, memN, RO.dst, lk, drop, forget, number, Nat.reduceBEq, cut?, splice?, builds, List.length_cons, List.length_nil, List.drop_succ_cons, List.drop_zero, List.take_succ_cons, List.take_zero, List.cons_append, List.nil_append, List.append_nil, List.drop_nil, List.take_nil, Nat.reduceAdd, Nat.reduceLeDiff, Nat.zero_add, Nat.add_zero, ↓reduceIte, Bool.not_true, Bool.not_false, decide_true, decide_false, eq_self, bne_self_eq_false, List.getElem?_cons_zero, List.getElem?_cons_succ, decide_eq_true_eq, Bool.false_eq_true, Bool.true_eq_false, reduceCtorEq, Nat.le_refl, e1, b0, b1, b2, b3, show (r1 == 4) = true by simpa using a4, e2, hw, b_shl _ _ _ _ s0]
    exact ⟨_, _, rfl, wrapU_in _, m1.then m2, c2⟩
  have b4 : (r1 == 4) = false := by simpa using a4
  simp only [run0, run1, run2, run3, run4, noSlot, ownS, ownK, memN, RO.dst, lk, drop, forget, number, Nat.reduceBEq, cut?, splice?, builds, List.length_cons, List.length_nil, List.drop_succ_cons, List.drop_zero, List.take_succ_cons, List.take_zero, List.cons_append, List.nil_append, List.append_nil, List.drop_nil, List.take_nil, Nat.reduceAdd, Nat.reduceLeDiff, Nat.zero_add, Nat.add_zero, ↓reduceIte, Bool.not_true, Bool.not_false, decide_true, decide_false, eq_self, bne_self_eq_false, List.getElem?_cons_zero, List.getElem?_cons_succ, decide_eq_true_eq, Bool.false_eq_true, Bool.true_eq_false, reduceCtorEq, Nat.le_refl, e1, b0, b1, b2, b3, b4]
  have key := loop_goes (F := F) (Z := Z) (live := [0, 3, 4]) (b := r264L0) 8 (fun i s => ∃ (z : Int) (g : Heap), s = ⟨[(0, .c (.ptr k 0 0)), (3, .c (.int .u64 z)), (4, .c (.int .i64 (i : Nat)))], [], [], g⟩ ∧ (0 ≤ z ∧ z ≤ 18446744073709551615) ∧ Mk h g [k] ∧ Cur g k x code) (fun i s hi ⟨z, g, hs, hz, m, cg⟩ => by
    subst hs
    obtain ⟨r2, g2, e2, s0, sn, _, m2, c2⟩ := l01Below_c (Z := Z) hS cg 256
    have hlt : (i : Int) < 8 := by omega
    have hws := wrapS i (by omega)
    refine ⟨?aa, ?pp, ?ee⟩
    case ee =>
      rw [loop_run]
      conv in (codeF _ _ r264L0 _) => unfold r264L0
      simp only [run0, run1, run2, run3, run4, noSlot, ownS, ownK, memN, RO.dst, lk, drop, forget, number, Nat.reduceBEq, cut?, splice?, builds, List.length_cons, List.length_nil, List.drop_succ_cons, List.drop_zero, List.take_succ_cons, List.take_zero, List.cons_append, List.nil_append, List.append_nil, List.drop_nil, List.take_nil, Nat.reduceAdd, Nat.reduceLeDiff, Nat.zero_add, Nat.add_zero, ↓reduceIte, Bool.not_true, Bool.not_false, decide_true, decide_false, eq_self, bne_self_eq_false, List.getElem?_cons_zero, List.getElem?_cons_succ, decide_eq_true_eq, Bool.false_eq_true, Bool.true_eq_false, reduceCtorEq, Nat.le_refl, hlt, e2, hws]
      rfl
    case pp => exact ⟨_, g2, rfl, wrapU_in _, m.then m2, c2⟩) (s := ⟨[(0, .c (.ptr k 0 0)), (3, .c (.int .u64 0)), (4, .c (.int .i64 ((0 : Nat) : Int)))], [], [], h1⟩) ⟨_, _, rfl, by omega, m1, c1⟩
  obtain ⟨s', ⟨z, g, rfl, hz, m, cg⟩, e⟩ := key
  obtain ⟨r2, g2, e2, s0, sn, _, m2, c2⟩ := l01Below_c (Z := Z) hS cg 64
  have hw : IntKind.u64.wrap r2 = r2 := wrapU _ s0 (by have := sn (by omega); omega)
  simp only [show ((0 : Nat) : Int) = 0 from rfl] at e
  rw [e, loop_run]
  conv in (codeF _ _ r264L0 _) => unfold r264L0
  simp only [run0, run1, run2, run3, run4, noSlot, ownS, ownK, memN, RO.dst, lk, drop, forget, number, Nat.reduceBEq, cut?, splice?, builds, List.length_cons, List.length_nil, List.drop_succ_cons, List.drop_zero, List.take_succ_cons, List.take_zero, List.cons_append, List.nil_append, List.append_nil, List.drop_nil, List.take_nil, Nat.reduceAdd, Nat.reduceLeDiff, Nat.zero_add, Nat.add_zero, ↓reduceIte, Bool.not_true, Bool.not_false, decide_true, decide_false, eq_self, bne_self_eq_false, List.getElem?_cons_zero, List.getElem?_cons_succ, decide_eq_true_eq, Bool.false_eq_true, Bool.true_eq_false, reduceCtorEq, Nat.le_refl, show ¬ (((8 : Nat) : Int) < 8) by omega, e2, hw, b_shr _ _ _ _ s0]
  exact ⟨_, _, rfl, shr_in hz _, m.then m2, c2⟩
/-! ### ids and amounts -/
theorem l10DrawId_c (hS : Has F tS01d) (hS10 : Has F tS10) (c : Cur h k x code) : ∃ r h', call F Z 235 [.c (.ptr k 0 0)] h = some (.c (.int .u64 r), h') ∧ (0 ≤ r ∧ r ≤ 18446744073709551615) ∧ Dr k h h' ∧ Cur h' k x code := by
  have o := On.push h [[.int .u64 0], [.int .u64 1], [.int .u64 2], [.int .u64 5], [.int .u64 9], [.int .u64 100], [.int .u64 9223372036854775808], [.int .u64 18446744073709551615]]
  obtain ⟨r1, h1, e1, r0, rn, _, m1, c1⟩ := l01Below_c (Z := Z) hS (c.on o) 8
  have hlt := rn (by omega)
  obtain ⟨j, rfl⟩ : ∃ j : Nat, r1 = (j : Int) := ⟨r1.toNat, by omega⟩
  have hj : j < 8 := by omega
  have hg : h1.get h.next = some [[.int .u64 0], [.int .u64 1], [.int .u64 2], [.int .u64 5], [.int .u64 9], [.int .u64 100], [.int .u64 9223372036854775808], [.int .u64 18446744073709551615]] := by
    rw [m1.get _ (by have := c.fl.2; simp; omega)]; simp [Heap.push]
  have hid : idxR 13 (some (.sl 13 h.next 0 8)) (some (j : Int)) = some (.ptr h.next j 0) := by rw [idxR_s, if_pos (by omega)]; simp
  obtain ⟨v, hv, hvr⟩ : ∃ v : Int, loadP h1 h.next j 0 1 = some [.int .u64 v] ∧ (0 ≤ v ∧ v ≤ 18446744073709551615) := by
    match j, hj with
    | 0, _ => exact ⟨0, by simp [loadP, rowOf, hg, cut?], by omega⟩
    | 1, _ => exact ⟨1, by simp [loadP, rowOf, hg, cut?], by omega⟩
    | 2, _ => exact ⟨2, by simp [loadP, rowOf, hg, cut?], by omega⟩
    | 3, _ => exact ⟨5, by simp [loadP, rowOf, hg, cut?], by omega⟩
    | 4, _ => exact ⟨9, by simp [loadP, rowOf, hg, cut?], by omega⟩
    | 5, _ => exact ⟨100, by simp [loadP, rowOf, hg, cut?], by omega⟩
    | 6, _ => exact ⟨9223372036854775808, by simp [loadP, rowOf, hg, cut?], by omega⟩
    | 7, _ => exact ⟨18446744073709551615, by simp [loadP, rowOf, hg, cut?], by omega⟩
  rw [call_run F Z (hS10.lk (g := 235) rfl) _ _ rfl]
  simp only [run0, run1, run2, run3, run4, noSlot, ownS, ownK, memN, RO.dst, lk, drop, forget, number, Nat.reduceBEq, cut?, splice?, builds, List.length_cons, List.length_nil, List.drop_succ_cons, List.drop_zero, List.take_succ_cons, List.take_zero, List.cons_append, List.nil_append, List.append_nil, List.drop_nil, List.take_nil, Nat.reduceAdd, Nat.reduceLeDiff, Nat.zero_add, Nat.add_zero, ↓reduceIte, Bool.not_true, Bool.not_false, decide_true, decide_false, eq_self, bne_self_eq_false, List.getElem?_cons_zero, List.getElem?_cons_succ, decide_eq_true_eq, Bool.false_eq_true, Bool.true_eq_false, reduceCtorEq, Nat.le_refl, List.replicate_succ, List.replicate_zero, fills, and_self, List.set_cons_zero, List.set_cons_succ, Nat.reduceLT, Nat.zero_lt_succ, e1, hid, hv]
  exact ⟨_, _, rfl, hvr, (o.dr k).trans m1.dr, c1⟩
theorem l10DrawAmount_c (hS : Has F tS01d) (hS10 : Has F tS10) (c : Cur h k x code) : ∃ r h', call F Z 237 [.c (.ptr k 0 0)] h = some (.c (.int .u64 r), h') ∧ (0 ≤ r ∧ r ≤ 18446744073709551615) ∧ Mk h h' [k] ∧ Cur h' k x code := by
  obtain ⟨b, h1, e1, m1, c1⟩ := l01Once_c (Z := Z) hS c 5
  rw [call_run F Z (hS10.lk (g := 237) rfl) _ _ rfl]
  cases b with
  | true =>
    obtain ⟨r, h2, e2, hr, m2, c2⟩ := l01Big_c (Z := Z) hS c1
    simp only [run0, run1, run2, run3, run4, noSlot, ownS, ownK, memN, RO.dst, lk, drop, forget, number, Nat.reduceBEq, cut?, splice?, builds, List.length_cons, List.length_nil, List.drop_succ_cons, List.drop_zero, List.take_succ_cons, List.take_zero, List.cons_append, List.nil_append, List.append_nil, List.drop_nil, List.take_nil, Nat.reduceAdd, Nat.reduceLeDiff, Nat.zero_add, Nat.add_zero, ↓reduceIte, Bool.not_true, Bool.not_false, decide_true, decide_false, eq_self, bne_self_eq_false, List.getElem?_cons_zero, List.getElem?_cons_succ, decide_eq_true_eq, Bool.false_eq_true, Bool.true_eq_false, reduceCtorEq, Nat.le_refl, e1, e2]
    exact ⟨_, _, rfl, hr, m1.then m2, c2⟩
  | false =>
    obtain ⟨r, h2, e2, _, _, _, m2, c2⟩ := l01Below_c (Z := Z) hS c1 60
    simp only [run0, run1, run2, run3, run4, noSlot, ownS, ownK, memN, RO.dst, lk, drop, forget, number, Nat.reduceBEq, cut?, splice?, builds, List.length_cons, List.length_nil, List.drop_succ_cons, List.drop_zero, List.take_succ_cons, List.take_zero, List.cons_append, List.nil_append, List.append_nil, List.drop_nil, List.take_nil, Nat.reduceAdd, Nat.reduceLeDiff, Nat.zero_add, Nat.add_zero, ↓reduceIte, Bool.not_true, Bool.not_false, decide_true, decide_false, eq_self, bne_self_eq_false, List.getElem?_cons_zero, List.getElem?_cons_succ, decide_eq_true_eq, Bool.false_eq_true, Bool.true_eq_false, reduceCtorEq, Nat.le_refl, e1, e2]
    exact ⟨_, _, rfl, wrapU_in _, m1.then m2, c2⟩
end
end Go.Proofs.Ytlbagejkjkfkjaa.A
/- What append leaves alone. -/
namespace Go.Proofs.Ytlbagejkjkfkjaa.A
open Go
set_option linter.unusedSimpArgs false
set_option linter.unusedVariables false
/-! ### what append leaves alone -/
section
variable {α : Type} {R : Rel α} {h : Heap} {tag tag' : Nat} {x : Cell} {xs : List α} {fp : List Nat}
theorem catH_keep (w : SlR tag R h x xs fp) (new : List (List Cell)) {id : Nat} (hid : id < h.next) (hn : id ∉ fp) : (catH h x new).get id = h.get id := by
  rcases w with ⟨_, ⟨rfl, _, _⟩ | ⟨k, rows, fps, rfl, _, _, rfl, _⟩⟩
  · simp only [catH]
    split
    · rfl
    · simp only [Heap.push]; rw [if_neg (by omega)]
  · have hk : id ≠ k := fun he => hn (by simp [he])
    show (if id = h.next then some (((h.get k).getD []) ++ new) else (if id = k then none else h.get id)) = h.get id
    rw [if_neg (by omega), if_neg hk]
theorem catH_next (h : Heap) (x : Cell) (new : List (List Cell)) : h.next ≤ (catH h x new).next := by
  unfold catH
  split
  · simp [Heap.push, Heap.kill]
  · split
    · exact Nat.le_refl _
    · simp [Heap.push]
theorem catX_sid (tag : Nat) (h : Heap) (x : Cell) : (catX tag h x 1).sid = h.next := by cases x <;> rfl
/-- Cells that show something, beside a list that grows. -/
structure Beside {β : Type} (P : Rel β) (tag : Nat) (h0 g : Heap) (y : Cell) (rows : List (List Cell)) (cs : List Cell) (b : β) (fq : List Nat) : Prop where
  acc : Acc tag h0 g y rows
  v : P g cs b fq
  fr : Fre h0 fq
  dj : ∃ fy, SlR tag (Fl fun r => r) g y rows fy ∧ Fre h0 fy ∧ ∀ id, id ∈ fq → id ∉ fy
theorem Beside.step {β : Type} {P : Rel β} (okP : RelOk P) {h0 g g1 : Heap} {y : Cell} {rows : List (List Cell)} {cs cs1 : List Cell} {b b1 : β} {fq fq1 : List Nat} (w : Beside P tag h0 g y rows cs b fq) (hf : h0.floor ≤ h0.next) (hl : rows.length + 1 ≤ 140737488355328)
    (o : On g g1) (v1 : P g1 cs1 b1 fq1) (f1 : Fre g fq1) (row : List Cell) :
    Beside P tag h0 (catH (g1.push [row]) y [row]) (catX tag (g1.push [row]) y 1) (rows ++ [row]) cs1 b1 fq1 := by
  have a1 := w.acc.go o
  have a2 := a1.one hf hl row
  obtain ⟨fy, hy, fry, dj⟩ := w.dj
  have hy1 := hy.on (Fl.ok _) o
  have hyp := hy1.on (Fl.ok _) (On.push g1 [row])
  have hlt := okP.lt v1
  have hoff : ∀ id, id ∈ fq1 → id ∉ fy := fun id h1 h2 => by
    have := f1.lo id h1
    have := hy.lt (Fl.ok _) id h2
    omega
  refine ⟨a2, okP.mv v1 ?_ fun id hid => ?_, ⟨fun id hid => ?_, f1.nd⟩, ?_⟩
  · exact Nat.le_trans (by simp [Heap.push]) (catH_next (g1.push [row]) y [row])
  · have h1 := hlt id hid
    rw [catH_keep hyp [row] (by simp only [Heap.push]; omega) (hoff id hid)]
    simp only [Heap.push]; rw [if_neg (by omega)]
  · have := f1.lo id hid
    have := w.acc.on.ext.1
    omega
  · obtain ⟨fy2, q1, q2⟩ := a2.sh
    refine ⟨fy2, q1, q2, fun id h1 h2 => ?_⟩
    have h3 : id ∈ [(catX tag (g1.push [row]) y 1).sid] := by
      rcases q1.flat with ⟨_, h4, _⟩ | ⟨_, _, _, h4⟩
      · simp at h4
      · rw [← h4]; exact h2
    rw [catX_sid] at h3
    have := hlt id h1
    simp only [Heap.push, List.mem_cons, List.not_mem_nil, or_false] at h3
    omega
end
end Go.Proofs.Ytlbagejkjkfkjaa.A
/- Lists that are gathered while a cursor goes on. -/
namespace Go.Proofs.Ytlbagejkjkfkjaa.A
open Go
set_option linter.unusedSimpArgs false
set_option linter.unusedVariables false
/-- A cursor that was made behind h0; what lay there is there. -/
structure Cux (h0 h : Heap) (k : Nat) (x : Cell) (code : List Int) : Prop where
  on : On h0 h
  cur : Cur h k x code
  lo : h0.next ≤ k
  src : x = .nil ∨ x.sid < h0.next
/-- A list that grows beside a cursor. -/
structure Draw (tag : Nat) (h0 h : Heap) (k : Nat) (x : Cell) (code : List Int) (y : Cell) (rows : List (List Cell)) : Prop where
  cux : Cux h0 h k x code
  sep : ∃ fp, SlR tag (Fl fun r => r) h y rows fp ∧ Fre h0 fp ∧ k ∉ fp
section
variable {h0 h h' : Heap} {k tag : Nat} {x y : Cell} {code : List Int} {rows : List (List Cell)}
theorem Dr.base (d : Dr k h h') (o : On h0 h) (lo : h0.next ≤ k) : On h0 h' := ⟨⟨Nat.le_trans o.ext.1 d.next, fun id hid => (d.get id (Nat.lt_of_lt_of_le hid o.ext.1) (by omega)).trans (o.ext.2 id hid)⟩, d.fl.trans o.fl⟩
theorem Cux.dr (w : Cux h0 h k x code) (d : Dr k h h') (c : Cur h' k x code) : Cux h0 h' k x code := ⟨d.base w.on w.lo, c, w.lo, w.src⟩
theorem Cux.go (w : Cux h0 h k x code) (o : On h h') : Cux h0 h' k x code := ⟨w.on.trans o, w.cur.on o, w.lo, w.src⟩
theorem Cux.le (w : Cux h0 h k x code) (hf : h0.floor ≤ h0.next) : h.floor ≤ h.next := w.on.le hf
theorem Draw.acc (w : Draw tag h0 h k x code y rows) : Acc tag h0 h y rows := by
  obtain ⟨fp, h1, h2, _⟩ := w.sep
  exact ⟨w.cux.on, fp, h1, h2⟩
theorem Draw.dr (w : Draw tag h0 h k x code y rows) (d : Dr k h h') (c : Cur h' k x code) : Draw tag h0 h' k x code y rows := by
  obtain ⟨fp, h1, h2, h3⟩ := w.sep
  exact ⟨w.cux.dr d c, fp, h1.dr (Fl.ok _) d h3, h2, h3⟩
theorem Draw.go (w : Draw tag h0 h k x code y rows) (o : On h h') : Draw tag h0 h' k x code y rows := w.dr (o.dr k) (w.cux.cur.on o)
theorem Draw.start (w : Cux h0 h k x code) : Draw tag h0 (h.push []) k x code (.sl tag h.next 0 0) [] := by
  have hk := w.cur.fl.2
  refine ⟨w.go (On.push h []), ?_⟩
  obtain ⟨fy, h1, h2⟩ := (Acc.lit0 (tag := tag) w.on).sh
  refine ⟨fy, h1, h2, fun hy => ?_⟩
  rcases h1.flat with ⟨_, _, h3⟩ | ⟨_, _, _, h3⟩
  · rw [h3] at hy; cases hy
  · rw [h3] at hy
    simp [Cell.sid] at hy; omega
theorem Draw.one (w : Draw tag h0 h k x code y rows) (hf : h0.floor ≤ h0.next) (hl : rows.length + 1 ≤ 140737488355328) (row : List Cell) :
    Draw tag h0 (catH (h.push [row]) y [row]) k x code (catX tag (h.push [row]) y 1) (rows ++ [row]) := by
  have a2 := w.acc.one hf hl row
  obtain ⟨fp, h1, h2, h3⟩ := w.sep
  have hp := h1.on (Fl.ok _) (On.push h [row])
  have hk := w.cux.cur.fl.2
  have hn : h.next ≤ (catH (h.push [row]) y [row]).next := Nat.le_trans (by simp [Heap.push]) (catH_next (h.push [row]) y [row])
  have keep : ∀ id, id < h.next → id ∉ fp → (catH (h.push [row]) y [row]).get id = h.get id := fun id hid hnf => by
    rw [catH_keep hp [row] (by simp only [Heap.push]; omega) hnf]
    simp only [Heap.push]; rw [if_neg (by omega)]
  obtain ⟨i, hh, r1, r2⟩ := w.cux.cur.row
  have hfl : (catH (h.push [row]) y [row]).floor = h.floor := by rw [a2.on.fl, w.cux.on.fl]
  refine ⟨⟨a2.on, ⟨⟨by rw [hfl]; exact w.cux.cur.fl.1, by omega⟩, ?_, w.cux.cur.ne, i, hh, by rw [keep k hk h3]; exact r1, r2⟩, w.cux.lo, w.cux.src⟩, ?_⟩
  · rcases w.cux.cur.vw with ⟨q0, q1 | ⟨id, off, rs, rfl, q2, q3, q4⟩⟩
    · exact ⟨q0, .inl q1⟩
    · refine ⟨q0, .inr ⟨id, off, rs, rfl, ?_, by omega, q4⟩⟩
      have hs : id < h0.next := w.cux.src.elim (fun h => (nomatch h)) fun h => h
      rw [keep id q3 fun hid => by have := h2.lo id hid; omega]; exact q2
  · obtain ⟨fp2, q1, q2⟩ := a2.sh
    refine ⟨fp2, q1, q2, fun hm => ?_⟩
    have h4 : k ∈ [(catX tag (h.push [row]) y 1).sid] := by
      rcases q1.flat with ⟨_, h4, _⟩ | ⟨_, _, _, h4⟩
      · simp at h4
      · rw [← h4]; exact hm
    rw [catX_sid] at h4
    simp only [Heap.push, List.mem_cons, List.not_mem_nil, or_false] at h4
    omega
theorem Draw.one_eq (w : Draw tag h0 h k x code y rows) (hf : h0.floor ≤ h0.next) {bytes : Nat} (hb : (rows.length + 1) * bytes ≤ 140737488355328) (row : List Cell) :
    appF (h.push [row]) tag bytes y (.sl tag h.next 0 1) = some (catX tag (h.push [row]) y 1, catH (h.push [row]) y [row]) := w.acc.one_eq hf hb row
end
/-! ### lists of numbers to pick from -/
section
variable {F : Nat → Option RF} {Z : CallF} {h : Heap} {k : Nat} {x : Cell} {code : List Int}
theorem pick_lit (hS : Has F tS01d) (c : Cur h k x code) (xs : List Int) (h1 : 0 < xs.length) (h2 : xs.length ≤ 1048576) :
    ∃ r h', call F Z 239 [.c (.ptr k 0 0), .c (.sl 15 h.next 0 xs.length)] (h.push (xs.map int_enc)) = some (.c (.int .i64 r), h') ∧ r ∈ xs ∧ Dr k h h' ∧ Cur h' k x code := by
  have o := On.push h (xs.map int_enc)
  have w : SlR 15 (Fl int_enc) (h.push (xs.map int_enc)) (.sl 15 h.next 0 xs.length) xs [h.next] := SlR.ofFlat (by unfold maxLen; omega) (push_get _ _) (by rw [push_next]; omega)
  obtain ⟨r, h', e, hr, m, c1⟩ := l01PickInt_c (Z := Z) hS (c.on o) w (by have := c.fl.2; simp; omega) h1
  exact ⟨r, h', e, hr, (o.dr k).trans m.dr, c1⟩
end
end Go.Proofs.Ytlbagejkjkfkjaa.A
/- A drawn transfer, and events for it. -/
namespace Go.Proofs.Ytlbagejkjkfkjaa.A
open Go
set_option linter.unusedSimpArgs false
set_option linter.unusedVariables false
section
variable {F : Nat → Option RF} {Z : CallF} {h0 h : Heap} {k : Nat} {x y : Cell} {code : List Int} {rows : List (List Cell)}
set_option maxHeartbeats 4000000 in
theorem drawEvents_turn (hS : Has F tS01d) (hf : h0.floor ≤ h0.next) (w : Draw 5 h0 h k x code y rows) (hl : rows.length ≤ 1000) (i : Int) (hi : 0 < i ∧ i ≤ 1000) :
    ∃ (e : TxEvent) (y' : Cell) (h' : Heap), Draw 5 h0 h' k x code y' (rows ++ [e.enc]) ∧ loop F Z [0, 5, 6] r196L0 ⟨[(0, .c (.ptr k 0 0)), (5, .c y), (6, .c (.int .i64 i))], [], [], h⟩ = loop F Z [0, 5, 6] r196L0 ⟨[(0, .c (.ptr k 0 0)), (5, .c y'), (6, .c (.int .i64 (i - 1)))], [], [], h'⟩ := by
  have hws : IntKind.i64.wrap (i - 1) = i - 1 := wrapI _ (by omega) (by omega)
  obtain ⟨r1, h1, e1, r10, r1n, _, m1, c1⟩ := l01Below_c (Z := Z) hS w.cux.cur 5
  have w1 := w.dr m1.dr c1
  have hw1 : IntKind.i64.wrap (r1 - 1) = r1 - 1 := wrapI _ (by omega) (by have := r1n (by omega); omega)
  obtain ⟨r2, h2, e2, _, d2, c2⟩ := pick_lit (Z := Z) hS c1 [0, 0, 0, 1, 1, 1, 2, r1 - 1] (by simp) (by simp)
  have w2 := w1.dr d2 c2
  obtain ⟨r3, h3, e3, r30, r3n, _, m3, c3⟩ := l01Below_c (Z := Z) hS c2 2
  have w3 := w2.dr m3.dr c3
  obtain ⟨r4, h4, e4, _, d4, c4⟩ := pick_lit (Z := Z) hS c3 [0, 0, 0, 0, 4, 2, 99, 100, -1] (by simp) (by simp)
  have w4 := w3.dr d4 c4
  obtain ⟨b5, h5, e5, m5, c5⟩ := l01Once_c (Z := Z) hS c4 25
  have w5 := w4.dr m5.dr c5
  simp only [List.map_cons, List.map_nil, int_enc, List.length_cons, List.length_nil, Nat.zero_add, Nat.reduceAdd] at e2 e4
  have hpos : i > 0 := hi.1
  cases b5 with
  | false =>
    have eo := w5.one_eq hf (bytes := 24) (by omega) (TxEvent.enc ⟨r2, r3, r4⟩)
    have wo := w5.one hf (by omega) (TxEvent.enc ⟨r2, r3, r4⟩)
    simp only [TxEvent.enc] at eo
    refine ⟨⟨r2, r3, r4⟩, _, _, wo, ?_⟩
    rw [loop_run]
    conv in (codeF _ _ r196L0 _) => unfold r196L0
    simp only [run0, run1, run2, run3, run4, noSlot, ownS, ownK, memN, RO.dst, lk, drop, forget, number, Nat.reduceBEq, cut?, splice?, builds, List.length_cons, List.length_nil, List.drop_succ_cons, List.drop_zero, List.take_succ_cons, List.take_zero, List.cons_append, List.nil_append, List.append_nil, List.drop_nil, List.take_nil, Nat.reduceAdd, Nat.reduceLeDiff, Nat.zero_add, Nat.add_zero, ↓reduceIte, Bool.not_true, Bool.not_false, decide_true, decide_false, eq_self, bne_self_eq_false, List.getElem?_cons_zero, List.getElem?_cons_succ, decide_eq_true_eq, Bool.false_eq_true, Bool.true_eq_false, reduceCtorEq, Nat.le_refl, hpos, e1, hw1, List.replicate_succ, List.replicate_zero, fills, and_self, List.set_cons_zero, List.set_cons_succ, Nat.reduceLT, Nat.zero_lt_succ, Nat.zero_lt_one, e2, e3, e4, e5, TxEvent.enc, eo, hws]
  | true =>
    obtain ⟨r6, h6, e6, _, d6, c6⟩ := pick_lit (Z := Z) hS c5 [-1, 2] (by simp) (by simp)
    have w6 := w5.dr d6 c6
    simp only [List.map_cons, List.map_nil, int_enc, List.length_cons, List.length_nil, Nat.zero_add, Nat.reduceAdd] at e6
    have eo := w6.one_eq hf (bytes := 24) (by omega) (TxEvent.enc ⟨r2, r6, r4⟩)
    have wo := w6.one hf (by omega) (TxEvent.enc ⟨r2, r6, r4⟩)
    simp only [TxEvent.enc] at eo
    refine ⟨⟨r2, r6, r4⟩, _, _, wo, ?_⟩
    rw [loop_run]
    conv in (codeF _ _ r196L0 _) => unfold r196L0
    simp only [run0, run1, run2, run3, run4, noSlot, ownS, ownK, memN, RO.dst, lk, drop, forget, number, Nat.reduceBEq, cut?, splice?, builds, List.length_cons, List.length_nil, List.drop_succ_cons, List.drop_zero, List.take_succ_cons, List.take_zero, List.cons_append, List.nil_append, List.append_nil, List.drop_nil, List.take_nil, Nat.reduceAdd, Nat.reduceLeDiff, Nat.zero_add, Nat.add_zero, ↓reduceIte, Bool.not_true, Bool.not_false, decide_true, decide_false, eq_self, bne_self_eq_false, List.getElem?_cons_zero, List.getElem?_cons_succ, decide_eq_true_eq, Bool.false_eq_true, Bool.true_eq_false, reduceCtorEq, Nat.le_refl, hpos, e1, hw1, List.replicate_succ, List.replicate_zero, fills, and_self, List.set_cons_zero, List.set_cons_succ, Nat.reduceLT, Nat.zero_lt_succ, Nat.zero_lt_one, e2, e3, e4, e5, e6, TxEvent.enc, eo, hws]
theorem l14DrawEvents_c (hS : Has F tS01d) (hS14 : Has F tS14) (hf : h0.floor ≤ h0.next) (w : Cux h0 h k x code) :
    ∃ (y : Cell) (h' : Heap) (es : List TxEvent), call F Z 196 [.c (.ptr k 0 0), .c x] h = some (.c y, h') ∧ Draw 5 h0 h' k x code y (es.map TxEvent.enc) ∧ es.length ≤ 100 := by
  have wp := w.go (On.push h [])
  obtain ⟨r1, e1, r1a, r1b⟩ := l01Size_c (Z := Z) hS wp.cur.vw 8 (by omega)
  have hw1 : IntKind.i64.wrap (2 + r1) = 2 + r1 := wrapI _ (by omega) (by omega)
  obtain ⟨n, h2, e2, n0, nn, _, m2, c2⟩ := l01Below_c (Z := Z) hS wp.cur (2 + r1)
  have hn := nn (by omega)
  obtain ⟨m, rfl⟩ : ∃ m : Nat, n = (m : Int) := ⟨n.toNat, by omega⟩
  rw [call_run F Z (hS14.lk (g := 196) rfl) _ _ rfl]
  simp only [run0, run1, run2, run3, run4, noSlot, ownS, ownK, memN, RO.dst, lk, drop, forget, number, Nat.reduceBEq, cut?, splice?, builds, List.length_cons, List.length_nil, List.drop_succ_cons, List.drop_zero, List.take_succ_cons, List.take_zero, List.cons_append, List.nil_append, List.append_nil, List.drop_nil, List.take_nil, Nat.reduceAdd, Nat.reduceLeDiff, Nat.zero_add, Nat.add_zero, ↓reduceIte, Bool.not_true, Bool.not_false, decide_true, decide_false, eq_self, bne_self_eq_false, List.getElem?_cons_zero, List.getElem?_cons_succ, decide_eq_true_eq, Bool.false_eq_true, Bool.true_eq_false, reduceCtorEq, Nat.le_refl, List.replicate_succ, List.replicate_zero, fills, and_self, List.set_cons_zero, List.set_cons_succ, Nat.reduceLT, Nat.zero_lt_succ, Nat.zero_lt_one, e1, hw1, e2]
  have key := loop_goes (F := F) (Z := Z) (live := [0, 5, 6]) (b := r196L0) m (fun i s => ∃ (y : Cell) (g : Heap) (es : List TxEvent), s = ⟨[(0, .c (.ptr k 0 0)), (5, .c y), (6, .c (.int .i64 ((m : Int) - (i : Nat))))], [], [], g⟩ ∧ Draw 5 h0 g k x code y (es.map TxEvent.enc) ∧ es.length = i) (fun i s hi ⟨y, g, es, hs, wd, hle⟩ => by
    subst hs
    obtain ⟨e, y', g', wd', eq⟩ := drawEvents_turn (F := F) (Z := Z) hS hf wd (by simp; omega) ((m : Int) - (i : Nat)) (by omega)
    refine ⟨_, ⟨y', g', es ++ [e], rfl, by simpa using wd', by simp [hle]⟩, ?_⟩
    rw [eq, show (m : Int) - (i : Nat) - 1 = (m : Int) - ((i + 1 : Nat) : Int) by omega]) (s := ⟨[(0, .c (.ptr k 0 0)), (5, .c (.sl 5 h.next 0 0)), (6, .c (.int .i64 ((m : Int) - ((0 : Nat) : Int))))], [], [], h2⟩) ⟨_, _, [], rfl, by simpa using (Draw.start w).dr m2.dr c2, rfl⟩
  obtain ⟨s', ⟨y, g, es, rfl, wd, hle⟩, e⟩ := key
  rw [show (m : Int) - ((0 : Nat) : Int) = (m : Int) by omega] at e
  rw [e, loop_run]
  conv in (codeF _ _ r196L0 _) => unfold r196L0
  simp only [run0, run1, run2, run3, run4, noSlot, ownS, ownK, memN, RO.dst, lk, drop, forget, number, Nat.reduceBEq, cut?, splice?, builds, List.length_cons, List.length_nil, List.drop_succ_cons, List.drop_zero, List.take_succ_cons, List.take_zero, List.cons_append, List.nil_append, List.append_nil, List.drop_nil, List.take_nil, Nat.reduceAdd, Nat.reduceLeDiff, Nat.zero_add, Nat.add_zero, ↓reduceIte, Bool.not_true, Bool.not_false, decide_true, decide_false, eq_self, bne_self_eq_false, List.getElem?_cons_zero, List.getElem?_cons_succ, decide_eq_true_eq, Bool.false_eq_true, Bool.true_eq_false, reduceCtorEq, Nat.le_refl, show ¬ ((m : Int) - (m : Int) > 0) by omega]
  exact ⟨_, _, es, rfl, wd, by omega⟩
end
end Go.Proofs.Ytlbagejkjkfkjaa.A
/- A drawn transfer is right; the play of one over a part of a list. -/
namespace Go.Proofs.Ytlbagejkjkfkjaa.A
open Go
set_option linter.unusedSimpArgs false
set_option linter.unusedVariables false
theorem vote_ok {t : Tx} (h : t.ok = true) (s c : Int) : (t.vote s c).1.ok = true := by
  obtain ⟨id, a, b, m, ph, yf, yt, af, at_, r⟩ := t
  unfold Tx.vote
  split
  · rename_i hc
    obtain ⟨_, h1, h2, h3, h4, h5, h6, h7⟩ := hc
    simp only at h1; subst h1
    cases yf <;> cases yt <;> split <;> (try split) <;> simp_all [Tx.ok, inR] <;> omega
  · exact h
theorem giveUp_ok {t : Tx} (h : t.ok = true) (c : Int) : (t.giveUp c).1.ok = true := by
  obtain ⟨id, a, b, m, ph, yf, yt, af, at_, r⟩ := t
  unfold Tx.giveUp
  split
  · rename_i hc
    obtain ⟨_, h1, h2⟩ := hc
    simp only at h1; subst h1
    simp_all [Tx.ok]
  · exact h
theorem ack_ok {t : Tx} (h : t.ok = true) (s : Int) : (t.ack s).1.ok = true := by
  obtain ⟨id, a, b, m, ph, yf, yt, af, at_, r⟩ := t
  unfold Tx.ack
  split
  · rename_i hc
    obtain ⟨_, h1, h2, h3, h4, h5, h6⟩ := hc
    simp only at h1 h2
    have hp : ph = 1 ∨ ph = 2 := by omega
    rcases hp with rfl | rfl <;> cases af <;> cases at_ <;> split <;> simp_all [Tx.ok]
  · exact h
theorem step_ok {t : Tx} (h : t.ok = true) (e : TxEvent) : (t.step e).1.ok = true := by
  unfold Tx.step
  cases (e.kind == 0) <;> simp only [cond_true, cond_false]
  · cases (e.kind == 1) <;> simp only [cond_true, cond_false]
    · cases (e.kind == 2) <;> simp only [cond_true, cond_false]
      · exact h
      · exact giveUp_ok h _
    · exact ack_ok h _
  · exact vote_ok h _ _
theorem playF_ok : ∀ (es : List TxEvent) {a : Tx × List Bool}, a.1.ok = true → (es.foldl (fun a e => ((a.1.step e).1, a.2 ++ [(a.1.step e).2])) a).1.ok = true
  | [], _, h => h
  | e :: r, _, h => playF_ok r (step_ok h e)
theorem play_ok {t : Tx} (h : t.ok = true) (es : List TxEvent) : (t.play es).1.ok = true := by
  unfold Tx.play
  cases (t.ok && decide (es.length ≤ 100)) <;> simp only [cond_true, cond_false]
  · exact h
  · exact playF_ok es (a := (t, [])) h
theorem new_ok {id a b m : Int} (h1 : 1 ≤ id) (h2 : a ≠ b) : Tx.ok ⟨id, a, b, m, 0, false, false, false, false, 0⟩ = true := by
  simp [Tx.ok]; omega
section
variable {F : Nat → Option RF} {Z : CallF} {h0 h : Heap} {k : Nat} {x y : Cell} {code : List Int}
theorem l14DrawRight_c (hS : Has F tS01d) (hS10 : Has F tS10) (hS14 : Has F tS14) (hf : h0.floor ≤ h0.next) (w : Cux h0 h k x code) :
    ∃ (t : Tx) (h' : Heap), call F Z 195 [.c (.ptr k 0 0), .c x] h = some (.agg t.enc, h') ∧ Cux h0 h' k x code ∧ t.ok = true := by
  obtain ⟨a, h1, e1, ra, d1, c1⟩ := l10DrawId_c (Z := Z) hS hS10 w.cur
  have w1 := w.dr d1 c1
  obtain ⟨b, h2, e2, rb, d2, c2⟩ := l10DrawId_c (Z := Z) hS hS10 w1.cur
  have w2 := w1.dr d2 c2
  obtain ⟨n, h3, e3, n0, nn, _, m3, c3⟩ := l01Below_c (Z := Z) hS w2.cur 5
  have w3 := w2.dr m3.dr c3
  have hw : IntKind.i64.wrap (1 + n) = 1 + n := wrapI _ (by omega) (by have := nn (by omega); omega)
  obtain ⟨m, h4, e4, _, m4, c4⟩ := l10DrawAmount_c (Z := Z) hS hS10 w3.cur
  have w4 := w3.dr m4.dr c4
  obtain ⟨y, h5, es, e5, w5, hes⟩ := l14DrawEvents_c (Z := Z) hS hS14 hf w4
  obtain ⟨fp, q1, q2, _⟩ := w5.sep
  have fin : ∀ b', a ≠ b' → ∃ (t : Tx) (h' : Heap), t.ok = true ∧ On h5 h' ∧ (newTx (1 + n) a b' m).2 = true ∧ (newTx (1 + n) a b' m).1 = ⟨1 + n, a, b', m, 0, false, false, false, false, 0⟩ ∧
      ∃ (v : Cell) (hq : Heap), call F Z 59 [.agg [.int .i64 (1 + n), .int .u64 a, .int .u64 b', .int .u64 m, .int .i64 0, .bool false, .bool false, .bool false, .bool false, .int .i64 0], .c y] ⟨h5.next, h5.next, h5.get⟩ = some (.tup [.agg t.enc, .c v], hq) ∧ Heap.mk hq.next h5.floor hq.get = h' := fun b' hb => by
    have hok := new_ok (m := m) (show 1 ≤ 1 + n by omega) hb
    obtain ⟨v, hq, fq, e6, o6, _, _⟩ := sPlayTx_c (Z := Z) (h := ⟨h5.next, h5.next, h5.get⟩) hS hS14 (Nat.le_refl _) ⟨1 + n, a, b', m, 0, false, false, false, false, 0⟩ ((SlR.ofRaw q1).up (Fl.ok _) _)
    refine ⟨_, _, play_ok hok es, ?_, by simp only [newTx]; rw [if_pos hok], by simp only [newTx]; rw [if_pos hok], v, hq, e6, rfl⟩
    exact ⟨⟨o6.ext.1, o6.ext.2⟩, rfl⟩
  rw [call_run F Z (hS14.lk (g := 195) rfl) _ _ rfl]
  by_cases hab : a = b
  · subst hab
    have hne : a ≠ IntKind.u64.wrap (a + 1) := by
      by_cases hmx : a = 18446744073709551615
      · subst hmx; decide
      · rw [wrapU _ (by omega) (by omega)]; omega
    obtain ⟨t, h', hok, o, n1, n2, v, hq, e6, mq⟩ := fin _ hne
    have eN := sNewTx_run (Z := Z) hS hS14 (1 + n) a (IntKind.u64.wrap (a + 1)) m
    rw [n1, n2] at eN
    simp only [Tx.enc] at eN
    simp only [run0, run1, run2, run3, run4, noSlot, ownS, ownK, memN, RO.dst, lk, drop, forget, number, Nat.reduceBEq, cut?, splice?, builds, List.length_cons, List.length_nil, List.drop_succ_cons, List.drop_zero, List.take_succ_cons, List.take_zero, List.cons_append, List.nil_append, List.append_nil, List.drop_nil, List.take_nil, Nat.reduceAdd, Nat.reduceLeDiff, Nat.zero_add, Nat.add_zero, ↓reduceIte, Bool.not_true, Bool.not_false, decide_true, decide_false, eq_self, bne_self_eq_false, List.getElem?_cons_zero, List.getElem?_cons_succ, decide_eq_true_eq, Bool.false_eq_true, Bool.true_eq_false, reduceCtorEq, Nat.le_refl, e1, e2, beq_self_eq_true, e3, hw, e4, eN, e5, e6, mq, Tx.len, Tx.tak]
    exact ⟨t, _, rfl, w5.cux.go o, hok⟩
  · have hab' : (a == b) = false := by simpa using hab
    obtain ⟨t, h', hok, o, n1, n2, v, hq, e6, mq⟩ := fin _ hab
    have eN := sNewTx_run (Z := Z) hS hS14 (1 + n) a b m
    rw [n1, n2] at eN
    simp only [Tx.enc] at eN
    simp only [run0, run1, run2, run3, run4, noSlot, ownS, ownK, memN, RO.dst, lk, drop, forget, number, Nat.reduceBEq, cut?, splice?, builds, List.length_cons, List.length_nil, List.drop_succ_cons, List.drop_zero, List.take_succ_cons, List.take_zero, List.cons_append, List.nil_append, List.append_nil, List.drop_nil, List.take_nil, Nat.reduceAdd, Nat.reduceLeDiff, Nat.zero_add, Nat.add_zero, ↓reduceIte, Bool.not_true, Bool.not_false, decide_true, decide_false, eq_self, bne_self_eq_false, List.getElem?_cons_zero, List.getElem?_cons_succ, decide_eq_true_eq, Bool.false_eq_true, Bool.true_eq_false, reduceCtorEq, Nat.le_refl, e1, e2, hab', e3, hw, e4, eN, e5, e6, mq, Tx.len, Tx.tak]
    exact ⟨t, _, rfl, w5.cux.go o, hok⟩
theorem DrawRightTx_c (hS : Has F tS01d) (hS10 : Has F tS10) (hS14 : Has F tS14) (hf : h.floor ≤ h.next) (w : Vw 19 byte_enc h x code) :
    ∃ (t : Tx) (y : Cell) (es : List TxEvent) (h' : Heap) (fp : List Nat), call F Z 145 [.c x] h = some (.tup [.agg t.enc, .c y], h') ∧ On h h' ∧ t.ok = true ∧ SlR 5 (Fl TxEvent.enc) h' y es fp ∧ es.length ≤ 100 ∧ Fre h fp := by
  obtain ⟨h1, e1, o1, c1⟩ := l01New_c (Z := Z) hS hf w
  have w1 : Cux h h1 h.next x code := by
    refine ⟨o1, c1, Nat.le_refl _, ?_⟩
    rcases w with ⟨_, ⟨rfl, _⟩ | ⟨id, off, rows, rfl, _, h3, _⟩⟩
    · exact .inl rfl
    · exact .inr h3
  obtain ⟨t, h2, e2, w2, hok⟩ := l14DrawRight_c (Z := Z) hS hS10 hS14 hf w1
  obtain ⟨y, h3, es, e3, w3, hes⟩ := l14DrawEvents_c (Z := Z) hS hS14 hf w2
  obtain ⟨fp, q1, q2, _⟩ := w3.sep
  rw [call_run F Z (hS14.lk (g := 145) rfl) _ _ rfl]
  simp only [run0, run1, run2, run3, run4, noSlot, ownS, ownK, memN, RO.dst, lk, drop, forget, number, Nat.reduceBEq, cut?, splice?, builds, List.length_cons, List.length_nil, List.drop_succ_cons, List.drop_zero, List.take_succ_cons, List.take_zero, List.cons_append, List.nil_append, List.append_nil, List.drop_nil, List.take_nil, Nat.reduceAdd, Nat.reduceLeDiff, Nat.zero_add, Nat.add_zero, ↓reduceIte, Bool.not_true, Bool.not_false, decide_true, decide_false, eq_self, bne_self_eq_false, List.getElem?_cons_zero, List.getElem?_cons_succ, decide_eq_true_eq, Bool.false_eq_true, Bool.true_eq_false, reduceCtorEq, Nat.le_refl, e1, e2, Tx.len, Tx.tak, e3]
  exact ⟨t, y, es, _, fp, rfl, w3.cux.on, hok, SlR.ofRaw q1, hes, q2⟩
end
end Go.Proofs.Ytlbagejkjkfkjaa.A
/- The play of a transfer over a part of a list of events; what a transfer's step keeps. -/
namespace Go.Proofs.Ytlbagejkjkfkjaa.A
open Go
set_option linter.unusedSimpArgs false
set_option linter.unusedVariables false
section
variable {F : Nat → Option RF} {Z : CallF} {h : Heap}
set_option maxHeartbeats 1000000 in
theorem PlayTxV_turn {h0 : Heap} (hI14 : Has F tI14) {x y : Cell} {es : List TxEvent} (hf : h0.floor ≤ h0.next) (w : Vw 5 TxEvent.enc h0 x es) {rows : List (List Cell)} (a : Acc 4 h0 h y rows) (hl : rows.length ≤ 1048576) (i : Nat) (hi : i < es.length) (t : Tx) :
    ∃ y' h', Acc 4 h0 h' y' (rows ++ [bool_enc (t.step es[i]).2]) ∧ loop F Z [2, 4, 6, 20, 21, 22] r60L0 ⟨[(6, .c y), (20, .c x), (21, .c (.int .i64 (es.length : Nat))), (22, .c (.int .i64 ((i : Nat) : Int)))], [(2, 2, 0), (4, 4, 0)], [(2, t.enc), (4, Tx.zero.enc)], h⟩ = loop F Z [2, 4, 6, 20, 21, 22] r60L0 ⟨[(6, .c y'), (20, .c x), (21, .c (.int .i64 (es.length : Nat))), (22, .c (.int .i64 ((i + 1 : Nat) : Int)))], [(2, 2, 0), (4, 4, 0)], [(2, (t.step es[i]).1.enc), (4, Tx.zero.enc)], h'⟩ := by
  have e1 := a.one_eq hf (bytes := 1) (by omega)
  have a1 := a.one hf (by omega)
  have hle := w.le2
  have hlt : (i : Int) < es.length := by omega
  have wg := w.on a.on
  have hws := wrapS i (by omega)
  rw [loop_run]
  conv in (codeF _ _ r60L0 _) => unfold r60L0
  simp only [run0, run1, run2, run3, run4, noSlot, ownS, ownK, memN, RO.dst, lk, drop, forget, number, Nat.reduceBEq, cut?, splice?, builds, List.length_cons, List.length_nil, List.drop_succ_cons, List.drop_zero, List.take_succ_cons, List.take_zero, List.cons_append, List.nil_append, List.append_nil, List.drop_nil, List.take_nil, Nat.reduceAdd, Nat.reduceLeDiff, Nat.zero_add, Nat.add_zero, ↓reduceIte, Bool.not_true, Bool.not_false, decide_true, decide_false, eq_self, bne_self_eq_false, List.getElem?_cons_zero, List.getElem?_cons_succ, decide_eq_true_eq, Bool.false_eq_true, Bool.true_eq_false, reduceCtorEq, Nat.le_refl, w.len, hlt, w.idx hi, wg.load hi, TxEvent.enc]
  generalize es[i] = e
  obtain ⟨k, s, c⟩ := e
  clear w wg hi hlt
  (repeat' ((first | (rw [gF_if]; split) | (rw [condC_if]; split) | (rw [pickR_if]; split)) <;> (rename_i hh; (try simp only [Bool.not_eq_true, decide_eq_true_eq] at hh); simp only [hh, run0, run1, run2, run3, run4, noSlot, ownS, ownK, memN, RO.dst, lk, drop, forget, number, Nat.reduceBEq, cut?, splice?, builds, List.length_cons, List.length_nil, List.drop_succ_cons, List.drop_zero, List.take_succ_cons, List.take_zero, List.cons_append, List.nil_append, List.append_nil, List.drop_nil, List.take_nil, Nat.reduceAdd, Nat.reduceLeDiff, Nat.zero_add, Nat.add_zero, ↓reduceIte, Bool.not_true, Bool.not_false, decide_true, decide_false, eq_self, bne_self_eq_false, List.getElem?_cons_zero, List.getElem?_cons_succ, decide_eq_true_eq, Bool.false_eq_true, Bool.true_eq_false, reduceCtorEq, Nat.le_refl, Tx.len, Tx.tak, Tx.drp, vote_e hI14, ack_e hI14, giveUp_e hI14, hws, List.replicate_succ, List.replicate_zero, e1, fills, and_self, Nat.zero_lt_one, List.set_cons_zero])))
  all_goals (clear e1 hws; simp only [Tx.step, bool_enc, *, cond_true, cond_false]; exact ⟨_, _, a1 _, rfl⟩)
set_option maxHeartbeats 1000000 in
theorem PlayTxV_run (hI14 : Has F tI14) {x : Cell} {es : List TxEvent} (hf : h.floor ≤ h.next) (w : Vw 5 TxEvent.enc h x es) (t : Tx) :
    ∃ y h', call F Z 60 [.agg t.enc, .c x] h = some (.tup [.agg (t.play es).1.enc, .c y], h') ∧ Acc 4 h h' y ((t.play es).2.map bool_enc) := by
  have a0 := Acc.lit0 (tag := 4) (On.refl h)
  have hle := w.le2
  rw [call_run F Z (hI14.lk (g := 60) rfl) _ _ rfl]
  simp only [run0, run1, run2, run3, run4, noSlot, ownS, ownK, memN, RO.dst, lk, drop, forget, number, Nat.reduceBEq, cut?, splice?, builds, List.length_cons, List.length_nil, List.drop_succ_cons, List.drop_zero, List.take_succ_cons, List.take_zero, List.cons_append, List.nil_append, List.append_nil, List.drop_nil, List.take_nil, Nat.reduceAdd, Nat.reduceLeDiff, Nat.zero_add, Nat.add_zero, ↓reduceIte, Bool.not_true, Bool.not_false, decide_true, decide_false, eq_self, bne_self_eq_false, List.getElem?_cons_zero, List.getElem?_cons_succ, decide_eq_true_eq, Bool.false_eq_true, Bool.true_eq_false, reduceCtorEq, Nat.le_refl, Tx.len, Tx.tak, isTx_e hI14]
  (repeat' ((first | (rw [gF_if]; split) | (rw [condC_if]; split) | (rw [pickR_if]; split)) <;> (rename_i hh; (try simp only [Bool.not_eq_true, decide_eq_true_eq] at hh); simp only [hh, run0, run1, run2, run3, run4, noSlot, ownS, ownK, memN, RO.dst, lk, drop, forget, number, Nat.reduceBEq, cut?, splice?, builds, List.length_cons, List.length_nil, List.drop_succ_cons, List.drop_zero, List.take_succ_cons, List.take_zero, List.cons_append, List.nil_append, List.append_nil, List.drop_nil, List.take_nil, Nat.reduceAdd, Nat.reduceLeDiff, Nat.zero_add, Nat.add_zero, ↓reduceIte, Bool.not_true, Bool.not_false, decide_true, decide_false, eq_self, bne_self_eq_false, List.getElem?_cons_zero, List.getElem?_cons_succ, decide_eq_true_eq, Bool.false_eq_true, Bool.true_eq_false, reduceCtorEq, Nat.le_refl, Tx.len, Tx.tak, Tx.drp, isTx_e hI14, w.len, List.replicate_zero, fills])))
  · have hp : t.play es = (t, []) := by
      unfold Tx.play
      cases hok : t.ok with
      | false => rfl
      | true => rw [decide_eq_false (by simp_all <;> omega)]; rfl
    rw [hp]
    exact ⟨_, _, rfl, Acc.nil 4 h⟩
  · have hn : es.length ≤ 100 := by simp_all <;> omega
    have hp : t.play es = es.foldl (fun a e => ((a.1.step e).1, a.2 ++ [(a.1.step e).2])) (t, []) := by
      have hok : t.ok = true := by simp_all
      unfold Tx.play
      rw [hok, decide_eq_true hn]; rfl
    obtain ⟨s', ⟨y', g', hs', ha', _⟩, l1⟩ := loop_fold (F := F) (Z := Z) (live := [2, 4, 6, 20, 21, 22]) (b := r60L0) es (fun a e => ((a.1.step e).1, a.2 ++ [(a.1.step e).2]))
      (fun i a s => ∃ y g, s = ⟨[(6, .c y), (20, .c x), (21, .c (.int .i64 (es.length : Nat))), (22, .c (.int .i64 ((i : Nat) : Int)))], [(2, 2, 0), (4, 4, 0)], [(2, a.1.enc), (4, Tx.zero.enc)], g⟩ ∧ Acc 4 h g y (a.2.map bool_enc) ∧ a.2.length ≤ i) (fun i hi a s ⟨y, g, hs, ha, hl⟩ => by
        subst hs
        obtain ⟨y', g', ha', e'⟩ := PlayTxV_turn (F := F) (Z := Z) hI14 hf w ha (by simp; omega) i hi a.1
        exact ⟨_, ⟨y', g', rfl, by simpa using ha', by simp; omega⟩, e'⟩) (a := (t, [])) (s := ⟨[(6, .c (.sl 4 h.next 0 0)), (20, .c x), (21, .c (.int .i64 (es.length : Nat))), (22, .c (.int .i64 ((0 : Nat) : Int)))], [(2, 2, 0), (4, 4, 0)], [(2, t.enc), (4, Tx.zero.enc)], (h.push [])⟩) ⟨_, _, rfl, by simpa using a0, Nat.le_refl _⟩
    subst hs'
    rw [← hp] at l1 ha'
    simp only [show ((0 : Nat) : Int) = 0 from rfl] at l1
    have ez : Tx.zero.enc = [.int .i64 0, .int .u64 0, .int .u64 0, .int .u64 0, .int .i64 0, .bool false, .bool false, .bool false, .bool false, .int .i64 0] := rfl
    rw [ez] at l1
    have hlt : ¬ (es.length : Int) < es.length := by omega
    simp only [run0, run1, run2, run3, run4, noSlot, ownS, ownK, memN, RO.dst, lk, drop, forget, number, Nat.reduceBEq, cut?, splice?, builds, List.length_cons, List.length_nil, List.drop_succ_cons, List.drop_zero, List.take_succ_cons, List.take_zero, List.cons_append, List.nil_append, List.append_nil, List.drop_nil, List.take_nil, Nat.reduceAdd, Nat.reduceLeDiff, Nat.zero_add, Nat.add_zero, ↓reduceIte, Bool.not_true, Bool.not_false, decide_true, decide_false, eq_self, bne_self_eq_false, List.getElem?_cons_zero, List.getElem?_cons_succ, decide_eq_true_eq, Bool.false_eq_true, Bool.true_eq_false, reduceCtorEq, Nat.le_refl, w.len, l1]
    rw [loop_run]
    conv in (codeF _ _ r60L0 _) => unfold r60L0
    simp only [run0, run1, run2, run3, run4, noSlot, ownS, ownK, memN, RO.dst, lk, drop, forget, number, Nat.reduceBEq, cut?, splice?, builds, List.length_cons, List.length_nil, List.drop_succ_cons, List.drop_zero, List.take_succ_cons, List.take_zero, List.cons_append, List.nil_append, List.append_nil, List.drop_nil, List.take_nil, Nat.reduceAdd, Nat.reduceLeDiff, Nat.zero_add, Nat.add_zero, ↓reduceIte, Bool.not_true, Bool.not_false, decide_true, decide_false, eq_self, bne_self_eq_false, List.getElem?_cons_zero, List.getElem?_cons_succ, decide_eq_true_eq, Bool.false_eq_true, Bool.true_eq_false, reduceCtorEq, Nat.le_refl, w.len, hlt, Tx.len, Tx.tak]
    exact ⟨_, _, rfl, ha'⟩
  · have hp : t.play es = (t, []) := by
      unfold Tx.play
      cases hok : t.ok with
      | false => rfl
      | true => rw [decide_eq_false (by simp_all <;> omega)]; rfl
    rw [hp]
    exact ⟨_, _, rfl, Acc.nil 4 h⟩
theorem TxSends_e (hI14 : Has F tI14) (hf : h.floor ≤ h.next) (t : Tx) : ∃ (y : Cell) (h' : Heap) (fp : List Nat), call F Z 47 [.agg t.enc] h = some (.c y, h') ∧ On h h' ∧ SlR 3 (Fl Request.enc) h' y t.sends fp ∧ Fre h fp := by
  obtain ⟨y, h', e, a⟩ := TxSends_run (Z := Z) hI14 hf t.id t.a t.b t.m t.phase t.yf t.yt t.af t.at_ t.reason
  obtain ⟨o, fp, v, f⟩ := a.flat
  exact ⟨y, h', fp, e, o, v, f⟩
theorem TxOutcome_e (hI14 : Has F tI14) (t : Tx) (h : Heap) : call F Z 18 [.agg t.enc] h = some (.c (.int .i64 t.outcome), h) := TxOutcome_run hI14 ..
theorem TxOk_e (hI14 : Has F tI14) (t : Tx) (h : Heap) : call F Z 15 [.agg t.enc] h = some (.c (.bool t.ok), h) := TxOk_run hI14 ..
end
/-! ### what a step keeps -/
theorem step_same {t : Tx} (e : TxEvent) (h : (t.step e).2 = false) : (t.step e).1 = t := by
  revert h
  unfold Tx.step
  cases (e.kind == 0) <;> simp only [cond_true, cond_false]
  · cases (e.kind == 1) <;> simp only [cond_true, cond_false]
    · cases (e.kind == 2) <;> simp only [cond_true, cond_false]
      · intro _; trivial
      · unfold Tx.giveUp; split <;> simp
    · unfold Tx.ack; split
      · split <;> simp
      · simp
  · unfold Tx.vote; split
    · split
      · simp
      · split <;> simp
    · simp
theorem step_phase {t : Tx} (h : t.ok = true) (e : TxEvent) : t.phase ≤ (t.step e).1.phase ∧ (0 ≤ t.outcome → (t.step e).1.outcome = t.outcome) := by
  have hn := step_ok h e
  revert hn
  unfold Tx.step
  cases (e.kind == 0) <;> simp only [cond_true, cond_false]
  · cases (e.kind == 1) <;> simp only [cond_true, cond_false]
    · cases (e.kind == 2) <;> simp only [cond_true, cond_false]
      · intro _; exact ⟨Int.le_refl _, fun _ => by first | rfl | trivial⟩
      · intro hn
        unfold Tx.giveUp at hn ⊢
        split
        · rename_i hc
          rw [if_pos hc] at hn
          refine ⟨by simp only; omega, fun ho => ?_⟩
          simp [Tx.outcome, hc.2.1] at ho
        · exact ⟨Int.le_refl _, fun _ => by first | rfl | trivial⟩
    · intro hn
      unfold Tx.ack at hn ⊢
      split
      · rename_i hc
        rw [if_pos hc] at hn
        have h0 : t.phase ≠ 0 := by omega
        split
        · rename_i hs
          rw [if_pos hs] at hn
          cases ha : t.at_ <;> rw [ha] at hn <;> simp only [cond_true, cond_false] at hn ⊢
          · exact ⟨Int.le_refl _, fun _ => by simp only [Tx.outcome, hn, h, h0, ne_eq, not_false_eq_true, and_self, if_true]⟩
          · exact ⟨by omega, fun _ => by simp [Tx.outcome, hn, h, h0]⟩
        · rename_i hs
          rw [if_neg hs] at hn
          cases ha : t.af <;> rw [ha] at hn <;> simp only [cond_true, cond_false] at hn ⊢
          · exact ⟨Int.le_refl _, fun _ => by simp only [Tx.outcome, hn, h, h0, ne_eq, not_false_eq_true, and_self, if_true]⟩
          · exact ⟨by omega, fun _ => by simp [Tx.outcome, hn, h, h0]⟩
      · exact ⟨Int.le_refl _, fun _ => by first | rfl | trivial⟩
  · intro hn
    unfold Tx.vote at hn ⊢
    split
    · rename_i hc
      have ho : ¬ 0 ≤ t.outcome := by simp [Tx.outcome, hc.2.1]
      refine ⟨?_, fun h => absurd h ho⟩
      split
      · simp only; omega
      · split
        · cases t.yt <;> simp only [cond_true, cond_false] <;> omega
        · cases t.yf <;> simp only [cond_true, cond_false] <;> omega
    · exact ⟨Int.le_refl _, fun _ => by first | rfl | trivial⟩
theorem ok_commit {t : Tx} (h : t.ok = true) : (t.outcome == 0) = (t.yf && t.yt) := by
  obtain ⟨id, a, b, m, ph, yf, yt, af, at_, r⟩ := t
  simp only [Tx.outcome, h, true_and]
  simp only [Tx.ok, Bool.and_eq_true] at h
  obtain ⟨_, h⟩ := h
  split at h
  · rename_i h0
    have h0 : ph = 0 := by simpa using h0
    subst h0
    simp at h ⊢
    obtain ⟨⟨⟨h1, _⟩, _⟩, _⟩ := h
    cases yf <;> cases yt <;> simp_all
  · rename_i h0
    have h0 : ph ≠ 0 := by simpa using h0
    rw [if_pos h0]
    split at h
    · simp_all
    · split at h
      · simp only [Bool.and_eq_true, inR, decide_eq_true_eq, Bool.not_eq_true'] at h
        rw [h.1.1]; simp; omega
      · split at h
        · simp only [Bool.and_eq_true, Bool.or_eq_true, inR, decide_eq_true_eq, Bool.not_eq_true', beq_iff_eq] at h
          rcases h.2 with h2 | h2
          · rw [h2.1.1, h2.1.2, h2.2]; rfl
          · have : (yf && yt) = false := h2.1
            rw [this]; simp; omega
        · cases h
/-- What is sent is right. -/
structure SendOk (n : Tx) (q : Request) : Prop where
  tx : q.tx = n.id
  op : (q.op = 4 ∨ q.op = 5) ∧ n.outcome = -1 ∨ q.op = 6 ∧ n.outcome = 0 ∨ q.op = 7 ∧ 0 < n.outcome
  a : q.id = n.a → n.af = false
  b : q.id = n.b → n.at_ = false
theorem sends_ok {n : Tx} (h : n.ok = true) : (∀ q, q ∈ n.sends → SendOk n q) ∧ ((n.sends.length == 0) = (n.phase == 3)) ∧ n.sends.length ≤ 2 := by
  have hab : n.a ≠ n.b := by
    simp only [Tx.ok, Bool.and_eq_true, Bool.not_eq_true', Bool.or_eq_false_iff, beq_eq_false_iff_ne] at h
    exact h.1.2
  have hout : n.outcome = if n.phase ≠ 0 then n.reason else -1 := by simp only [Tx.outcome, h, true_and]
  have hs : n.sends = n.side false ++ n.side true := by simp only [Tx.sends, h, cond_true]
  rw [hs]
  obtain ⟨id, a, b, m, ph, yf, yt, af, at_, r⟩ := n
  simp only at hab hout
  simp only [Tx.ok, Bool.and_eq_true] at h
  obtain ⟨_, h⟩ := h
  split at h
  · rename_i h0
    have h0 : ph = 0 := by simpa using h0
    subst h0
    simp at h hout
    obtain ⟨⟨⟨h1, h2⟩, h3⟩, _⟩ := h
    subst h2; subst h3
    cases yf <;> cases yt <;> simp [Tx.side] at h1 ⊢ <;> (first | exact ⟨rfl, .inl ⟨by simp, hout⟩, fun _ => rfl, fun _ => rfl⟩ | exact ⟨⟨rfl, .inl ⟨by simp, hout⟩, fun _ => rfl, fun _ => rfl⟩, ⟨rfl, .inl ⟨by simp, hout⟩, fun _ => rfl, fun _ => rfl⟩⟩)
  · rename_i h0
    have h0 : ph ≠ 0 := by simpa using h0
    rw [if_pos h0] at hout
    split at h
    · rename_i h1
      have h1 : ph = 1 := by simpa using h1
      subst h1
      simp at h
      obtain ⟨⟨_, h2⟩, h3⟩ := h
      have ho := hout.trans h3
      cases af <;> cases at_ <;> simp [Tx.side] at h2 ⊢ <;> (first | exact ⟨rfl, .inr (.inl ⟨rfl, ho⟩), fun e => (by first | rfl | exact absurd e (Ne.symm hab)), fun e => (by first | rfl | exact absurd e hab)⟩ | exact ⟨⟨rfl, .inr (.inl ⟨rfl, ho⟩), fun _ => rfl, fun _ => rfl⟩, ⟨rfl, .inr (.inl ⟨rfl, ho⟩), fun _ => rfl, fun _ => rfl⟩⟩)
    · split at h
      · rename_i h1
        have h1 : ph = 2 := by simpa using h1
        subst h1
        simp only [Bool.and_eq_true, inR, decide_eq_true_eq, Bool.not_eq_true'] at h
        have ho : 0 < Tx.outcome ⟨id, a, b, m, 2, yf, yt, af, at_, r⟩ := by rw [hout]; omega
        have h2 := h.1.2
        cases af <;> cases at_ <;> simp [Tx.side] at h2 ⊢ <;> (first | exact ⟨rfl, .inr (.inr ⟨rfl, ho⟩), fun e => (by first | rfl | exact absurd e (Ne.symm hab)), fun e => (by first | rfl | exact absurd e hab)⟩ | exact ⟨⟨rfl, .inr (.inr ⟨rfl, ho⟩), fun _ => rfl, fun _ => rfl⟩, ⟨rfl, .inr (.inr ⟨rfl, ho⟩), fun _ => rfl, fun _ => rfl⟩⟩)
      · split at h
        · rename_i h1
          have h1 : ph = 3 := by simpa using h1
          subst h1
          simp [Tx.side]
        · cases h
end Go.Proofs.Ytlbagejkjkfkjaa.A
/- The bytes that a drawn law is given. -/
namespace Go.Proofs.Ytlbagejkjkfkjaa.A
open Go
set_option linter.unusedSimpArgs false
set_option linter.unusedVariables false
theorem Wf.isBytes {h : Heap} {n : Nat} {x : Cell} (w : Wf h (n + 2) shUint8S [x]) : ∃ code : List Int, Vw 19 byte_enc h x code := by
  obtain ⟨xs, fp, v, _⟩ := SlR.ofWf (R := Fl byte_enc) (A := fun _ => True) (fun r hr => by
    obtain ⟨hl, z, rfl, hz⟩ := hr
    exact ⟨z, [], ⟨rfl, rfl⟩, trivial⟩) w
  exact ⟨xs, v.vw⟩
section
variable {F : Nat → Option RF} {Z : CallF} {h : Heap} {x : Cell} {code : List Int}
theorem big_run (hL : Has F tLaws) (w : Vw 19 byte_enc h x code) : call F Z 144 [.c x] h = some (.c (.bool (decide ((code.length : Int) > 1048576))), h) := by
  rw [call_run F Z (hL.lk (g := 144) rfl) _ _ rfl]
  simp only [run0, run1, run2, run3, run4, noSlot, ownS, ownK, memN, RO.dst, lk, drop, forget, number, Nat.reduceBEq, cut?, splice?, builds, List.length_cons, List.length_nil, List.drop_succ_cons, List.drop_zero, List.take_succ_cons, List.take_zero, List.cons_append, List.nil_append, List.append_nil, List.drop_nil, List.take_nil, Nat.reduceAdd, Nat.reduceLeDiff, Nat.zero_add, Nat.add_zero, ↓reduceIte, Bool.not_true, Bool.not_false, decide_true, decide_false, eq_self, bne_self_eq_false, List.getElem?_cons_zero, List.getElem?_cons_succ, decide_eq_true_eq, Bool.false_eq_true, Bool.true_eq_false, reduceCtorEq, Nat.le_refl, w.len]
/-- A byte of the code, or a number in its place. -/
theorem at_run (hL : Has F tLaws) (w : Vw 19 byte_enc h x code) (hc : code.length ≤ 1048576) {i : Int} (hi : 0 ≤ i ∧ i ≤ 1000000) : ∃ r, call F Z 177 [.c x, .c (.int .i64 i)] h = some (.c (.int .i64 r), h) := by
  rw [call_run F Z (hL.lk (g := 177) rfl) _ _ rfl]
  obtain ⟨j, rfl⟩ : ∃ j : Nat, i = (j : Int) := ⟨i.toNat, by omega⟩
  by_cases hlt : (j : Int) < code.length
  · have hj : j < code.length := by omega
    simp only [run0, run1, run2, run3, run4, noSlot, ownS, ownK, memN, RO.dst, lk, drop, forget, number, Nat.reduceBEq, cut?, splice?, builds, List.length_cons, List.length_nil, List.drop_succ_cons, List.drop_zero, List.take_succ_cons, List.take_zero, List.cons_append, List.nil_append, List.append_nil, List.drop_nil, List.take_nil, Nat.reduceAdd, Nat.reduceLeDiff, Nat.zero_add, Nat.add_zero, ↓reduceIte, Bool.not_true, Bool.not_false, decide_true, decide_false, eq_self, bne_self_eq_false, List.getElem?_cons_zero, List.getElem?_cons_succ, decide_eq_true_eq, Bool.false_eq_true, Bool.true_eq_false, reduceCtorEq, Nat.le_refl, w.len, hlt, w.idx hj, w.load hj, byte_enc]
    exact ⟨_, rfl⟩
  · simp only [run0, run1, run2, run3, run4, noSlot, ownS, ownK, memN, RO.dst, lk, drop, forget, number, Nat.reduceBEq, cut?, splice?, builds, List.length_cons, List.length_nil, List.drop_succ_cons, List.drop_zero, List.take_succ_cons, List.take_zero, List.cons_append, List.nil_append, List.append_nil, List.drop_nil, List.take_nil, Nat.reduceAdd, Nat.reduceLeDiff, Nat.zero_add, Nat.add_zero, ↓reduceIte, Bool.not_true, Bool.not_false, decide_true, decide_false, eq_self, bne_self_eq_false, List.getElem?_cons_zero, List.getElem?_cons_succ, decide_eq_true_eq, Bool.false_eq_true, Bool.true_eq_false, reduceCtorEq, Nat.le_refl, w.len, hlt, b_rem _ _ _ (show (256 : Int) ≠ 0 from by omega)]
    exact ⟨_, rfl⟩
end
end Go.Proofs.Ytlbagejkjkfkjaa.A
