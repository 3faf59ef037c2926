/- The functions that the statement reaches, part 2: bodies and what they compute. No condition. -/
import Derived.Test.YtnedbeicpfdjjaaHCExactClientHear1
import Derived.Test.YtnedbeicpfdjjaaD
import Derived.Test.YtnedbeicpfdjjaaA1
/- What the converters of Request compute. -/
namespace Go.Proofs.Ytnedbeicpfdjjaa.A
open Go
set_option linter.unusedSimpArgs false
set_option linter.unusedVariables false
section
variable {F : Nat → Option RF} {Z : CallF} {h : Heap} {x y : Cell} {xs ys : List Request} {fp fq : List Nat}
def Request.zero : List Cell := [.int .i64 0, .int .i64 0, .int .u64 0, .int .u64 0, .int .i64 0]
theorem toRequest_run (hL : Has F tLRequest) (p : Request) (h : Heap) : call F Z 109 [.agg p.enc] h = some (.agg p.enc, h) := by
  rw [call_run F Z (hL.lk (g := 109) rfl) _ _ rfl]
  simp only [Request.enc, run0, run1, run2, run3, run4, noSlot, ownS, ownK, memN, RO.dst, lk, drop, forget, number, Nat.reduceBEq, cut?, splice?, builds, List.length_cons, List.length_nil, List.drop_succ_cons, List.drop_zero, List.take_succ_cons, List.take_zero, List.cons_append, List.nil_append, List.append_nil, List.drop_nil, List.take_nil, Nat.reduceAdd, Nat.reduceLeDiff, Nat.zero_add, Nat.add_zero, ↓reduceIte, Bool.not_true, Bool.not_false, decide_true, decide_false, eq_self, bne_self_eq_false, List.getElem?_cons_zero, List.getElem?_cons_succ, decide_eq_true_eq, Bool.false_eq_true, Bool.true_eq_false, reduceCtorEq, Nat.le_refl]
set_option maxHeartbeats 1000000 in
theorem eqRequest_run (hL : Has F tLRequest) (p q : Request) (h : Heap) : call F Z 99 [.agg p.enc, .agg q.enc] h = some (.c (.bool (decide (p = q))), h) := by
  rw [call_run F Z (hL.lk (g := 99) rfl) _ _ rfl]
  obtain ⟨epoch1, op1, id1, amount1, tx1⟩ := p
  obtain ⟨epoch2, op2, id2, amount2, tx2⟩ := q
  simp only [Request.enc, run0, run1, run2, run3, run4, noSlot, ownS, ownK, memN, RO.dst, lk, drop, forget, number, Nat.reduceBEq, cut?, splice?, builds, List.length_cons, List.length_nil, List.drop_succ_cons, List.drop_zero, List.take_succ_cons, List.take_zero, List.cons_append, List.nil_append, List.append_nil, List.drop_nil, List.take_nil, Nat.reduceAdd, Nat.reduceLeDiff, Nat.zero_add, Nat.add_zero, ↓reduceIte, Bool.not_true, Bool.not_false, decide_true, decide_false, eq_self, bne_self_eq_false, List.getElem?_cons_zero, List.getElem?_cons_succ, decide_eq_true_eq, Bool.false_eq_true, Bool.true_eq_false, reduceCtorEq, Nat.le_refl]
  (repeat' ((first | (rw [gF_if]; split) | (rw [condC_if]; split) | (rw [pickR_if]; split)) <;> (rename_i hh; (try simp only [Bool.not_eq_true, decide_eq_true_eq] at hh); simp only [hh, run0, run1, run2, run3, run4, noSlot, ownS, ownK, memN, RO.dst, lk, drop, forget, number, Nat.reduceBEq, cut?, splice?, builds, List.length_cons, List.length_nil, List.drop_succ_cons, List.drop_zero, List.take_succ_cons, List.take_zero, List.cons_append, List.nil_append, List.append_nil, List.drop_nil, List.take_nil, Nat.reduceAdd, Nat.reduceLeDiff, Nat.zero_add, Nat.add_zero, ↓reduceIte, Bool.not_true, Bool.not_false, decide_true, decide_false, eq_self, bne_self_eq_false, List.getElem?_cons_zero, List.getElem?_cons_succ, decide_eq_true_eq, Bool.false_eq_true, Bool.true_eq_false, reduceCtorEq, Nat.le_refl]))) <;> refine fin_bool ?_ <;> simp_all
theorem toRequest_lit (hL : Has F tLRequest) (epoch1 op1 id1 amount1 tx1 : Int) (h : Heap) : call F Z 109 [.agg [.int .i64 epoch1, .int .i64 op1, .int .u64 id1, .int .u64 amount1, .int .i64 tx1]] h = some (.agg [.int .i64 epoch1, .int .i64 op1, .int .u64 id1, .int .u64 amount1, .int .i64 tx1], h) := toRequest_run hL ⟨epoch1, op1, id1, amount1, tx1⟩ h
theorem eqRequest_lit (hL : Has F tLRequest) (epoch1 op1 id1 amount1 tx1 epoch2 op2 id2 amount2 tx2 : Int) (h : Heap) : call F Z 99 [.agg [.int .i64 epoch1, .int .i64 op1, .int .u64 id1, .int .u64 amount1, .int .i64 tx1], .agg [.int .i64 epoch2, .int .i64 op2, .int .u64 id2, .int .u64 amount2, .int .i64 tx2]] h = some (.c (.bool (decide ((⟨epoch1, op1, id1, amount1, tx1⟩ : Request) = ⟨epoch2, op2, id2, amount2, tx2⟩))), h) := eqRequest_run hL ⟨epoch1, op1, id1, amount1, tx1⟩ ⟨epoch2, op2, id2, amount2, tx2⟩ h
theorem eqRequestS_run (hL : Has F tLRequest) (w : SlR 3 (Fl Request.enc) h x xs fp) (v : SlR 3 (Fl Request.enc) h y ys fq) : call F Z 48 [.c x, .c y] h = some (.c (.bool (decide (xs = ys))), h) := by
  have hw := w.le2
  have hv := v.le2
  rw [call_run F Z (hL.lk (g := 48) rfl) _ _ rfl]
  simp only [run0, run1, run2, run3, run4, noSlot, ownS, ownK, memN, RO.dst, lk, drop, forget, number, Nat.reduceBEq, cut?, splice?, builds, List.length_cons, List.length_nil, List.drop_succ_cons, List.drop_zero, List.take_succ_cons, List.take_zero, List.cons_append, List.nil_append, List.append_nil, List.drop_nil, List.take_nil, Nat.reduceAdd, Nat.reduceLeDiff, Nat.zero_add, Nat.add_zero, ↓reduceIte, Bool.not_true, Bool.not_false, decide_true, decide_false, eq_self, bne_self_eq_false, List.getElem?_cons_zero, List.getElem?_cons_succ, decide_eq_true_eq, Bool.false_eq_true, Bool.true_eq_false, reduceCtorEq, Nat.le_refl, w.len, v.len]
  rw [condC_if]
  split
  · rename_i hne
    have : xs ≠ ys := by rintro rfl; simp at hne
    simp only [run0, run1, run2, run3, run4, noSlot, ownS, ownK, memN, RO.dst, lk, drop, forget, number, Nat.reduceBEq, cut?, splice?, builds, List.length_cons, List.length_nil, List.drop_succ_cons, List.drop_zero, List.take_succ_cons, List.take_zero, List.cons_append, List.nil_append, List.append_nil, List.drop_nil, List.take_nil, Nat.reduceAdd, Nat.reduceLeDiff, Nat.zero_add, Nat.add_zero, ↓reduceIte, Bool.not_true, Bool.not_false, decide_true, decide_false, eq_self, bne_self_eq_false, List.getElem?_cons_zero, List.getElem?_cons_succ, decide_eq_true_eq, Bool.false_eq_true, Bool.true_eq_false, reduceCtorEq, Nat.le_refl, this]
  · rename_i he
    have he : xs.length = ys.length := by simp at he; omega
    simp only [run0, run1, run2, run3, run4, noSlot, ownS, ownK, memN, RO.dst, lk, drop, forget, number, Nat.reduceBEq, cut?, splice?, builds, List.length_cons, List.length_nil, List.drop_succ_cons, List.drop_zero, List.take_succ_cons, List.take_zero, List.cons_append, List.nil_append, List.append_nil, List.drop_nil, List.take_nil, Nat.reduceAdd, Nat.reduceLeDiff, Nat.zero_add, Nat.add_zero, ↓reduceIte, Bool.not_true, Bool.not_false, decide_true, decide_false, eq_self, bne_self_eq_false, List.getElem?_cons_zero, List.getElem?_cons_succ, decide_eq_true_eq, Bool.false_eq_true, Bool.true_eq_false, reduceCtorEq, Nat.le_refl]
    have key := loop_allN (F := F) (Z := Z) (live := [0, 1, 5]) (b := r48L0) xs.length (fun i => ⟨[(0, .c x), (1, .c y), (5, .c (.int .i64 (i : Nat)))], [], [], h⟩) (fun i => decide (xs[i]? = ys[i]?)) (fun s => lk s.env 4 = some (.c (.bool false)) ∧ s.hp = h) fun i hi => by
      have hi' : i < ys.length := by omega
      have hlt : (i : Int) < xs.length := by omega
      rw [loop_run]
      simp only [r48L0, run0, run1, run2, run3, run4, noSlot, ownS, ownK, memN, RO.dst, lk, drop, forget, number, Nat.reduceBEq, cut?, splice?, builds, List.length_cons, List.length_nil, List.drop_succ_cons, List.drop_zero, List.take_succ_cons, List.take_zero, List.cons_append, List.nil_append, List.append_nil, List.drop_nil, List.take_nil, Nat.reduceAdd, Nat.reduceLeDiff, Nat.zero_add, Nat.add_zero, ↓reduceIte, Bool.not_true, Bool.not_false, decide_true, decide_false, eq_self, bne_self_eq_false, List.getElem?_cons_zero, List.getElem?_cons_succ, decide_eq_true_eq, Bool.false_eq_true, Bool.true_eq_false, reduceCtorEq, Nat.le_refl, w.len, hlt, w.idx hi, v.idx hi', w.load hi, v.load hi', Request.len, Request.tak, eqRequest_run hL, wrapS i (by omega)]
      rw [List.getElem?_eq_getElem hi, List.getElem?_eq_getElem hi']
      (repeat' ((first | (rw [gF_if]; split) | (rw [condC_if]; split) | (rw [pickR_if]; split)) <;> (rename_i hh; (try simp only [Bool.not_eq_true, decide_eq_true_eq] at hh); simp only [hh, run0, run1, run2, run3, run4, noSlot, ownS, ownK, memN, RO.dst, lk, drop, forget, number, Nat.reduceBEq, cut?, splice?, builds, List.length_cons, List.length_nil, List.drop_succ_cons, List.drop_zero, List.take_succ_cons, List.take_zero, List.cons_append, List.nil_append, List.append_nil, List.drop_nil, List.take_nil, Nat.reduceAdd, Nat.reduceLeDiff, Nat.zero_add, Nat.add_zero, ↓reduceIte, Bool.not_true, Bool.not_false, decide_true, decide_false, eq_self, bne_self_eq_false, List.getElem?_cons_zero, List.getElem?_cons_succ, decide_eq_true_eq, Bool.false_eq_true, Bool.true_eq_false, reduceCtorEq, Nat.le_refl, wrapS i (by omega)])))
      · exact .inr ⟨by simp_all, _, rfl, rfl, rfl⟩
      · exact .inl ⟨by simp_all, rfl⟩
    rw [all_same he] at key
    rcases key with ⟨k1, k2⟩ | ⟨k1, s, k2, k3, k4⟩
    · simp only [show ((0 : Nat) : Int) = 0 from rfl] at k2
      rw [k2, loop_run]
      have hlt : ¬ (xs.length : Int) < xs.length := by omega
      simp only [r48L0, run0, run1, run2, run3, run4, noSlot, ownS, ownK, memN, RO.dst, lk, drop, forget, number, Nat.reduceBEq, cut?, splice?, builds, List.length_cons, List.length_nil, List.drop_succ_cons, List.drop_zero, List.take_succ_cons, List.take_zero, List.cons_append, List.nil_append, List.append_nil, List.drop_nil, List.take_nil, Nat.reduceAdd, Nat.reduceLeDiff, Nat.zero_add, Nat.add_zero, ↓reduceIte, Bool.not_true, Bool.not_false, decide_true, decide_false, eq_self, bne_self_eq_false, List.getElem?_cons_zero, List.getElem?_cons_succ, decide_eq_true_eq, Bool.false_eq_true, Bool.true_eq_false, reduceCtorEq, Nat.le_refl, w.len, hlt, k1]
    · simp only [show ((0 : Nat) : Int) = 0 from rfl] at k2
      rw [k2]
      simp only [run0, run1, run2, run3, run4, noSlot, ownS, ownK, memN, RO.dst, lk, drop, forget, number, Nat.reduceBEq, cut?, splice?, builds, List.length_cons, List.length_nil, List.drop_succ_cons, List.drop_zero, List.take_succ_cons, List.take_zero, List.cons_append, List.nil_append, List.append_nil, List.drop_nil, List.take_nil, Nat.reduceAdd, Nat.reduceLeDiff, Nat.zero_add, Nat.add_zero, ↓reduceIte, Bool.not_true, Bool.not_false, decide_true, decide_false, eq_self, bne_self_eq_false, List.getElem?_cons_zero, List.getElem?_cons_succ, decide_eq_true_eq, Bool.false_eq_true, Bool.true_eq_false, reduceCtorEq, Nat.le_refl, k3, k4, k1]
/-- What is written to mark one. -/
def Request.mk_ (k : Int) : Request := ⟨k, k + 1, k + 1 + 1, k + 1 + 1 + 1, k + 1 + 1 + 1 + 1⟩
def Request.marks (n : Nat) (k : Int) : List Request := (List.range n).map fun i : Nat => Request.mk_ (k + 5 * (i : Int))
theorem Request.marks_len (n : Nat) (k : Int) : (Request.marks n k).length = n := by simp [Request.marks]
set_option maxHeartbeats 1000000 in
theorem markRequestS_run (hL : Has F tLRequest) (w : SlR 3 (Fl Request.enc) h x xs fp) (hlo : ∀ id, id ∈ fp → h.floor ≤ id) (k : Int) (h1 : 0 ≤ k) (h2 : k + 5 * xs.length ≤ 9200000000000000000) :
    ∃ h', call F Z 49 [.c x, .c (.int .i64 k)] h = some (.c (.int .i64 (k + 5 * xs.length)), h') ∧ Mk h h' fp ∧ SlR 3 (Fl Request.enc) h' x (Request.marks xs.length k) fp := by
  have hle := w.le2
  have hlm := Request.marks_len xs.length k
  rw [call_run F Z (hL.lk (g := 49) rfl) _ _ rfl]
  simp only [run0, run1, run2, run3, run4, noSlot, ownS, ownK, memN, RO.dst, lk, drop, forget, number, Nat.reduceBEq, cut?, splice?, builds, List.length_cons, List.length_nil, List.drop_succ_cons, List.drop_zero, List.take_succ_cons, List.take_zero, List.cons_append, List.nil_append, List.append_nil, List.drop_nil, List.take_nil, Nat.reduceAdd, Nat.reduceLeDiff, Nat.zero_add, Nat.add_zero, ↓reduceIte, Bool.not_true, Bool.not_false, decide_true, decide_false, eq_self, bne_self_eq_false, List.getElem?_cons_zero, List.getElem?_cons_succ, decide_eq_true_eq, Bool.false_eq_true, Bool.true_eq_false, reduceCtorEq, Nat.le_refl]
  rcases w.flat with ⟨rfl, rfl, rfl⟩ | ⟨hx, hg, hn, rfl⟩
  · rw [loop_run]
    simp only [r49L0, run0, run1, run2, run3, run4, noSlot, ownS, ownK, memN, RO.dst, lk, drop, forget, number, Nat.reduceBEq, cut?, splice?, builds, List.length_cons, List.length_nil, List.drop_succ_cons, List.drop_zero, List.take_succ_cons, List.take_zero, List.cons_append, List.nil_append, List.append_nil, List.drop_nil, List.take_nil, Nat.reduceAdd, Nat.reduceLeDiff, Nat.zero_add, Nat.add_zero, ↓reduceIte, Bool.not_true, Bool.not_false, decide_true, decide_false, eq_self, bne_self_eq_false, List.getElem?_cons_zero, List.getElem?_cons_succ, decide_eq_true_eq, Bool.false_eq_true, Bool.true_eq_false, reduceCtorEq, Nat.le_refl, show ¬ ((0 : Int) < 0) from by omega]
    exact ⟨h, by simp, Mk.refl _ _, by simpa [Request.marks] using w⟩
  · have hfl : h.floor ≤ x.sid := hlo _ (by simp)
    have key : loop F Z [0, 1, 5] r49L0 ⟨[(0, .c x), (1, .c (.int .i64 (k + 5 * (0 : Nat)))), (5, .c (.int .i64 (0 : Nat)))], [], [], h.put x.sid (mixR Request.enc (Request.marks xs.length k) xs 0)⟩ = loop F Z [0, 1, 5] r49L0 ⟨[(0, .c x), (1, .c (.int .i64 (k + 5 * (xs.length : Nat)))), (5, .c (.int .i64 (xs.length : Nat)))], [], [], h.put x.sid (mixR Request.enc (Request.marks xs.length k) xs xs.length)⟩ :=
      loop_goesF xs.length (fun i => ⟨[(0, .c x), (1, .c (.int .i64 (k + 5 * (i : Nat)))), (5, .c (.int .i64 (i : Nat)))], [], [], h.put x.sid (mixR Request.enc (Request.marks xs.length k) xs i)⟩) fun i hi => by
        have hlt : (i : Int) < xs.length := by omega
        have hi2 : i < (mixR Request.enc (Request.marks xs.length k) xs i).length := by rw [mixR_len _ hlm]; exact hi
        have hms : (Request.marks xs.length k)[i]'(by omega) = Request.mk_ (k + 5 * i) := by simp [Request.marks]
        have hset := mixR_set Request.enc hlm hi
        rw [hms] at hset
        have hput := storeP_put (h := h) hfl hi2
        rw [← mixR_cur Request.enc hlm hi, ← hset, loop_run]
        simp (disch := omega) only [r49L0, run0, run1, run2, run3, run4, noSlot, ownS, ownK, memN, RO.dst, lk, drop, forget, number, Nat.reduceBEq, cut?, splice?, builds, List.length_cons, List.length_nil, List.drop_succ_cons, List.drop_zero, List.take_succ_cons, List.take_zero, List.cons_append, List.nil_append, List.append_nil, List.drop_nil, List.take_nil, Nat.reduceAdd, Nat.reduceLeDiff, Nat.zero_add, Nat.add_zero, ↓reduceIte, Bool.not_true, Bool.not_false, decide_true, decide_false, eq_self, bne_self_eq_false, List.getElem?_cons_zero, List.getElem?_cons_succ, decide_eq_true_eq, Bool.false_eq_true, Bool.true_eq_false, reduceCtorEq, Nat.le_refl, w.len, hlt, w.idx hi, hput, putM_s, wrapI1, wrapU1, Request.enc, Int.reduceEq, Request.mk_]
        rw [show k + 5 * ((i : Nat) : Int) + 1 + 1 + 1 + 1 + 1 = k + 5 * ((i + 1 : Nat) : Int) from by omega, show ((i : Nat) : Int) + 1 = ((i + 1 : Nat) : Int) from rfl]
    rw [mixR_0, put_same hg, mixR_n _ hlm] at key
    simp only [show ((0 : Nat) : Int) = 0 from rfl, Int.mul_zero, Int.add_zero] at key
    rw [key, loop_run]
    have hlt : ¬ (xs.length : Int) < xs.length := by omega
    simp only [r49L0, run0, run1, run2, run3, run4, noSlot, ownS, ownK, memN, RO.dst, lk, drop, forget, number, Nat.reduceBEq, cut?, splice?, builds, List.length_cons, List.length_nil, List.drop_succ_cons, List.drop_zero, List.take_succ_cons, List.take_zero, List.cons_append, List.nil_append, List.append_nil, List.drop_nil, List.take_nil, Nat.reduceAdd, Nat.reduceLeDiff, Nat.zero_add, Nat.add_zero, ↓reduceIte, Bool.not_true, Bool.not_false, decide_true, decide_false, eq_self, bne_self_eq_false, List.getElem?_cons_zero, List.getElem?_cons_succ, decide_eq_true_eq, Bool.false_eq_true, Bool.true_eq_false, reduceCtorEq, Nat.le_refl, w.len, hlt]
    refine ⟨_, rfl, Mk.put _ _ _, ?_⟩
    have := SlR.ofFlat (tag := 3) (h := h.put x.sid ((Request.marks xs.length k).map Request.enc)) (enc := Request.enc) (xs := Request.marks xs.length k) (id := x.sid) (by rw [hlm]; exact w.le) (by simp [Heap.put]) hn
    rw [hlm, ← hx] at this
    exact this
set_option maxHeartbeats 1000000 in
theorem heldRequestS_run (hL : Has F tLRequest) {n : Nat} {k : Int} (w : SlR 3 (Fl Request.enc) h x (Request.marks n k) fp) (h1 : 0 ≤ k) (h2 : k + 5 * n ≤ 9200000000000000000) :
    call F Z 50 [.c x, .c (.int .i64 k)] h = some (.c (.int .i64 (k + 5 * n)), h) := by
  have hle := w.le2
  have hwl := w.len
  rw [Request.marks_len] at hle hwl
  rw [call_run F Z (hL.lk (g := 50) rfl) _ _ rfl]
  simp only [run0, run1, run2, run3, run4, noSlot, ownS, ownK, memN, RO.dst, lk, drop, forget, number, Nat.reduceBEq, cut?, splice?, builds, List.length_cons, List.length_nil, List.drop_succ_cons, List.drop_zero, List.take_succ_cons, List.take_zero, List.cons_append, List.nil_append, List.append_nil, List.drop_nil, List.take_nil, Nat.reduceAdd, Nat.reduceLeDiff, Nat.zero_add, Nat.add_zero, ↓reduceIte, Bool.not_true, Bool.not_false, decide_true, decide_false, eq_self, bne_self_eq_false, List.getElem?_cons_zero, List.getElem?_cons_succ, decide_eq_true_eq, Bool.false_eq_true, Bool.true_eq_false, reduceCtorEq, Nat.le_refl]
  have key : loop F Z [0, 1, 5] r50L0 ⟨[(0, .c x), (1, .c (.int .i64 (k + 5 * (0 : Nat)))), (5, .c (.int .i64 (0 : Nat)))], [], [], h⟩ = loop F Z [0, 1, 5] r50L0 ⟨[(0, .c x), (1, .c (.int .i64 (k + 5 * (n : Nat)))), (5, .c (.int .i64 (n : Nat)))], [], [], h⟩ :=
    loop_goesF n (fun i => ⟨[(0, .c x), (1, .c (.int .i64 (k + 5 * (i : Nat)))), (5, .c (.int .i64 (i : Nat)))], [], [], h⟩) fun i hi0 => by
      have hi : i < (Request.marks n k).length := by rw [Request.marks_len]; exact hi0
      have hlt : (i : Int) < n := by omega
      have hms : (Request.marks n k)[i] = Request.mk_ (k + 5 * i) := by simp [Request.marks]
      have hld := w.load hi
      rw [hms] at hld
      rw [loop_run]
      simp (disch := omega) only [r50L0, run0, run1, run2, run3, run4, noSlot, ownS, ownK, memN, RO.dst, lk, drop, forget, number, Nat.reduceBEq, cut?, splice?, builds, List.length_cons, List.length_nil, List.drop_succ_cons, List.drop_zero, List.take_succ_cons, List.take_zero, List.cons_append, List.nil_append, List.append_nil, List.drop_nil, List.take_nil, Nat.reduceAdd, Nat.reduceLeDiff, Nat.zero_add, Nat.add_zero, ↓reduceIte, Bool.not_true, Bool.not_false, decide_true, decide_false, eq_self, bne_self_eq_false, List.getElem?_cons_zero, List.getElem?_cons_succ, decide_eq_true_eq, Bool.false_eq_true, Bool.true_eq_false, reduceCtorEq, Nat.le_refl, hwl, hlt, w.idx hi, hld, wrapI1, wrapU1, Request.enc, Request.mk_, Int.reduceEq]
      rw [show k + 5 * ((i : Nat) : Int) + 1 + 1 + 1 + 1 + 1 = k + 5 * ((i + 1 : Nat) : Int) from by omega, show ((i : Nat) : Int) + 1 = ((i + 1 : Nat) : Int) from rfl]
  simp only [show ((0 : Nat) : Int) = 0 from rfl, Int.mul_zero, Int.add_zero] at key
  rw [key, loop_run]
  have hlt : ¬ (n : Int) < n := by omega
  simp only [r50L0, run0, run1, run2, run3, run4, noSlot, ownS, ownK, memN, RO.dst, lk, drop, forget, number, Nat.reduceBEq, cut?, splice?, builds, List.length_cons, List.length_nil, List.drop_succ_cons, List.drop_zero, List.take_succ_cons, List.take_zero, List.cons_append, List.nil_append, List.append_nil, List.drop_nil, List.take_nil, Nat.reduceAdd, Nat.reduceLeDiff, Nat.zero_add, Nat.add_zero, ↓reduceIte, Bool.not_true, Bool.not_false, decide_true, decide_false, eq_self, bne_self_eq_false, List.getElem?_cons_zero, List.getElem?_cons_succ, decide_eq_true_eq, Bool.false_eq_true, Bool.true_eq_false, reduceCtorEq, Nat.le_refl, hwl, hlt]
end
end Go.Proofs.Ytnedbeicpfdjjaa.A
/- The data of a Client with its memory, and what its converters compute. -/
namespace Go.Proofs.Ytnedbeicpfdjjaa.A
open Go
set_option linter.unusedSimpArgs false
set_option linter.unusedVariables false
structure Client where
  id : Int
  seq : Int
  chart : Chart
  busy : Bool
  tries : Int
  ask : Request
  deriving DecidableEq
def Client.RL : Rel Client := fun h cs t fp => ∃ x1 p1, cs = [.int .i64 t.id, .int .i64 t.seq, .int .i64 t.chart.epoch, x1, .bool t.chart.moving, .int .u64 t.chart.lo, .int .i64 t.chart.to, .bool t.busy, .int .i64 t.tries, .int .i64 t.ask.epoch, .int .i64 t.ask.op, .int .u64 t.ask.id, .int .u64 t.ask.amount, .int .i64 t.ask.tx] ∧ fp = p1 ∧ SlR 8 (Fl Range.enc) h x1 t.chart.ranges p1
theorem Client.okL : RelOk Client.RL where
  lt := by
    rintro h cs t fp ⟨x1, p1, rfl, rfl, w1⟩ id hid
    exact w1.lt (Fl.ok _) id hid
  mv := by
    rintro h h' cs t fp ⟨x1, p1, rfl, rfl, w1⟩ hn hg
    exact ⟨x1, _, rfl, rfl, w1.mv (Fl.ok _) hn hg⟩
def Client.RI : Rel Client := fun h cs t fp => ∃ x1 p1, cs = [.int .i64 t.id, .int .i64 t.seq, .int .i64 t.chart.epoch, x1, .bool t.chart.moving, .int .u64 t.chart.lo, .int .i64 t.chart.to, .bool t.busy, .int .i64 t.tries, .int .i64 t.ask.epoch, .int .i64 t.ask.op, .int .u64 t.ask.id, .int .u64 t.ask.amount, .int .i64 t.ask.tx] ∧ fp = p1 ∧ SlR 7 (Fl Range.enc) h x1 t.chart.ranges p1
theorem Client.okI : RelOk Client.RI where
  lt := by
    rintro h cs t fp ⟨x1, p1, rfl, rfl, w1⟩ id hid
    exact w1.lt (Fl.ok _) id hid
  mv := by
    rintro h h' cs t fp ⟨x1, p1, rfl, rfl, w1⟩ hn hg
    exact ⟨x1, _, rfl, rfl, w1.mv (Fl.ok _) hn hg⟩
theorem Client.lenL {h : Heap} {cs : List Cell} {t : Client} {fp : List Nat} (v : Client.RL h cs t fp) : cs.length = 14 ∧ cs.take 14 = cs ∧ cs.drop 14 = [] := by
  obtain ⟨x1, p1, rfl, _⟩ := v
  exact ⟨rfl, rfl, rfl⟩
theorem Client.lenI {h : Heap} {cs : List Cell} {t : Client} {fp : List Nat} (v : Client.RI h cs t fp) : cs.length = 14 ∧ cs.take 14 = cs ∧ cs.drop 14 = [] := by
  obtain ⟨x1, p1, rfl, _⟩ := v
  exact ⟨rfl, rfl, rfl⟩
namespace Client
/-- The numbers are those of the machine. -/
structure Ok (t : Client) : Prop where
  id : -9223372036854775808 ≤ t.id ∧ t.id ≤ 9223372036854775807
  seq : -9223372036854775808 ≤ t.seq ∧ t.seq ≤ 9223372036854775807
  chart : t.chart.Ok
  tries : -9223372036854775808 ≤ t.tries ∧ t.tries ≤ 9223372036854775807
  ask : t.ask.Ok
def Small (t : Client) : Prop := t.chart.Small
def wt (t : Client) : Int := t.chart.wt
def marked (t : Client) (k : Int) : Client := { t with chart := t.chart.marked (k) }
theorem wt_nn (t : Client) : 0 ≤ t.wt := by
  have := t.chart.wt_nn
  simp only [wt]; omega
theorem wt_le {t : Client} (sm : t.Small) : t.wt ≤ 3145728 := by
  unfold Small at sm
  have := Chart.wt_le sm
  simp only [wt]; omega
end Client
theorem Wf.isClient {h : Heap} {n : Nat} {cs : List Cell} (w : Wf h (n + 5) shClient cs) : ∃ t fp, Client.RL h cs t fp ∧ t.Ok := by
  obtain ⟨_, _, rfl, _, ⟨i1, rfl, j1⟩, _, _, rfl, _, ⟨i2, rfl, j2⟩, _, _, rfl, _, ⟨_, _, rfl, _, ⟨i3, rfl, j3⟩, _, _, rfl, _, m4, _, _, rfl, _, ⟨b5, rfl⟩, _, _, rfl, _, ⟨i6, rfl, j6⟩, _, _, rfl, _, ⟨i7, rfl, j7⟩, rfl⟩, _, _, rfl, _, ⟨b8, rfl⟩, _, _, rfl, _, ⟨i9, rfl, j9⟩, _, _, rfl, _, ⟨_, _, rfl, _, ⟨i10, rfl, j10⟩, _, _, rfl, _, ⟨i11, rfl, j11⟩, _, _, rfl, _, ⟨i12, rfl, j12⟩, _, _, rfl, _, ⟨i13, rfl, j13⟩, _, _, rfl, _, ⟨i14, rfl, j14⟩, rfl⟩, rfl⟩ := w
  obtain ⟨x1, l1, p1, rfl, w1, o1⟩ := Wf.isRangeS' m4
  exact ⟨⟨i1, i2, ⟨i3, l1, b5, i6, i7⟩, b8, i9, ⟨i10, i11, i12, i13, i14⟩⟩, _, ⟨x1, _, rfl, rfl, w1⟩, ⟨wfI j1, wfI j2, ⟨wfI j3, o1, wfU j6, wfI j7⟩, wfI j9, ⟨wfI j10, wfI j11, wfU j12, wfU j13, wfI j14⟩⟩⟩
section
variable {F : Nat → Option RF} {Z : CallF} {h : Heap} {cs cs' : List Cell} {t u : Client} {fp fq : List Nat}
theorem szClient_c (hLClient : Has F tLClient) (hLChart : Has F tLChart) (hLRange : Has F tLRange) (hLRequest : Has F tLRequest) (v : Client.RL h cs t fp) (left : Int) (h1 : 0 ≤ left) (h2 : left ≤ 1048576) : ∃ r, call F Z 76 [.agg cs, .c (.int .i64 left)] h = some (.c (.int .i64 r), h) ∧ r ≤ left ∧ (0 ≤ r → t.Small) := by
  obtain ⟨x1, p1, rfl, rfl, w1⟩ := v
  rw [call_run F Z (hLClient.lk (g := 76) rfl) _ _ rfl]
  simp only [run0, run1, run2, run3, run4, noSlot, ownS, ownK, memN, RO.dst, lk, drop, forget, number, Nat.reduceBEq, cut?, splice?, builds, List.length_cons, List.length_nil, List.drop_succ_cons, List.drop_zero, List.take_succ_cons, List.take_zero, List.cons_append, List.nil_append, List.append_nil, List.drop_nil, List.take_nil, Nat.reduceAdd, Nat.reduceLeDiff, Nat.zero_add, Nat.add_zero, ↓reduceIte, Bool.not_true, Bool.not_false, decide_true, decide_false, eq_self, bne_self_eq_false, List.getElem?_cons_zero, List.getElem?_cons_succ, decide_eq_true_eq, Bool.false_eq_true, Bool.true_eq_false, reduceCtorEq, Nat.le_refl]
  obtain ⟨l0, s0, a0, b0⟩ := szChart_c (Z := Z) hLChart hLRange (⟨x1, _, rfl, rfl, w1⟩ : Chart.RL _ _ _ _) left (by omega) (by omega)
  simp only [run0, run1, run2, run3, run4, noSlot, ownS, ownK, memN, RO.dst, lk, drop, forget, number, Nat.reduceBEq, cut?, splice?, builds, List.length_cons, List.length_nil, List.drop_succ_cons, List.drop_zero, List.take_succ_cons, List.take_zero, List.cons_append, List.nil_append, List.append_nil, List.drop_nil, List.take_nil, Nat.reduceAdd, Nat.reduceLeDiff, Nat.zero_add, Nat.add_zero, ↓reduceIte, Bool.not_true, Bool.not_false, decide_true, decide_false, eq_self, bne_self_eq_false, List.getElem?_cons_zero, List.getElem?_cons_succ, decide_eq_true_eq, Bool.false_eq_true, Bool.true_eq_false, reduceCtorEq, Nat.le_refl, s0]
  by_cases n0 : l0 < 0
  · simp only [run0, run1, run2, run3, run4, noSlot, ownS, ownK, memN, RO.dst, lk, drop, forget, number, Nat.reduceBEq, cut?, splice?, builds, List.length_cons, List.length_nil, List.drop_succ_cons, List.drop_zero, List.take_succ_cons, List.take_zero, List.cons_append, List.nil_append, List.append_nil, List.drop_nil, List.take_nil, Nat.reduceAdd, Nat.reduceLeDiff, Nat.zero_add, Nat.add_zero, ↓reduceIte, Bool.not_true, Bool.not_false, decide_true, decide_false, eq_self, bne_self_eq_false, List.getElem?_cons_zero, List.getElem?_cons_succ, decide_eq_true_eq, Bool.false_eq_true, Bool.true_eq_false, reduceCtorEq, Nat.le_refl, n0]
    exact ⟨_, rfl, by omega, by omega⟩
  simp only [run0, run1, run2, run3, run4, noSlot, ownS, ownK, memN, RO.dst, lk, drop, forget, number, Nat.reduceBEq, cut?, splice?, builds, List.length_cons, List.length_nil, List.drop_succ_cons, List.drop_zero, List.take_succ_cons, List.take_zero, List.cons_append, List.nil_append, List.append_nil, List.drop_nil, List.take_nil, Nat.reduceAdd, Nat.reduceLeDiff, Nat.zero_add, Nat.add_zero, ↓reduceIte, Bool.not_true, Bool.not_false, decide_true, decide_false, eq_self, bne_self_eq_false, List.getElem?_cons_zero, List.getElem?_cons_succ, decide_eq_true_eq, Bool.false_eq_true, Bool.true_eq_false, reduceCtorEq, Nat.le_refl, n0]
  exact ⟨_, rfl, by omega, fun _ => b0 (by omega)⟩
theorem toClient_c (hLClient : Has F tLClient) (hLChart : Has F tLChart) (hLRange : Has F tLRange) (hLRequest : Has F tLRequest) (hf : h.floor ≤ h.next) (v : Client.RL h cs t fp) (sm : t.Small) : ∃ cs' h' fq, call F Z 77 [.agg cs] h = some (.agg cs', h') ∧ On h h' ∧ Client.RI h' cs' t fq ∧ Fre h fq := by
  obtain ⟨x1, p1, rfl, rfl, w1⟩ := v
  have sm0 := sm
  obtain ⟨_, g0, _, e0, o0, ⟨y1, q1, rfl, rfl, u1⟩, r0⟩ := toChart_c (Z := Z) hLChart hLRange hf (⟨x1, _, rfl, rfl, w1⟩ : Chart.RL _ _ _ _) sm0
  rw [call_run F Z (hLClient.lk (g := 77) rfl) _ _ rfl]
  simp only [run0, run1, run2, run3, run4, noSlot, ownS, ownK, memN, RO.dst, lk, drop, forget, number, Nat.reduceBEq, cut?, splice?, builds, List.length_cons, List.length_nil, List.drop_succ_cons, List.drop_zero, List.take_succ_cons, List.take_zero, List.cons_append, List.nil_append, List.append_nil, List.drop_nil, List.take_nil, Nat.reduceAdd, Nat.reduceLeDiff, Nat.zero_add, Nat.add_zero, ↓reduceIte, Bool.not_true, Bool.not_false, decide_true, decide_false, eq_self, bne_self_eq_false, List.getElem?_cons_zero, List.getElem?_cons_succ, decide_eq_true_eq, Bool.false_eq_true, Bool.true_eq_false, reduceCtorEq, Nat.le_refl, e0, toRequest_lit hLRequest]
  exact ⟨_, _, _, rfl, o0, ⟨y1, _, rfl, rfl, u1⟩, r0⟩
set_option maxHeartbeats 1000000 in
theorem eqClient_r (hLClient : Has F tLClient) (hLChart : Has F tLChart) (hLRange : Has F tLRange) (hLRequest : Has F tLRequest) (v : Client.RI h cs t fp) (v' : Client.RI h cs' u fq) : call F Z 80 [.agg cs, .agg cs'] h = some (.c (.bool (decide (t = u))), h) := by
  obtain ⟨x1, p1, rfl, rfl, w1⟩ := v
  obtain ⟨x1', p1', rfl, rfl, w1'⟩ := v'
  obtain ⟨id1, seq1, chart1, busy1, tries1, ask1⟩ := t
  obtain ⟨id2, seq2, chart2, busy2, tries2, ask2⟩ := u
  have e0 := eqChart_r (Z := Z) hLChart hLRange (⟨x1, _, rfl, rfl, w1⟩ : Chart.RI h _ chart1 _) (⟨x1', _, rfl, rfl, w1'⟩ : Chart.RI h _ chart2 _)
  cases ask1
  cases ask2
  clear w1 w1'
  rw [call_run F Z (hLClient.lk (g := 80) rfl) _ _ rfl]
  simp only [run0, run1, run2, run3, run4, noSlot, ownS, ownK, memN, RO.dst, lk, drop, forget, number, Nat.reduceBEq, cut?, splice?, builds, List.length_cons, List.length_nil, List.drop_succ_cons, List.drop_zero, List.take_succ_cons, List.take_zero, List.cons_append, List.nil_append, List.append_nil, List.drop_nil, List.take_nil, Nat.reduceAdd, Nat.reduceLeDiff, Nat.zero_add, Nat.add_zero, ↓reduceIte, Bool.not_true, Bool.not_false, decide_true, decide_false, eq_self, bne_self_eq_false, List.getElem?_cons_zero, List.getElem?_cons_succ, decide_eq_true_eq, Bool.false_eq_true, Bool.true_eq_false, reduceCtorEq, Nat.le_refl, e0, eqRequest_lit hLRequest]
  (repeat' ((first | (rw [gF_if]; split) | (rw [condC_if]; split) | (rw [pickR_if]; split)) <;> (rename_i hh; (try simp only [Bool.not_eq_true, decide_eq_true_eq] at hh); simp only [hh, run0, run1, run2, run3, run4, noSlot, ownS, ownK, memN, RO.dst, lk, drop, forget, number, Nat.reduceBEq, cut?, splice?, builds, List.length_cons, List.length_nil, List.drop_succ_cons, List.drop_zero, List.take_succ_cons, List.take_zero, List.cons_append, List.nil_append, List.append_nil, List.drop_nil, List.take_nil, Nat.reduceAdd, Nat.reduceLeDiff, Nat.zero_add, Nat.add_zero, ↓reduceIte, Bool.not_true, Bool.not_false, decide_true, decide_false, eq_self, bne_self_eq_false, List.getElem?_cons_zero, List.getElem?_cons_succ, decide_eq_true_eq, Bool.false_eq_true, Bool.true_eq_false, reduceCtorEq, Nat.le_refl, e0, eqRequest_lit hLRequest]))) <;> clear e0 <;> refine fin_bool ?_ <;> simp_all <;> (try (intros; omega))
theorem markClient_r (hLClient : Has F tLClient) (hLChart : Has F tLChart) (hLRange : Has F tLRange) (hLRequest : Has F tLRequest) (v : Client.RI h cs t fp) (nd : fp.Nodup) (hlo : ∀ id, id ∈ fp → h.floor ≤ id) (k : Int) (h1 : 0 ≤ k) (h2 : k + t.wt ≤ 9200000000000000000) : ∃ h', call F Z 95 [.agg cs, .c (.int .i64 k)] h = some (.c (.int .i64 (k + t.wt)), h') ∧ Mk h h' fp ∧ Client.RI h' cs (t.marked k) fp := by
  obtain ⟨x1, p1, rfl, rfl, w1⟩ := v
  simp only [Client.wt] at h2 ⊢
  obtain ⟨h', e0, m0, ⟨y1, q1, uc, rfl, u1⟩⟩ := markChart_r (Z := Z) hLChart hLRange (⟨x1, _, rfl, rfl, w1⟩ : Chart.RI _ _ _ _) nd hlo k h1 h2
  rw [call_run F Z (hLClient.lk (g := 95) rfl) _ _ rfl]
  simp only [run0, run1, run2, run3, run4, noSlot, ownS, ownK, memN, RO.dst, lk, drop, forget, number, Nat.reduceBEq, cut?, splice?, builds, List.length_cons, List.length_nil, List.drop_succ_cons, List.drop_zero, List.take_succ_cons, List.take_zero, List.cons_append, List.nil_append, List.append_nil, List.drop_nil, List.take_nil, Nat.reduceAdd, Nat.reduceLeDiff, Nat.zero_add, Nat.add_zero, ↓reduceIte, Bool.not_true, Bool.not_false, decide_true, decide_false, eq_self, bne_self_eq_false, List.getElem?_cons_zero, List.getElem?_cons_succ, decide_eq_true_eq, Bool.false_eq_true, Bool.true_eq_false, reduceCtorEq, Nat.le_refl, e0]
  refine ⟨_, rfl, m0, ⟨y1, _, ?_, rfl, u1⟩⟩
  simp_all [Client.marked, Chart.marked]
theorem heldClient_r (hLClient : Has F tLClient) (hLChart : Has F tLChart) (hLRange : Has F tLRange) (hLRequest : Has F tLRequest) {k : Int} (v : Client.RI h cs (t.marked k) fp) (h1 : 0 ≤ k) (h2 : k + t.wt ≤ 9200000000000000000) : call F Z 96 [.agg cs, .c (.int .i64 k)] h = some (.c (.int .i64 (k + t.wt)), h) := by
  obtain ⟨x1, p1, rfl, rfl, w1⟩ := v
  simp only [Client.wt] at h2 ⊢
  have e0 := heldChart_r (Z := Z) hLChart hLRange (t := t.chart) (⟨x1, _, rfl, rfl, w1⟩ : Chart.RI _ _ _ _) h1 h2
  have w0 := t.chart.wt_nn
  have n0 : ¬ k + t.chart.wt < 0 := by omega
  rw [call_run F Z (hLClient.lk (g := 96) rfl) _ _ rfl]
  simp only [Client.marked, run0, run1, run2, run3, run4, noSlot, ownS, ownK, memN, RO.dst, lk, drop, forget, number, Nat.reduceBEq, cut?, splice?, builds, List.length_cons, List.length_nil, List.drop_succ_cons, List.drop_zero, List.take_succ_cons, List.take_zero, List.cons_append, List.nil_append, List.append_nil, List.drop_nil, List.take_nil, Nat.reduceAdd, Nat.reduceLeDiff, Nat.zero_add, Nat.add_zero, ↓reduceIte, Bool.not_true, Bool.not_false, decide_true, decide_false, eq_self, bne_self_eq_false, List.getElem?_cons_zero, List.getElem?_cons_succ, decide_eq_true_eq, Bool.false_eq_true, Bool.true_eq_false, reduceCtorEq, Nat.le_refl] at e0 ⊢
  simp only [run0, run1, run2, run3, run4, noSlot, ownS, ownK, memN, RO.dst, lk, drop, forget, number, Nat.reduceBEq, cut?, splice?, builds, List.length_cons, List.length_nil, List.drop_succ_cons, List.drop_zero, List.take_succ_cons, List.take_zero, List.cons_append, List.nil_append, List.append_nil, List.drop_nil, List.take_nil, Nat.reduceAdd, Nat.reduceLeDiff, Nat.zero_add, Nat.add_zero, ↓reduceIte, Bool.not_true, Bool.not_false, decide_true, decide_false, eq_self, bne_self_eq_false, List.getElem?_cons_zero, List.getElem?_cons_succ, decide_eq_true_eq, Bool.false_eq_true, Bool.true_eq_false, reduceCtorEq, Nat.le_refl, e0, n0]
end
end Go.Proofs.Ytnedbeicpfdjjaa.A
/- Loops that append. -/
namespace Go.Proofs.Ytnedbeicpfdjjaa.A
open Go
set_option linter.unusedSimpArgs false
set_option linter.unusedVariables false
theorem flatMap_le {α β : Type} (g : α → List β) (hg : ∀ a, (g a).length ≤ 1) : ∀ xs : List α, (xs.flatMap g).length ≤ xs.length
  | [] => by simp
  | a :: r => by
    rw [List.flatMap_cons, List.length_append, List.length_cons]
    have := hg a
    have := flatMap_le g hg r
    omega
/-- One turn goes on, or returns; the run stands here once. -/
def Step2 (r : Option (Ex × St)) (J Q : St → Prop) (L : St → Option (Ex × St)) : Prop := (∃ s', J s' ∧ r = L s') ∨ ∃ s', r = some (.ret, s') ∧ Q s'
section
variable {F : Nat → Option RF} {Z : CallF} {live : List Nat} {b : RC}
/-- A loop that appends at most one element at each turn. -/
theorem loop_acc {α : Type} (xs : List α) (g : α → List (List Cell)) (tag : Nat) (h0 : Heap) (st : Nat → Cell → Heap → St) (hg : ∀ a, (g a).length ≤ 1)
    (hs : ∀ i (hi : i < xs.length) y h rows, Acc tag h0 h y rows → rows.length ≤ i → ∃ y' h', Acc tag h0 h' y' (rows ++ g xs[i]) ∧ loop F Z live b (st i y h) = loop F Z live b (st (i + 1) y' h')) {y : Cell} {h : Heap} (a0 : Acc tag h0 h y []) :
    ∃ y' h', Acc tag h0 h' y' (xs.flatMap g) ∧ loop F Z live b (st 0 y h) = loop F Z live b (st xs.length y' h') := by
  have key : ∀ n, n ≤ xs.length → ∃ y' h', Acc tag h0 h' y' ((xs.take n).flatMap g) ∧ ((xs.take n).flatMap g).length ≤ n ∧ loop F Z live b (st 0 y h) = loop F Z live b (st n y' h') := by
    intro n
    induction n with
    | zero => intro _; exact ⟨y, h, by simpa using a0, by simp, rfl⟩
    | succ n ih =>
      intro hn
      obtain ⟨y1, h1, a1, l1, e1⟩ := ih (by omega)
      obtain ⟨y2, h2, a2, e2⟩ := hs n (by omega) y1 h1 _ a1 l1
      have ht : (xs.take (n + 1)).flatMap g = (xs.take n).flatMap g ++ g xs[n] := by
        rw [List.take_add_one, List.getElem?_eq_getElem (by omega), List.flatMap_append]; simp
      refine ⟨y2, h2, by rw [ht]; exact a2, ?_, e1.trans e2⟩
      rw [ht, List.length_append]
      have := hg xs[n]
      omega
  obtain ⟨y', h', a', _, e'⟩ := key xs.length (Nat.le_refl _)
  rw [List.take_length] at a'
  exact ⟨y', h', a', e'⟩
/-- A loop that returns at the first element that fits. -/
theorem loop_find {α : Type} (xs : List α) (p : α → Bool) (st : Nat → St) (Q : Nat → St → Prop) (hs : ∀ i (hi : i < xs.length), Turn (loop F Z live b (st i)) (loop F Z live b (st (i + 1))) (!p xs[i]) (Q i)) :
    (xs.findIdx? p = none ∧ loop F Z live b (st 0) = loop F Z live b (st xs.length)) ∨ ∃ i, xs.findIdx? p = some i ∧ i < xs.length ∧ ∃ s, loop F Z live b (st 0) = some (.ret, s) ∧ Q i s := by
  have key : ∀ n, n ≤ xs.length → ((∀ i (hi : i < xs.length), i < n → p xs[i] = false) ∧ loop F Z live b (st 0) = loop F Z live b (st n)) ∨ ∃ i, xs.findIdx? p = some i ∧ i < xs.length ∧ ∃ s, loop F Z live b (st 0) = some (.ret, s) ∧ Q i s := by
    intro n
    induction n with
    | zero => intro _; exact .inl ⟨fun i hi h => absurd h (Nat.not_lt_zero _), rfl⟩
    | succ n ih =>
      intro hn
      rcases ih (by omega) with ⟨h1, h2⟩ | h
      · rcases hs n (by omega) with ⟨h3, h4⟩ | ⟨h3, s, h4, h5⟩
        · refine .inl ⟨fun i hi hl => ?_, h2.trans h4⟩
          by_cases he : i = n
          · subst he; simpa using h3
          · exact h1 i hi (by omega)
        · refine .inr ⟨n, ?_, by omega, s, h2.trans h4, h5⟩
          rw [List.findIdx?_eq_some_iff_getElem]
          refine ⟨by omega, by simpa using h3, fun j hj => ?_⟩
          simpa using h1 j (by omega) (by omega)
      · exact .inr h
  rcases key xs.length (Nat.le_refl _) with ⟨h1, h2⟩ | h
  · refine .inl ⟨?_, h2⟩
    rw [List.findIdx?_eq_none_iff]
    intro a ha
    obtain ⟨i, hi, rfl⟩ := List.mem_iff_getElem.1 ha
    exact h1 i hi hi
  · exact .inr h
/-- A loop of so many turns, some of which return. -/
theorem loop_rel (n : Nat) (I : Nat → St → Prop) (Q : St → Prop) (hs : ∀ i s, i < n → I i s → Step2 (loop F Z live b s) (I (i + 1)) Q (loop F Z live b)) {s : St} (h0 : I 0 s) :
    (∃ s', I n s' ∧ loop F Z live b s = loop F Z live b s') ∨ ∃ s', loop F Z live b s = some (.ret, s') ∧ Q s' := by
  induction n with
  | zero => exact .inl ⟨s, h0, rfl⟩
  | succ n ih =>
    rcases ih fun i s hi => hs i s (by omega) with ⟨s1, i1, e1⟩ | h
    · rcases hs n s1 (by omega) i1 with ⟨s2, i2, e2⟩ | ⟨s2, e2, q2⟩
      · exact .inl ⟨s2, i2, e1.trans e2⟩
      · exact .inr ⟨s2, e1.trans e2, q2⟩
    · exact .inr h
/-- The place of the first that fits, -1 for none. -/
def findI {α : Type} (p : α → Bool) (xs : List α) : Int := match xs.findIdx? p with
  | some i => (i : Int)
  | none => -1
/-- A loop over a list that carries a value on. -/
theorem loop_fold {α σ : Type} (xs : List α) (step : σ → α → σ) (I : Nat → σ → St → Prop) (hs : ∀ i (hi : i < xs.length) a s, I i a s → ∃ s', I (i + 1) (step a xs[i]) s' ∧ loop F Z live b s = loop F Z live b s') {a : σ} {s : St} (h0 : I 0 a s) :
    ∃ s', I xs.length (xs.foldl step a) s' ∧ loop F Z live b s = loop F Z live b s' := by
  have key : ∀ n, n ≤ xs.length → ∃ s', I n ((xs.take n).foldl step a) s' ∧ loop F Z live b s = loop F Z live b s' := by
    intro n
    induction n with
    | zero => intro _; exact ⟨s, by simpa using h0, rfl⟩
    | succ n ih =>
      intro hn
      obtain ⟨s1, i1, e1⟩ := ih (by omega)
      obtain ⟨s2, i2, e2⟩ := hs n (by omega) _ s1 i1
      refine ⟨s2, ?_, e1.trans e2⟩
      rw [List.take_add_one, List.getElem?_eq_getElem (by omega), List.foldl_append]
      exact i2
  obtain ⟨s', i', e'⟩ := key xs.length (Nat.le_refl _)
  rw [List.take_length] at i'
  exact ⟨s', i', e'⟩
end
end Go.Proofs.Ytnedbeicpfdjjaa.A
/- What the functions of ranges compute. -/
namespace Go.Proofs.Ytnedbeicpfdjjaa.A
open Go
set_option linter.unusedSimpArgs false
set_option linter.unusedVariables false
def Range.at_ (xs : List Range) (i : Nat) : Range := xs[i]?.getD Range.none_
def Range.fits (xs : List Range) (i : Nat) : Bool := decide ((Range.at_ xs i).lo ≤ (Range.at_ xs i).hi) && (inR (Range.at_ xs i).group 0 99 && (i == 0 || decide ((Range.at_ xs i).lo = (Range.at_ xs (i - 1)).hi + 1)))
/-- Are ranges all ids? -/
def rangesOk (xs : List Range) : Bool := inR xs.length 1 24 && ((Range.at_ xs 0).lo == 0 && ((Range.at_ xs (xs.length - 1)).hi == 18446744073709551615 && (List.range xs.length).all (Range.fits xs)))
section
variable {F : Nat → Option RF} {Z : CallF} {h : Heap} {x : Cell} {xs : List Range} {fp : List Nat}
set_option maxHeartbeats 4000000 in
theorem areRanges_turn (hI11 : Has F tI11) (w : SlR 7 (Fl Range.enc) h x xs fp) (hok : ∀ t, t ∈ xs → t.Ok) (i : Nat) (hi : i < xs.length) :
    Turn (loop F Z [0, 30, 31, 32] r124L0 ⟨[(0, .c x), (30, .c x), (31, .c (.int .i64 (xs.length : Nat))), (32, .c (.int .i64 (i : Nat)))], [], [], h⟩)
      (loop F Z [0, 30, 31, 32] r124L0 ⟨[(0, .c x), (30, .c x), (31, .c (.int .i64 (xs.length : Nat))), (32, .c (.int .i64 ((i + 1 : Nat) : Int)))], [], [], h⟩) (Range.fits xs i) (fun s => lk s.env 2 = some (.c (.bool false)) ∧ s.hp = h) := by
  have hle := w.le2
  have hlt : (i : Int) < xs.length := by omega
  have hws := wrapS i (by omega)
  have o1 := hok _ (List.getElem_mem hi)
  rw [loop_run]
  conv in (codeF _ _ r124L0 _) => unfold r124L0
  cases i with
  | zero =>
    have g0 : ¬ ((0 : Nat) : Int) > 0 := by omega
    simp only [run0, run1, run2, run3, run4, noSlot, ownS, ownK, memN, RO.dst, lk, drop, forget, number, Nat.reduceBEq, cut?, splice?, builds, List.length_cons, List.length_nil, List.drop_succ_cons, List.drop_zero, List.take_succ_cons, List.take_zero, List.cons_append, List.nil_append, List.append_nil, List.drop_nil, List.take_nil, Nat.reduceAdd, Nat.reduceLeDiff, Nat.zero_add, Nat.add_zero, ↓reduceIte, Bool.not_true, Bool.not_false, decide_true, decide_false, eq_self, bne_self_eq_false, List.getElem?_cons_zero, List.getElem?_cons_succ, decide_eq_true_eq, Bool.false_eq_true, Bool.true_eq_false, reduceCtorEq, Nat.le_refl, w.len, hlt, w.idx hi, w.load hi, Range.enc, isGroupId_run hI11, g0]
    have e0 : Range.at_ xs 0 = xs[0] := by simp [Range.at_, List.getElem?_eq_getElem hi]
    have hf : Range.fits xs 0 = (decide (xs[0].lo ≤ xs[0].hi) && (inR xs[0].group 0 99 && true)) := by simp only [Range.fits, e0]; rfl
    rw [hf]
    clear w hle hf e0
    generalize xs[0] = r at *
    obtain ⟨lo, hi_, g⟩ := r
    (repeat' ((first | (rw [gF_if]; split) | (rw [condC_if]; split) | (rw [pickR_if]; split)) <;> (rename_i hh; (try simp only [Bool.not_eq_true, decide_eq_true_eq] at hh); simp only [hh, run0, run1, run2, run3, run4, noSlot, ownS, ownK, memN, RO.dst, lk, drop, forget, number, Nat.reduceBEq, cut?, splice?, builds, List.length_cons, List.length_nil, List.drop_succ_cons, List.drop_zero, List.take_succ_cons, List.take_zero, List.cons_append, List.nil_append, List.append_nil, List.drop_nil, List.take_nil, Nat.reduceAdd, Nat.reduceLeDiff, Nat.zero_add, Nat.add_zero, ↓reduceIte, Bool.not_true, Bool.not_false, decide_true, decide_false, eq_self, bne_self_eq_false, List.getElem?_cons_zero, List.getElem?_cons_succ, decide_eq_true_eq, Bool.false_eq_true, Bool.true_eq_false, reduceCtorEq, Nat.le_refl, hws, isGroupId_run hI11, g0]))) <;> first
      | exact .inl ⟨by simp_all <;> omega, rfl⟩
      | exact .inr ⟨by simp_all <;> omega, _, rfl, rfl, rfl⟩
  | succ j =>
    have hj : j < xs.length := by omega
    have o2 := hok _ (List.getElem_mem hj)
    have g1 : ((j + 1 : Nat) : Int) > 0 := by omega
    have hw1 : IntKind.i64.wrap (((j + 1 : Nat) : Int) - 1) = (j : Int) := by rw [wrapI _ (by omega) (by omega)]; omega
    simp only [run0, run1, run2, run3, run4, noSlot, ownS, ownK, memN, RO.dst, lk, drop, forget, number, Nat.reduceBEq, cut?, splice?, builds, List.length_cons, List.length_nil, List.drop_succ_cons, List.drop_zero, List.take_succ_cons, List.take_zero, List.cons_append, List.nil_append, List.append_nil, List.drop_nil, List.take_nil, Nat.reduceAdd, Nat.reduceLeDiff, Nat.zero_add, Nat.add_zero, ↓reduceIte, Bool.not_true, Bool.not_false, decide_true, decide_false, eq_self, bne_self_eq_false, List.getElem?_cons_zero, List.getElem?_cons_succ, decide_eq_true_eq, Bool.false_eq_true, Bool.true_eq_false, reduceCtorEq, Nat.le_refl, w.len, hlt, w.idx hi, w.load hi, Range.enc, isGroupId_run hI11, g1, hw1, w.idx hj, w.load hj]
    have e1 : Range.at_ xs (j + 1) = xs[j + 1] := by simp [Range.at_, List.getElem?_eq_getElem hi]
    have e2 : Range.at_ xs j = xs[j] := by simp [Range.at_, List.getElem?_eq_getElem hj]
    have hf : Range.fits xs (j + 1) = (decide (xs[j + 1].lo ≤ xs[j + 1].hi) && (inR xs[j + 1].group 0 99 && decide (xs[j + 1].lo = xs[j].hi + 1))) := by
      simp only [Range.fits, e1, Nat.add_sub_cancel, e2]
      rfl
    rw [hf]
    have hx := w.idx hj
    have hl := w.load hj
    clear hf e1 e2 
    generalize hr : xs[j + 1] = r at *
    generalize hq : xs[j] = q at *
    obtain ⟨lo, hi_, g⟩ := r
    obtain ⟨lo', hi', g'⟩ := q
    obtain ⟨a1, a2, a3⟩ := o1
    obtain ⟨b1, b2, b3⟩ := o2
    dsimp only at a1 a2 a3 b1 b2 b3
    have hwl : lo ≠ 0 → IntKind.u64.wrap (lo - 1) = lo - 1 := fun h0 => wrapU _ (by omega) (by omega)
    clear hok hle w
    (repeat' ((first | (rw [gF_if]; split) | (rw [condC_if]; split) | (rw [pickR_if]; split)) <;> (rename_i hh; (try simp only [Bool.not_eq_true, decide_eq_true_eq] at hh); simp only [hh, run0, run1, run2, run3, run4, noSlot, ownS, ownK, memN, RO.dst, lk, drop, forget, number, Nat.reduceBEq, cut?, splice?, builds, List.length_cons, List.length_nil, List.drop_succ_cons, List.drop_zero, List.take_succ_cons, List.take_zero, List.cons_append, List.nil_append, List.append_nil, List.drop_nil, List.take_nil, Nat.reduceAdd, Nat.reduceLeDiff, Nat.zero_add, Nat.add_zero, ↓reduceIte, Bool.not_true, Bool.not_false, decide_true, decide_false, eq_self, bne_self_eq_false, List.getElem?_cons_zero, List.getElem?_cons_succ, decide_eq_true_eq, Bool.false_eq_true, Bool.true_eq_false, reduceCtorEq, Nat.le_refl, hws, isGroupId_run hI11, g1, hw1, hx, hl, Range.enc]))) <;> clear hx hl hr hq <;> first
      | exact .inl ⟨by simp_all <;> omega, rfl⟩
      | exact .inr ⟨by simp_all <;> omega, _, rfl, rfl, rfl⟩
theorem areRanges_run (hI11 : Has F tI11) (w : SlR 7 (Fl Range.enc) h x xs fp) (hok : ∀ t, t ∈ xs → t.Ok) : call F Z 124 [.c x] h = some (.c (.bool (rangesOk xs)), h) := by
  have hle := w.le2
  rw [call_run F Z (hI11.lk (g := 124) rfl) _ _ rfl]
  simp only [run0, run1, run2, run3, run4, noSlot, ownS, ownK, memN, RO.dst, lk, drop, forget, number, Nat.reduceBEq, cut?, splice?, builds, List.length_cons, List.length_nil, List.drop_succ_cons, List.drop_zero, List.take_succ_cons, List.take_zero, List.cons_append, List.nil_append, List.append_nil, List.drop_nil, List.take_nil, Nat.reduceAdd, Nat.reduceLeDiff, Nat.zero_add, Nat.add_zero, ↓reduceIte, Bool.not_true, Bool.not_false, decide_true, decide_false, eq_self, bne_self_eq_false, List.getElem?_cons_zero, List.getElem?_cons_succ, decide_eq_true_eq, Bool.false_eq_true, Bool.true_eq_false, reduceCtorEq, Nat.le_refl, w.len]
  by_cases hn : 1 ≤ xs.length ∧ xs.length ≤ 24
  · have d1 : ¬ (xs.length : Int) < 1 := by omega
    have d2 : ¬ (xs.length : Int) > 24 := by omega
    have h0 : 0 < xs.length := by omega
    have h1 : xs.length - 1 < xs.length := by omega
    have hw1 : IntKind.i64.wrap ((xs.length : Int) - 1) = ((xs.length - 1 : Nat) : Int) := by rw [wrapI _ (by omega) (by omega)]; omega
    have x0 : idxR 7 (some x) (some 0) = some (.ptr x.sid 0 0) := w.idx h0
    have inr : inR (xs.length : Int) 1 24 = true := by simp [inR]; omega
    have l0 : ∀ j n, loadP h x.sid 0 j n = cut? (Range.at_ xs 0).enc j n := w.loadD Range.none_ h0
    have l1 : ∀ j n, loadP h x.sid (xs.length - 1) j n = cut? (Range.at_ xs (xs.length - 1)).enc j n := w.loadD Range.none_ h1
    simp only [run0, run1, run2, run3, run4, noSlot, ownS, ownK, memN, RO.dst, lk, drop, forget, number, Nat.reduceBEq, cut?, splice?, builds, List.length_cons, List.length_nil, List.drop_succ_cons, List.drop_zero, List.take_succ_cons, List.take_zero, List.cons_append, List.nil_append, List.append_nil, List.drop_nil, List.take_nil, Nat.reduceAdd, Nat.reduceLeDiff, Nat.zero_add, Nat.add_zero, ↓reduceIte, Bool.not_true, Bool.not_false, decide_true, decide_false, eq_self, bne_self_eq_false, List.getElem?_cons_zero, List.getElem?_cons_succ, decide_eq_true_eq, Bool.false_eq_true, Bool.true_eq_false, reduceCtorEq, Nat.le_refl, w.len, d1, d2, x0, l0, hw1, w.idx h1, l1, Range.enc]
    have key := loop_allN (F := F) (Z := Z) (live := [0, 30, 31, 32]) (b := r124L0) xs.length (fun i => ⟨[(0, .c x), (30, .c x), (31, .c (.int .i64 (xs.length : Nat))), (32, .c (.int .i64 (i : Nat)))], [], [], h⟩) (Range.fits xs) (fun s => lk s.env 2 = some (.c (.bool false)) ∧ s.hp = h) fun i hi => areRanges_turn hI11 w hok i hi
    simp only [show ((0 : Nat) : Int) = 0 from rfl] at key
    have hlt : ¬ (xs.length : Int) < xs.length := by omega
    have hx1 := w.idx h1
    have hwl := w.len
    clear w
    (repeat' ((first | (rw [gF_if]; split) | (rw [condC_if]; split) | (rw [pickR_if]; split)) <;> (rename_i hh; (try simp only [Bool.not_eq_true, decide_eq_true_eq] at hh); simp only [hh, run0, run1, run2, run3, run4, noSlot, ownS, ownK, memN, RO.dst, lk, drop, forget, number, Nat.reduceBEq, cut?, splice?, builds, List.length_cons, List.length_nil, List.drop_succ_cons, List.drop_zero, List.take_succ_cons, List.take_zero, List.cons_append, List.nil_append, List.append_nil, List.drop_nil, List.take_nil, Nat.reduceAdd, Nat.reduceLeDiff, Nat.zero_add, Nat.add_zero, ↓reduceIte, Bool.not_true, Bool.not_false, decide_true, decide_false, eq_self, bne_self_eq_false, List.getElem?_cons_zero, List.getElem?_cons_succ, decide_eq_true_eq, Bool.false_eq_true, Bool.true_eq_false, reduceCtorEq, Nat.le_refl, hw1, hx1, l0, l1, hwl, Range.enc])))
    all_goals first
      | (rcases key with ⟨k1, k2⟩ | ⟨k1, s, k2, k3, k4⟩
         · rw [k2, loop_run]
           conv in (codeF _ _ r124L0 _) => unfold r124L0
           simp only [run0, run1, run2, run3, run4, noSlot, ownS, ownK, memN, RO.dst, lk, drop, forget, number, Nat.reduceBEq, cut?, splice?, builds, List.length_cons, List.length_nil, List.drop_succ_cons, List.drop_zero, List.take_succ_cons, List.take_zero, List.cons_append, List.nil_append, List.append_nil, List.drop_nil, List.take_nil, Nat.reduceAdd, Nat.reduceLeDiff, Nat.zero_add, Nat.add_zero, ↓reduceIte, Bool.not_true, Bool.not_false, decide_true, decide_false, eq_self, bne_self_eq_false, List.getElem?_cons_zero, List.getElem?_cons_succ, decide_eq_true_eq, Bool.false_eq_true, Bool.true_eq_false, reduceCtorEq, Nat.le_refl, hlt]
           simp_all [rangesOk]
         · rw [k2]
           simp only [run0, run1, run2, run3, run4, noSlot, ownS, ownK, memN, RO.dst, lk, drop, forget, number, Nat.reduceBEq, cut?, splice?, builds, List.length_cons, List.length_nil, List.drop_succ_cons, List.drop_zero, List.take_succ_cons, List.take_zero, List.cons_append, List.nil_append, List.append_nil, List.drop_nil, List.take_nil, Nat.reduceAdd, Nat.reduceLeDiff, Nat.zero_add, Nat.add_zero, ↓reduceIte, Bool.not_true, Bool.not_false, decide_true, decide_false, eq_self, bne_self_eq_false, List.getElem?_cons_zero, List.getElem?_cons_succ, decide_eq_true_eq, Bool.false_eq_true, Bool.true_eq_false, reduceCtorEq, Nat.le_refl, k3, k4]
           simp_all [rangesOk])
      | (clear key; simp_all [rangesOk])
  · have inr : inR (xs.length : Int) 1 24 = false := by simp [inR]; omega
    have hr : rangesOk xs = false := by simp [rangesOk, inr]
    rw [hr]
    (repeat' ((first | (rw [gF_if]; split) | (rw [condC_if]; split) | (rw [pickR_if]; split)) <;> (rename_i hh; (try simp only [Bool.not_eq_true, decide_eq_true_eq] at hh); simp only [hh, run0, run1, run2, run3, run4, noSlot, ownS, ownK, memN, RO.dst, lk, drop, forget, number, Nat.reduceBEq, cut?, splice?, builds, List.length_cons, List.length_nil, List.drop_succ_cons, List.drop_zero, List.take_succ_cons, List.take_zero, List.cons_append, List.nil_append, List.append_nil, List.drop_nil, List.take_nil, Nat.reduceAdd, Nat.reduceLeDiff, Nat.zero_add, Nat.add_zero, ↓reduceIte, Bool.not_true, Bool.not_false, decide_true, decide_false, eq_self, bne_self_eq_false, List.getElem?_cons_zero, List.getElem?_cons_succ, decide_eq_true_eq, Bool.false_eq_true, Bool.true_eq_false, reduceCtorEq, Nat.le_refl, w.len])))
    all_goals first | rfl | (exfalso; apply hn; simp_all <;> omega)
set_option maxHeartbeats 4000000 in
theorem sRangesOk_turn (hS : Has F tS01d) (hS11 : Has F tS11) (w : SlR 7 (Fl Range.enc) h x xs fp) (hok : ∀ t, t ∈ xs → t.Ok) (i : Nat) (hi : i < xs.length) :
    Turn (loop F Z [0, 3] r120L0 ⟨[(0, .c x), (3, .c (.int .i64 (i : Nat)))], [], [], h⟩)
      (loop F Z [0, 3] r120L0 ⟨[(0, .c x), (3, .c (.int .i64 ((i + 1 : Nat) : Int)))], [], [], h⟩) (Range.fits xs i) (fun s => lk s.env 2 = some (.c (.bool false)) ∧ s.hp = h) := by
  have hle := w.le2
  have hlt : (i : Int) < xs.length := by omega
  have hws := wrapS i (by omega)
  have o1 := hok _ (List.getElem_mem hi)
  rw [loop_run]
  conv in (codeF _ _ r120L0 _) => unfold r120L0
  cases i with
  | zero =>
    have g0 : ¬ ((0 : Nat) : Int) > 0 := by omega
    simp only [run0, run1, run2, run3, run4, noSlot, ownS, ownK, memN, RO.dst, lk, drop, forget, number, Nat.reduceBEq, cut?, splice?, builds, List.length_cons, List.length_nil, List.drop_succ_cons, List.drop_zero, List.take_succ_cons, List.take_zero, List.cons_append, List.nil_append, List.append_nil, List.drop_nil, List.take_nil, Nat.reduceAdd, Nat.reduceLeDiff, Nat.zero_add, Nat.add_zero, ↓reduceIte, Bool.not_true, Bool.not_false, decide_true, decide_false, eq_self, bne_self_eq_false, List.getElem?_cons_zero, List.getElem?_cons_succ, decide_eq_true_eq, Bool.false_eq_true, Bool.true_eq_false, reduceCtorEq, Nat.le_refl, w.len, hlt, w.idx hi, w.load hi, Range.enc, l01In_run hS, g0]
    have e0 : Range.at_ xs 0 = xs[0] := by simp [Range.at_, List.getElem?_eq_getElem hi]
    have hf : Range.fits xs 0 = (decide (xs[0].lo ≤ xs[0].hi) && (inR xs[0].group 0 99 && true)) := by simp only [Range.fits, e0]; rfl
    rw [hf]
    clear w hle hf e0
    generalize xs[0] = r at *
    obtain ⟨lo, hi_, g⟩ := r
    (repeat' ((first | (rw [gF_if]; split) | (rw [condC_if]; split) | (rw [pickR_if]; split)) <;> (rename_i hh; (try simp only [Bool.not_eq_true, decide_eq_true_eq] at hh); simp only [hh, run0, run1, run2, run3, run4, noSlot, ownS, ownK, memN, RO.dst, lk, drop, forget, number, Nat.reduceBEq, cut?, splice?, builds, List.length_cons, List.length_nil, List.drop_succ_cons, List.drop_zero, List.take_succ_cons, List.take_zero, List.cons_append, List.nil_append, List.append_nil, List.drop_nil, List.take_nil, Nat.reduceAdd, Nat.reduceLeDiff, Nat.zero_add, Nat.add_zero, ↓reduceIte, Bool.not_true, Bool.not_false, decide_true, decide_false, eq_self, bne_self_eq_false, List.getElem?_cons_zero, List.getElem?_cons_succ, decide_eq_true_eq, Bool.false_eq_true, Bool.true_eq_false, reduceCtorEq, Nat.le_refl, hws, l01In_run hS, g0]))) <;> first
      | exact .inl ⟨by simp_all <;> omega, rfl⟩
      | exact .inr ⟨by simp_all <;> omega, _, rfl, rfl, rfl⟩
  | succ j =>
    have hj : j < xs.length := by omega
    have o2 := hok _ (List.getElem_mem hj)
    have g1 : ((j + 1 : Nat) : Int) > 0 := by omega
    have hw1 : IntKind.i64.wrap (((j + 1 : Nat) : Int) - 1) = (j : Int) := by rw [wrapI _ (by omega) (by omega)]; omega
    simp only [run0, run1, run2, run3, run4, noSlot, ownS, ownK, memN, RO.dst, lk, drop, forget, number, Nat.reduceBEq, cut?, splice?, builds, List.length_cons, List.length_nil, List.drop_succ_cons, List.drop_zero, List.take_succ_cons, List.take_zero, List.cons_append, List.nil_append, List.append_nil, List.drop_nil, List.take_nil, Nat.reduceAdd, Nat.reduceLeDiff, Nat.zero_add, Nat.add_zero, ↓reduceIte, Bool.not_true, Bool.not_false, decide_true, decide_false, eq_self, bne_self_eq_false, List.getElem?_cons_zero, List.getElem?_cons_succ, decide_eq_true_eq, Bool.false_eq_true, Bool.true_eq_false, reduceCtorEq, Nat.le_refl, w.len, hlt, w.idx hi, w.load hi, Range.enc, l01In_run hS, g1, hw1, w.idx hj, w.load hj]
    have e1 : Range.at_ xs (j + 1) = xs[j + 1] := by simp [Range.at_, List.getElem?_eq_getElem hi]
    have e2 : Range.at_ xs j = xs[j] := by simp [Range.at_, List.getElem?_eq_getElem hj]
    have hf : Range.fits xs (j + 1) = (decide (xs[j + 1].lo ≤ xs[j + 1].hi) && (inR xs[j + 1].group 0 99 && decide (xs[j + 1].lo = xs[j].hi + 1))) := by
      simp only [Range.fits, e1, Nat.add_sub_cancel, e2]
      rfl
    rw [hf]
    have hx := w.idx hj
    have hl := w.load hj
    clear hf e1 e2 
    generalize hr : xs[j + 1] = r at *
    generalize hq : xs[j] = q at *
    obtain ⟨lo, hi_, g⟩ := r
    obtain ⟨lo', hi', g'⟩ := q
    obtain ⟨a1, a2, a3⟩ := o1
    obtain ⟨b1, b2, b3⟩ := o2
    dsimp only at a1 a2 a3 b1 b2 b3
    have hwl : hi' ≠ 18446744073709551615 → IntKind.u64.wrap (hi' + 1) = hi' + 1 := fun h0 => wrapU _ (by omega) (by omega)
    clear hok hle w
    (repeat' ((first | (rw [gF_if]; split) | (rw [condC_if]; split) | (rw [pickR_if]; split)) <;> (rename_i hh; (try simp only [Bool.not_eq_true, decide_eq_true_eq] at hh); simp only [hh, run0, run1, run2, run3, run4, noSlot, ownS, ownK, memN, RO.dst, lk, drop, forget, number, Nat.reduceBEq, cut?, splice?, builds, List.length_cons, List.length_nil, List.drop_succ_cons, List.drop_zero, List.take_succ_cons, List.take_zero, List.cons_append, List.nil_append, List.append_nil, List.drop_nil, List.take_nil, Nat.reduceAdd, Nat.reduceLeDiff, Nat.zero_add, Nat.add_zero, ↓reduceIte, Bool.not_true, Bool.not_false, decide_true, decide_false, eq_self, bne_self_eq_false, List.getElem?_cons_zero, List.getElem?_cons_succ, decide_eq_true_eq, Bool.false_eq_true, Bool.true_eq_false, reduceCtorEq, Nat.le_refl, hws, l01In_run hS, g1, hw1, hx, hl, Range.enc]))) <;> clear hx hl hr hq <;> first
      | exact .inl ⟨by simp_all <;> omega, rfl⟩
      | exact .inr ⟨by simp_all <;> omega, _, rfl, rfl, rfl⟩
theorem sRangesOk_run (hS : Has F tS01d) (hS11 : Has F tS11) (w : SlR 7 (Fl Range.enc) h x xs fp) (hok : ∀ t, t ∈ xs → t.Ok) : call F Z 120 [.c x] h = some (.c (.bool (rangesOk xs)), h) := by
  have hle := w.le2
  rw [call_run F Z (hS11.lk (g := 120) rfl) _ _ rfl]
  simp only [run0, run1, run2, run3, run4, noSlot, ownS, ownK, memN, RO.dst, lk, drop, forget, number, Nat.reduceBEq, cut?, splice?, builds, List.length_cons, List.length_nil, List.drop_succ_cons, List.drop_zero, List.take_succ_cons, List.take_zero, List.cons_append, List.nil_append, List.append_nil, List.drop_nil, List.take_nil, Nat.reduceAdd, Nat.reduceLeDiff, Nat.zero_add, Nat.add_zero, ↓reduceIte, Bool.not_true, Bool.not_false, decide_true, decide_false, eq_self, bne_self_eq_false, List.getElem?_cons_zero, List.getElem?_cons_succ, decide_eq_true_eq, Bool.false_eq_true, Bool.true_eq_false, reduceCtorEq, Nat.le_refl, w.len, l01In_run hS]
  by_cases hn : 1 ≤ xs.length ∧ xs.length ≤ 24
  · have d1 : ¬ (xs.length : Int) < 1 := by omega
    have d2 : ¬ (xs.length : Int) > 24 := by omega
    have h0 : 0 < xs.length := by omega
    have h1 : xs.length - 1 < xs.length := by omega
    have hw1 : IntKind.i64.wrap ((xs.length : Int) - 1) = ((xs.length - 1 : Nat) : Int) := by rw [wrapI _ (by omega) (by omega)]; omega
    have x0 : idxR 7 (some x) (some 0) = some (.ptr x.sid 0 0) := w.idx h0
    have inr : inR (xs.length : Int) 1 24 = true := by simp [inR]; omega
    have l0 : ∀ j n, loadP h x.sid 0 j n = cut? (Range.at_ xs 0).enc j n := w.loadD Range.none_ h0
    have l1 : ∀ j n, loadP h x.sid (xs.length - 1) j n = cut? (Range.at_ xs (xs.length - 1)).enc j n := w.loadD Range.none_ h1
    simp only [run0, run1, run2, run3, run4, noSlot, ownS, ownK, memN, RO.dst, lk, drop, forget, number, Nat.reduceBEq, cut?, splice?, builds, List.length_cons, List.length_nil, List.drop_succ_cons, List.drop_zero, List.take_succ_cons, List.take_zero, List.cons_append, List.nil_append, List.append_nil, List.drop_nil, List.take_nil, Nat.reduceAdd, Nat.reduceLeDiff, Nat.zero_add, Nat.add_zero, ↓reduceIte, Bool.not_true, Bool.not_false, decide_true, decide_false, eq_self, bne_self_eq_false, List.getElem?_cons_zero, List.getElem?_cons_succ, decide_eq_true_eq, Bool.false_eq_true, Bool.true_eq_false, reduceCtorEq, Nat.le_refl, w.len, inr, x0, l0, hw1, w.idx h1, l1, Range.enc]
    have key := loop_allN (F := F) (Z := Z) (live := [0, 3]) (b := r120L0) xs.length (fun i => ⟨[(0, .c x), (3, .c (.int .i64 (i : Nat)))], [], [], h⟩) (Range.fits xs) (fun s => lk s.env 2 = some (.c (.bool false)) ∧ s.hp = h) fun i hi => sRangesOk_turn hS hS11 w hok i hi
    simp only [show ((0 : Nat) : Int) = 0 from rfl] at key
    have hlt : ¬ (xs.length : Int) < xs.length := by omega
    have hx1 := w.idx h1
    have hwl := w.len
    clear w
    (repeat' ((first | (rw [gF_if]; split) | (rw [condC_if]; split) | (rw [pickR_if]; split)) <;> (rename_i hh; (try simp only [Bool.not_eq_true, decide_eq_true_eq] at hh); simp only [hh, run0, run1, run2, run3, run4, noSlot, ownS, ownK, memN, RO.dst, lk, drop, forget, number, Nat.reduceBEq, cut?, splice?, builds, List.length_cons, List.length_nil, List.drop_succ_cons, List.drop_zero, List.take_succ_cons, List.take_zero, List.cons_append, List.nil_append, List.append_nil, List.drop_nil, List.take_nil, Nat.reduceAdd, Nat.reduceLeDiff, Nat.zero_add, Nat.add_zero, ↓reduceIte, Bool.not_true, Bool.not_false, decide_true, decide_false, eq_self, bne_self_eq_false, List.getElem?_cons_zero, List.getElem?_cons_succ, decide_eq_true_eq, Bool.false_eq_true, Bool.true_eq_false, reduceCtorEq, Nat.le_refl, hw1, hx1, l0, l1, hwl, Range.enc])))
    all_goals first
      | (rcases key with ⟨k1, k2⟩ | ⟨k1, s, k2, k3, k4⟩
         · rw [k2, loop_run]
           conv in (codeF _ _ r120L0 _) => unfold r120L0
           simp only [run0, run1, run2, run3, run4, noSlot, ownS, ownK, memN, RO.dst, lk, drop, forget, number, Nat.reduceBEq, cut?, splice?, builds, List.length_cons, List.length_nil, List.drop_succ_cons, List.drop_zero, List.take_succ_cons, List.take_zero, List.cons_append, List.nil_append, List.append_nil, List.drop_nil, List.take_nil, Nat.reduceAdd, Nat.reduceLeDiff, Nat.zero_add, Nat.add_zero, ↓reduceIte, Bool.not_true, Bool.not_false, decide_true, decide_false, eq_self, bne_self_eq_false, List.getElem?_cons_zero, List.getElem?_cons_succ, decide_eq_true_eq, Bool.false_eq_true, Bool.true_eq_false, reduceCtorEq, Nat.le_refl, hwl, hlt]
           simp_all [rangesOk]
         · rw [k2]
           simp only [run0, run1, run2, run3, run4, noSlot, ownS, ownK, memN, RO.dst, lk, drop, forget, number, Nat.reduceBEq, cut?, splice?, builds, List.length_cons, List.length_nil, List.drop_succ_cons, List.drop_zero, List.take_succ_cons, List.take_zero, List.cons_append, List.nil_append, List.append_nil, List.drop_nil, List.take_nil, Nat.reduceAdd, Nat.reduceLeDiff, Nat.zero_add, Nat.add_zero, ↓reduceIte, Bool.not_true, Bool.not_false, decide_true, decide_false, eq_self, bne_self_eq_false, List.getElem?_cons_zero, List.getElem?_cons_succ, decide_eq_true_eq, Bool.false_eq_true, Bool.true_eq_false, reduceCtorEq, Nat.le_refl, k3, k4]
           simp_all [rangesOk])
      | (clear key; simp_all [rangesOk])
  · have inr : inR (xs.length : Int) 1 24 = false := by simp [inR]; omega
    have hr : rangesOk xs = false := by simp [rangesOk, inr]
    rw [hr]
    simp only [run0, run1, run2, run3, run4, noSlot, ownS, ownK, memN, RO.dst, lk, drop, forget, number, Nat.reduceBEq, cut?, splice?, builds, List.length_cons, List.length_nil, List.drop_succ_cons, List.drop_zero, List.take_succ_cons, List.take_zero, List.cons_append, List.nil_append, List.append_nil, List.drop_nil, List.take_nil, Nat.reduceAdd, Nat.reduceLeDiff, Nat.zero_add, Nat.add_zero, ↓reduceIte, Bool.not_true, Bool.not_false, decide_true, decide_false, eq_self, bne_self_eq_false, List.getElem?_cons_zero, List.getElem?_cons_succ, decide_eq_true_eq, Bool.false_eq_true, Bool.true_eq_false, reduceCtorEq, Nat.le_refl, w.len, inr]
    (repeat' ((first | (rw [gF_if]; split) | (rw [condC_if]; split) | (rw [pickR_if]; split)) <;> (rename_i hh; (try simp only [Bool.not_eq_true, decide_eq_true_eq] at hh); simp only [hh, run0, run1, run2, run3, run4, noSlot, ownS, ownK, memN, RO.dst, lk, drop, forget, number, Nat.reduceBEq, cut?, splice?, builds, List.length_cons, List.length_nil, List.drop_succ_cons, List.drop_zero, List.take_succ_cons, List.take_zero, List.cons_append, List.nil_append, List.append_nil, List.drop_nil, List.take_nil, Nat.reduceAdd, Nat.reduceLeDiff, Nat.zero_add, Nat.add_zero, ↓reduceIte, Bool.not_true, Bool.not_false, decide_true, decide_false, eq_self, bne_self_eq_false, List.getElem?_cons_zero, List.getElem?_cons_succ, decide_eq_true_eq, Bool.false_eq_true, Bool.true_eq_false, reduceCtorEq, Nat.le_refl, w.len])))
    all_goals first | rfl | (exfalso; apply hn; simp_all <;> omega)
end
end Go.Proofs.Ytnedbeicpfdjjaa.A
/- Where an id lies in ranges. -/
namespace Go.Proofs.Ytnedbeicpfdjjaa.A
open Go
set_option linter.unusedSimpArgs false
set_option linter.unusedVariables false
def findHi (xs : List Range) (id : Int) : Int := findI (fun r => decide (id ≤ r.hi)) xs
def findCov (xs : List Range) (id : Int) : Int := findI (fun r => decide (r.lo ≤ id) && decide (id ≤ r.hi)) xs
section
variable {F : Nat → Option RF} {Z : CallF} {h : Heap} {x : Cell} {xs : List Range} {fp : List Nat}
/-- slices.IndexFunc, of a function that leaves the heap alone. -/
theorem indexRange_run (hL : Has F tLibslicesIndexFuncimplRangeimplRange) (w : SlR 7 (Fl Range.enc) h x xs fp) (f : Nat) (ps : List (Nat × Nat × Nat)) (p : Range → Bool)
    (hc : ∀ r : Range, call F Z f (.agg r.enc :: capV ps) h = some (.c (.bool (p r)), h)) : call F Z 126 [.c x, .c (.fn f ps)] h = some (.c (.int .i64 (findI p xs)), h) := by
  have hle := w.le2
  rw [call_run F Z (hL.lk (g := 126) rfl) _ _ rfl]
  simp only [run0, run1, run2, run3, run4, noSlot, ownS, ownK, memN, RO.dst, lk, drop, forget, number, Nat.reduceBEq, cut?, splice?, builds, List.length_cons, List.length_nil, List.drop_succ_cons, List.drop_zero, List.take_succ_cons, List.take_zero, List.cons_append, List.nil_append, List.append_nil, List.drop_nil, List.take_nil, Nat.reduceAdd, Nat.reduceLeDiff, Nat.zero_add, Nat.add_zero, ↓reduceIte, Bool.not_true, Bool.not_false, decide_true, decide_false, eq_self, bne_self_eq_false, List.getElem?_cons_zero, List.getElem?_cons_succ, decide_eq_true_eq, Bool.false_eq_true, Bool.true_eq_false, reduceCtorEq, Nat.le_refl, w.len]
  have key := loop_find (F := F) (Z := Z) (live := [0, 1, 7, 8]) (b := r126L0) xs p (fun i => ⟨[(0, .c x), (1, .c (.fn f ps)), (7, .c (.int .i64 (xs.length : Nat))), (8, .c (.int .i64 (i : Nat)))], [], [], h⟩) (fun i s => lk s.env 4 = some (.c (.int .i64 (i : Nat))) ∧ s.hp = h) fun i hi => by
    have hlt : (i : Int) < xs.length := by omega
    have hws := wrapS i (by omega)
    have hci := hc xs[i]
    rw [loop_run]
    conv in (codeF _ _ r126L0 _) => unfold r126L0
    simp only [run0, run1, run2, run3, run4, noSlot, ownS, ownK, memN, RO.dst, lk, drop, forget, number, Nat.reduceBEq, cut?, splice?, builds, List.length_cons, List.length_nil, List.drop_succ_cons, List.drop_zero, List.take_succ_cons, List.take_zero, List.cons_append, List.nil_append, List.append_nil, List.drop_nil, List.take_nil, Nat.reduceAdd, Nat.reduceLeDiff, Nat.zero_add, Nat.add_zero, ↓reduceIte, Bool.not_true, Bool.not_false, decide_true, decide_false, eq_self, bne_self_eq_false, List.getElem?_cons_zero, List.getElem?_cons_succ, decide_eq_true_eq, Bool.false_eq_true, Bool.true_eq_false, reduceCtorEq, Nat.le_refl, hlt, w.idx hi, w.load hi, Range.len, Range.tak]
    simp only [hci, run0, run1, run2, run3, run4, noSlot, ownS, ownK, memN, RO.dst, lk, drop, forget, number, Nat.reduceBEq, cut?, splice?, builds, List.length_cons, List.length_nil, List.drop_succ_cons, List.drop_zero, List.take_succ_cons, List.take_zero, List.cons_append, List.nil_append, List.append_nil, List.drop_nil, List.take_nil, Nat.reduceAdd, Nat.reduceLeDiff, Nat.zero_add, Nat.add_zero, ↓reduceIte, Bool.not_true, Bool.not_false, decide_true, decide_false, eq_self, bne_self_eq_false, List.getElem?_cons_zero, List.getElem?_cons_succ, decide_eq_true_eq, Bool.false_eq_true, Bool.true_eq_false, reduceCtorEq, Nat.le_refl]
    (repeat' ((first | (rw [gF_if]; split) | (rw [condC_if]; split) | (rw [pickR_if]; split)) <;> (rename_i hh; (try simp only [Bool.not_eq_true, decide_eq_true_eq] at hh); simp only [hh, run0, run1, run2, run3, run4, noSlot, ownS, ownK, memN, RO.dst, lk, drop, forget, number, Nat.reduceBEq, cut?, splice?, builds, List.length_cons, List.length_nil, List.drop_succ_cons, List.drop_zero, List.take_succ_cons, List.take_zero, List.cons_append, List.nil_append, List.append_nil, List.drop_nil, List.take_nil, Nat.reduceAdd, Nat.reduceLeDiff, Nat.zero_add, Nat.add_zero, ↓reduceIte, Bool.not_true, Bool.not_false, decide_true, decide_false, eq_self, bne_self_eq_false, List.getElem?_cons_zero, List.getElem?_cons_succ, decide_eq_true_eq, Bool.false_eq_true, Bool.true_eq_false, reduceCtorEq, Nat.le_refl, hws]))) <;> first
      | exact .inl ⟨by simp_all, rfl⟩
      | exact .inr ⟨by simp_all, _, rfl, rfl, rfl⟩
  have hlt : ¬ (xs.length : Int) < xs.length := by omega
  simp only [show ((0 : Nat) : Int) = 0 from rfl] at key
  rcases key with ⟨k1, k2⟩ | ⟨i, k1, hi, s, k2, k3, k4⟩
  · rw [k2, loop_run]
    conv in (codeF _ _ r126L0 _) => unfold r126L0
    simp only [run0, run1, run2, run3, run4, noSlot, ownS, ownK, memN, RO.dst, lk, drop, forget, number, Nat.reduceBEq, cut?, splice?, builds, List.length_cons, List.length_nil, List.drop_succ_cons, List.drop_zero, List.take_succ_cons, List.take_zero, List.cons_append, List.nil_append, List.append_nil, List.drop_nil, List.take_nil, Nat.reduceAdd, Nat.reduceLeDiff, Nat.zero_add, Nat.add_zero, ↓reduceIte, Bool.not_true, Bool.not_false, decide_true, decide_false, eq_self, bne_self_eq_false, List.getElem?_cons_zero, List.getElem?_cons_succ, decide_eq_true_eq, Bool.false_eq_true, Bool.true_eq_false, reduceCtorEq, Nat.le_refl, hlt, findI, k1]
  · rw [k2]
    simp only [run0, run1, run2, run3, run4, noSlot, ownS, ownK, memN, RO.dst, lk, drop, forget, number, Nat.reduceBEq, cut?, splice?, builds, List.length_cons, List.length_nil, List.drop_succ_cons, List.drop_zero, List.take_succ_cons, List.take_zero, List.cons_append, List.nil_append, List.append_nil, List.drop_nil, List.take_nil, Nat.reduceAdd, Nat.reduceLeDiff, Nat.zero_add, Nat.add_zero, ↓reduceIte, Bool.not_true, Bool.not_false, decide_true, decide_false, eq_self, bne_self_eq_false, List.getElem?_cons_zero, List.getElem?_cons_succ, decide_eq_true_eq, Bool.false_eq_true, Bool.true_eq_false, reduceCtorEq, Nat.le_refl, k3, k4, findI, k1]
theorem findRange_run (hI11 : Has F tI11) (hL : Has F tLibslicesIndexFuncimplRangeimplRange) (w : SlR 7 (Fl Range.enc) h x xs fp) (id : Int) : call F Z 107 [.c x, .c (.int .u64 id)] h = some (.c (.int .i64 (findHi xs id)), h.push [[.int .u64 id]]) := by
  have w' := w.on (Fl.ok _) (On.push h [[.int .u64 id]])
  have hr := indexRange_run (Z := Z) hL w' 125 [(h.next, 0, 0)] (fun r => decide (id ≤ r.hi)) fun r => by
    obtain ⟨lo, hi, g⟩ := r
    have hl : loadP (h.push [[.int .u64 id]]) h.next 0 0 1 = some [.int .u64 id] := by simp [loadP, rowOf, push_get, cut?]
    simp only [Range.enc, run0, run1, run2, run3, run4, noSlot, ownS, ownK, memN, RO.dst, lk, drop, forget, number, Nat.reduceBEq, cut?, splice?, builds, List.length_cons, List.length_nil, List.drop_succ_cons, List.drop_zero, List.take_succ_cons, List.take_zero, List.cons_append, List.nil_append, List.append_nil, List.drop_nil, List.take_nil, Nat.reduceAdd, Nat.reduceLeDiff, Nat.zero_add, Nat.add_zero, ↓reduceIte, Bool.not_true, Bool.not_false, decide_true, decide_false, eq_self, bne_self_eq_false, List.getElem?_cons_zero, List.getElem?_cons_succ, decide_eq_true_eq, Bool.false_eq_true, Bool.true_eq_false, reduceCtorEq, Nat.le_refl, capV_cons]
    rw [call_run F Z (hI11.lk (g := 125) rfl) _ _ rfl]
    simp only [run0, run1, run2, run3, run4, noSlot, ownS, ownK, memN, RO.dst, lk, drop, forget, number, Nat.reduceBEq, cut?, splice?, builds, List.length_cons, List.length_nil, List.drop_succ_cons, List.drop_zero, List.take_succ_cons, List.take_zero, List.cons_append, List.nil_append, List.append_nil, List.drop_nil, List.take_nil, Nat.reduceAdd, Nat.reduceLeDiff, Nat.zero_add, Nat.add_zero, ↓reduceIte, Bool.not_true, Bool.not_false, decide_true, decide_false, eq_self, bne_self_eq_false, List.getElem?_cons_zero, List.getElem?_cons_succ, decide_eq_true_eq, Bool.false_eq_true, Bool.true_eq_false, reduceCtorEq, Nat.le_refl, hl]
  rw [call_run F Z (hI11.lk (g := 107) rfl) _ _ rfl]
  simp only [run0, run1, run2, run3, run4, noSlot, ownS, ownK, memN, RO.dst, lk, drop, forget, number, Nat.reduceBEq, cut?, splice?, builds, List.length_cons, List.length_nil, List.drop_succ_cons, List.drop_zero, List.take_succ_cons, List.take_zero, List.cons_append, List.nil_append, List.append_nil, List.drop_nil, List.take_nil, Nat.reduceAdd, Nat.reduceLeDiff, Nat.zero_add, Nat.add_zero, ↓reduceIte, Bool.not_true, Bool.not_false, decide_true, decide_false, eq_self, bne_self_eq_false, List.getElem?_cons_zero, List.getElem?_cons_succ, decide_eq_true_eq, Bool.false_eq_true, Bool.true_eq_false, reduceCtorEq, Nat.le_refl, hr, evPtrs]
  rfl
theorem Covers_run (hS11 : Has F tS11) (r : Range) (id : Int) (h : Heap) : call F Z 122 [.agg r.enc, .c (.int .u64 id)] h = some (.c (.bool (decide (r.lo ≤ id) && decide (id ≤ r.hi))), h) := by
  obtain ⟨lo, hi, g⟩ := r
  rw [call_run F Z (hS11.lk (g := 122) rfl) _ _ rfl]
  simp only [Range.enc, run0, run1, run2, run3, run4, noSlot, ownS, ownK, memN, RO.dst, lk, drop, forget, number, Nat.reduceBEq, cut?, splice?, builds, List.length_cons, List.length_nil, List.drop_succ_cons, List.drop_zero, List.take_succ_cons, List.take_zero, List.cons_append, List.nil_append, List.append_nil, List.drop_nil, List.take_nil, Nat.reduceAdd, Nat.reduceLeDiff, Nat.zero_add, Nat.add_zero, ↓reduceIte, Bool.not_true, Bool.not_false, decide_true, decide_false, eq_self, bne_self_eq_false, List.getElem?_cons_zero, List.getElem?_cons_succ, decide_eq_true_eq, Bool.false_eq_true, Bool.true_eq_false, reduceCtorEq, Nat.le_refl]
  (repeat' ((first | (rw [gF_if]; split) | (rw [condC_if]; split) | (rw [pickR_if]; split)) <;> (rename_i hh; (try simp only [Bool.not_eq_true, decide_eq_true_eq] at hh); simp only [hh, run0, run1, run2, run3, run4, noSlot, ownS, ownK, memN, RO.dst, lk, drop, forget, number, Nat.reduceBEq, cut?, splice?, builds, List.length_cons, List.length_nil, List.drop_succ_cons, List.drop_zero, List.take_succ_cons, List.take_zero, List.cons_append, List.nil_append, List.append_nil, List.drop_nil, List.take_nil, Nat.reduceAdd, Nat.reduceLeDiff, Nat.zero_add, Nat.add_zero, ↓reduceIte, Bool.not_true, Bool.not_false, decide_true, decide_false, eq_self, bne_self_eq_false, List.getElem?_cons_zero, List.getElem?_cons_succ, decide_eq_true_eq, Bool.false_eq_true, Bool.true_eq_false, reduceCtorEq, Nat.le_refl]))) <;> simp_all
theorem sFindRange_run (hS : Has F tS01d) (hS11 : Has F tS11) (w : SlR 7 (Fl Range.enc) h x xs fp) (hok : ∀ t, t ∈ xs → t.Ok) (id : Int) : call F Z 104 [.c x, .c (.int .u64 id)] h = some (.c (.int .i64 (bif rangesOk xs then findCov xs id else -1)), h) := by
  have hle := w.le2
  have hwl := w.len
  rw [call_run F Z (hS11.lk (g := 104) rfl) _ _ rfl]
  simp only [run0, run1, run2, run3, run4, noSlot, ownS, ownK, memN, RO.dst, lk, drop, forget, number, Nat.reduceBEq, cut?, splice?, builds, List.length_cons, List.length_nil, List.drop_succ_cons, List.drop_zero, List.take_succ_cons, List.take_zero, List.cons_append, List.nil_append, List.append_nil, List.drop_nil, List.take_nil, Nat.reduceAdd, Nat.reduceLeDiff, Nat.zero_add, Nat.add_zero, ↓reduceIte, Bool.not_true, Bool.not_false, decide_true, decide_false, eq_self, bne_self_eq_false, List.getElem?_cons_zero, List.getElem?_cons_succ, decide_eq_true_eq, Bool.false_eq_true, Bool.true_eq_false, reduceCtorEq, Nat.le_refl]
  cases hr : rangesOk xs with
  | false =>
    rw [loop_run]
    conv in (codeF _ _ r104L0 _) => unfold r104L0
    simp only [run0, run1, run2, run3, run4, noSlot, ownS, ownK, memN, RO.dst, lk, drop, forget, number, Nat.reduceBEq, cut?, splice?, builds, List.length_cons, List.length_nil, List.drop_succ_cons, List.drop_zero, List.take_succ_cons, List.take_zero, List.cons_append, List.nil_append, List.append_nil, List.drop_nil, List.take_nil, Nat.reduceAdd, Nat.reduceLeDiff, Nat.zero_add, Nat.add_zero, ↓reduceIte, Bool.not_true, Bool.not_false, decide_true, decide_false, eq_self, bne_self_eq_false, List.getElem?_cons_zero, List.getElem?_cons_succ, decide_eq_true_eq, Bool.false_eq_true, Bool.true_eq_false, reduceCtorEq, Nat.le_refl, hwl, sRangesOk_run hS hS11 w hok, hr]
    (repeat' ((first | (rw [gF_if]; split) | (rw [condC_if]; split) | (rw [pickR_if]; split)) <;> (rename_i hh; (try simp only [Bool.not_eq_true, decide_eq_true_eq] at hh); simp only [hh, run0, run1, run2, run3, run4, noSlot, ownS, ownK, memN, RO.dst, lk, drop, forget, number, Nat.reduceBEq, cut?, splice?, builds, List.length_cons, List.length_nil, List.drop_succ_cons, List.drop_zero, List.take_succ_cons, List.take_zero, List.cons_append, List.nil_append, List.append_nil, List.drop_nil, List.take_nil, Nat.reduceAdd, Nat.reduceLeDiff, Nat.zero_add, Nat.add_zero, ↓reduceIte, Bool.not_true, Bool.not_false, decide_true, decide_false, eq_self, bne_self_eq_false, List.getElem?_cons_zero, List.getElem?_cons_succ, decide_eq_true_eq, Bool.false_eq_true, Bool.true_eq_false, reduceCtorEq, Nat.le_refl, hwl, sRangesOk_run hS hS11 w hok, hr])))
  | true =>
    have key := loop_find (F := F) (Z := Z) (live := [0, 1, 5]) (b := r104L0) xs (fun r => decide (r.lo ≤ id) && decide (id ≤ r.hi)) (fun i => ⟨[(0, .c x), (1, .c (.int .u64 id)), (5, .c (.int .i64 (i : Nat)))], [], [], h⟩) (fun i s => lk s.env 4 = some (.c (.int .i64 (i : Nat))) ∧ s.hp = h) fun i hi => by
      have hlt : (i : Int) < xs.length := by omega
      have hws := wrapS i (by omega)
      rw [loop_run]
      conv in (codeF _ _ r104L0 _) => unfold r104L0
      simp only [run0, run1, run2, run3, run4, noSlot, ownS, ownK, memN, RO.dst, lk, drop, forget, number, Nat.reduceBEq, cut?, splice?, builds, List.length_cons, List.length_nil, List.drop_succ_cons, List.drop_zero, List.take_succ_cons, List.take_zero, List.cons_append, List.nil_append, List.append_nil, List.drop_nil, List.take_nil, Nat.reduceAdd, Nat.reduceLeDiff, Nat.zero_add, Nat.add_zero, ↓reduceIte, Bool.not_true, Bool.not_false, decide_true, decide_false, eq_self, bne_self_eq_false, List.getElem?_cons_zero, List.getElem?_cons_succ, decide_eq_true_eq, Bool.false_eq_true, Bool.true_eq_false, reduceCtorEq, Nat.le_refl, hwl, hlt, sRangesOk_run hS hS11 w hok, hr, w.idx hi, w.load hi, Range.len, Range.tak, Covers_run hS11]
      (repeat' ((first | (rw [gF_if]; split) | (rw [condC_if]; split) | (rw [pickR_if]; split)) <;> (rename_i hh; (try simp only [Bool.not_eq_true, decide_eq_true_eq] at hh); simp only [hh, run0, run1, run2, run3, run4, noSlot, ownS, ownK, memN, RO.dst, lk, drop, forget, number, Nat.reduceBEq, cut?, splice?, builds, List.length_cons, List.length_nil, List.drop_succ_cons, List.drop_zero, List.take_succ_cons, List.take_zero, List.cons_append, List.nil_append, List.append_nil, List.drop_nil, List.take_nil, Nat.reduceAdd, Nat.reduceLeDiff, Nat.zero_add, Nat.add_zero, ↓reduceIte, Bool.not_true, Bool.not_false, decide_true, decide_false, eq_self, bne_self_eq_false, List.getElem?_cons_zero, List.getElem?_cons_succ, decide_eq_true_eq, Bool.false_eq_true, Bool.true_eq_false, reduceCtorEq, Nat.le_refl, hws]))) <;> first
        | exact .inl ⟨by simp_all, rfl⟩
        | exact .inr ⟨by simp_all, _, rfl, rfl, rfl⟩
    have hlt : ¬ (xs.length : Int) < xs.length := by omega
    simp only [show ((0 : Nat) : Int) = 0 from rfl] at key
    rcases key with ⟨k1, k2⟩ | ⟨i, k1, hi, s, k2, k3, k4⟩
    · rw [k2, loop_run]
      conv in (codeF _ _ r104L0 _) => unfold r104L0
      simp only [run0, run1, run2, run3, run4, noSlot, ownS, ownK, memN, RO.dst, lk, drop, forget, number, Nat.reduceBEq, cut?, splice?, builds, List.length_cons, List.length_nil, List.drop_succ_cons, List.drop_zero, List.take_succ_cons, List.take_zero, List.cons_append, List.nil_append, List.append_nil, List.drop_nil, List.take_nil, Nat.reduceAdd, Nat.reduceLeDiff, Nat.zero_add, Nat.add_zero, ↓reduceIte, Bool.not_true, Bool.not_false, decide_true, decide_false, eq_self, bne_self_eq_false, List.getElem?_cons_zero, List.getElem?_cons_succ, decide_eq_true_eq, Bool.false_eq_true, Bool.true_eq_false, reduceCtorEq, Nat.le_refl, hwl, hlt, findCov, findI, k1]
    · rw [k2]
      simp only [run0, run1, run2, run3, run4, noSlot, ownS, ownK, memN, RO.dst, lk, drop, forget, number, Nat.reduceBEq, cut?, splice?, builds, List.length_cons, List.length_nil, List.drop_succ_cons, List.drop_zero, List.take_succ_cons, List.take_zero, List.cons_append, List.nil_append, List.append_nil, List.drop_nil, List.take_nil, Nat.reduceAdd, Nat.reduceLeDiff, Nat.zero_add, Nat.add_zero, ↓reduceIte, Bool.not_true, Bool.not_false, decide_true, decide_false, eq_self, bne_self_eq_false, List.getElem?_cons_zero, List.getElem?_cons_succ, decide_eq_true_eq, Bool.false_eq_true, Bool.true_eq_false, reduceCtorEq, Nat.le_refl, k3, k4, findCov, findI, k1]
end
end Go.Proofs.Ytnedbeicpfdjjaa.A
/- Plain laws of ranges: an id lies in one of them alone. No program here. -/
namespace Go.Proofs.Ytnedbeicpfdjjaa.A
open Go
set_option linter.unusedSimpArgs false
set_option linter.unusedVariables false
structure RangesFit (xs : List Range) : Prop where
  pos : 1 ≤ xs.length
  few : xs.length ≤ 24
  lo0 : (Range.at_ xs 0).lo = 0
  hiN : (Range.at_ xs (xs.length - 1)).hi = 18446744073709551615
  le : ∀ i, i < xs.length → (Range.at_ xs i).lo ≤ (Range.at_ xs i).hi
  grp : ∀ i, i < xs.length → 0 ≤ (Range.at_ xs i).group ∧ (Range.at_ xs i).group ≤ 99
  next : ∀ i, i + 1 < xs.length → (Range.at_ xs (i + 1)).lo = (Range.at_ xs i).hi + 1
theorem rangesOk_fit {xs : List Range} (h : rangesOk xs = true) : RangesFit xs := by
  simp only [rangesOk, Bool.and_eq_true, inR, decide_eq_true_eq, beq_iff_eq, List.all_eq_true, List.mem_range, Range.fits, Bool.or_eq_true] at h
  obtain ⟨⟨h1, h2⟩, h3, h4, h5⟩ := h
  exact ⟨by omega, by omega, h3, h4, fun i hi => (h5 i hi).1, fun i hi => (h5 i hi).2.1, fun i hi => by
    rcases (h5 (i + 1) hi).2.2 with h | h
    · omega
    · simpa using h⟩
theorem at_get {xs : List Range} {i : Nat} (hi : i < xs.length) : Range.at_ xs i = xs[i] := by simp [Range.at_, List.getElem?_eq_getElem hi]
theorem RangesFit.apart {xs : List Range} (w : RangesFit xs) {i : Nat} : ∀ {j : Nat}, i < j → j < xs.length → (Range.at_ xs i).hi < (Range.at_ xs j).lo
  | 0, h, _ => absurd h (Nat.not_lt_zero _)
  | j + 1, h, hj => by
    have hn := w.next j hj
    by_cases he : i = j
    · subst he; omega
    · have := w.apart (i := i) (j := j) (by omega) (by omega)
      have := w.le j (by omega)
      omega
/-- The range of an id. -/
theorem RangesFit.has {xs : List Range} (w : RangesFit xs) {id : Int} (h0 : 0 ≤ id) (h1 : id ≤ 18446744073709551615) :
    ∃ i, i < xs.length ∧ findHi xs id = (i : Int) ∧ findCov xs id = (i : Int) ∧ (Range.at_ xs i).lo ≤ id ∧ id ≤ (Range.at_ xs i).hi := by
  have hp := w.pos
  cases hf : xs.findIdx? (fun r => decide (id ≤ r.hi)) with
  | none =>
    rw [List.findIdx?_eq_none_iff] at hf
    have := hf xs[xs.length - 1] (List.getElem_mem (by omega))
    have hN := w.hiN
    rw [at_get (by omega)] at hN
    simp at this
    omega
  | some i =>
    rw [List.findIdx?_eq_some_iff_getElem] at hf
    obtain ⟨hi, h2, h3⟩ := hf
    have h2' : id ≤ (Range.at_ xs i).hi := by rw [at_get hi]; simpa using h2
    have hlo : (Range.at_ xs i).lo ≤ id := by
      cases i with
      | zero => rw [w.lo0]; exact h0
      | succ i =>
        rw [w.next i hi]
        have := h3 i (by omega)
        rw [at_get (by omega)]
        simp at this
        omega
    refine ⟨i, hi, ?_, ?_, hlo, h2'⟩
    · have : xs.findIdx? (fun r => decide (id ≤ r.hi)) = some i := List.findIdx?_eq_some_iff_getElem.2 ⟨hi, h2, h3⟩
      simp only [findHi, findI, this]
    · have : xs.findIdx? (fun r => decide (r.lo ≤ id) && decide (id ≤ r.hi)) = some i := by
        rw [List.findIdx?_eq_some_iff_getElem]
        rw [at_get hi] at hlo h2'
        refine ⟨hi, by simp [hlo, h2'], fun j hj => ?_⟩
        have := h3 j hj
        simp at this ⊢
        intro _
        exact this
      simp only [findCov, findI, this]
/-- The place of the range that begins with an id. -/
def findLo (xs : List Range) (lo : Int) : Int := findI (fun r => r.lo == lo) xs
theorem RangesFit.begins {xs : List Range} (w : RangesFit xs) {id : Int} {i : Nat} (hi : i < xs.length) (h1 : (Range.at_ xs i).lo ≤ id) (h2 : id ≤ (Range.at_ xs i).hi) :
    findLo xs id = if (Range.at_ xs i).lo = id then (i : Int) else -1 := by
  have huniq : ∀ j, j < xs.length → (Range.at_ xs j).lo = id → j = i := by
    intro j hj he
    have hj2 := w.le j hj
    rcases Nat.lt_trichotomy i j with h | h | h
    · have := w.apart h hj; omega
    · exact h.symm
    · have := w.apart h hi; omega
  split
  · rename_i he
    have : xs.findIdx? (fun r => r.lo == id) = some i := by
      rw [List.findIdx?_eq_some_iff_getElem]
      rw [at_get hi] at he
      refine ⟨hi, by simpa using he, fun j hj hc => ?_⟩
      have := huniq j (by omega) (by rw [at_get (by omega)]; simpa using hc)
      omega
    simp only [findLo, findI, this]
  · rename_i he
    have : xs.findIdx? (fun r => r.lo == id) = none := by
      rw [List.findIdx?_eq_none_iff]
      intro a ha
      obtain ⟨j, hj, rfl⟩ := List.mem_iff_getElem.1 ha
      cases hb : (xs[j].lo == id) with
      | false => rfl
      | true =>
        have hje : (Range.at_ xs j).lo = id := by rw [at_get hj]; simpa using hb
        have := huniq j hj hje
        subst this
        exact absurd hje he
    simp only [findLo, findI, this]
end Go.Proofs.Ytnedbeicpfdjjaa.A
/- Calls with the floor raised. -/
namespace Go.Proofs.Ytnedbeicpfdjjaa.A
open Go
set_option linter.unusedSimpArgs false
set_option linter.unusedVariables false
theorem On.quiet {h h' : Heap} (o : On { h with floor := h.next } h') : On h { h' with floor := h.floor } := ⟨⟨o.ext.1, o.ext.2⟩, rfl⟩
theorem On.up (h : Heap) : On h { h with floor := h.floor } := ⟨⟨Nat.le_refl _, fun _ _ => rfl⟩, rfl⟩
theorem SlR.up {α : Type} {R : Rel α} {tag : Nat} {h : Heap} {x : Cell} {xs : List α} {fp : List Nat} (w : SlR tag R h x xs fp) (ok : RelOk R) (n : Nat) : SlR tag R { h with floor := n } x xs fp := w.mv ok (Nat.le_refl _) fun _ _ => rfl
/-- A call with the floor raised, and the heap behind it as one thing. -/
theorem quietly {F : Nat → Option RF} {Z : CallF} {h h' : Heap} {f : Nat} {vs : List V} {r : V} (e : call F Z f vs ⟨h.next, h.next, h.get⟩ = some (r, h')) (o : On ⟨h.next, h.next, h.get⟩ h') :
    ∃ h' g, call F Z f vs ⟨h.next, h.next, h.get⟩ = some (r, h') ∧ Heap.mk h'.next h.floor h'.get = g ∧ On h g := ⟨h', _, e, rfl, ⟨⟨o.ext.1, o.ext.2⟩, rfl⟩⟩
theorem RelOk.up {α : Type} {R : Rel α} (ok : RelOk R) {h : Heap} {cs : List Cell} {a : α} {fp : List Nat} (w : R h cs a fp) (n : Nat) : R ⟨h.next, n, h.get⟩ cs a fp := ok.mv w (Nat.le_refl _) fun _ _ => rfl
end Go.Proofs.Ytnedbeicpfdjjaa.A
/- What the functions of a chart compute: is it right, and routes. -/
namespace Go.Proofs.Ytnedbeicpfdjjaa.A
open Go
set_option linter.unusedSimpArgs false
set_option linter.unusedVariables false
/-- The range of an id. -/
def Chart.of_ (c : Chart) (id : Int) : Range := Range.at_ c.ranges (findHi c.ranges id).toNat
def Chart.good (c : Chart) : Bool := inR c.epoch 1 1000000 && (rangesOk c.ranges && (bif c.moving then (c.of_ c.lo).lo == c.lo && (inR c.to 0 99 && c.to != (c.of_ c.lo).group) else c.lo == 0 && c.to == 0))
def Chart.route (c : Chart) (id : Int) : Int × Int := bif c.good then ((c.of_ id).group, c.epoch) else (-1, -1)
theorem Chart.good_ranges {c : Chart} (h : c.good = true) : rangesOk c.ranges = true := by
  simp only [Chart.good, Bool.and_eq_true] at h; exact h.2.1
/-- Where an id lies. -/
theorem Chart.has {c : Chart} (hr : rangesOk c.ranges = true) {id : Int} (h0 : 0 ≤ id) (h1 : id ≤ 18446744073709551615) :
    ∃ i, i < c.ranges.length ∧ findHi c.ranges id = (i : Int) ∧ findCov c.ranges id = (i : Int) ∧ c.of_ id = Range.at_ c.ranges i ∧ (Range.at_ c.ranges i).lo ≤ id ∧ id ≤ (Range.at_ c.ranges i).hi := by
  obtain ⟨i, h1, h2, h3, h4, h5⟩ := (rangesOk_fit hr).has h0 h1
  exact ⟨i, h1, h2, h3, by simp [Chart.of_, h2], h4, h5⟩
section
variable {F : Nat → Option RF} {Z : CallF} {h : Heap} {cs cs' : List Cell} {c d : Chart} {fp fq : List Nat}
theorem findRange_q (hI11 : Has F tI11) (hL : Has F tLibslicesIndexFuncimplRangeimplRange) {x : Cell} {xs : List Range} {fp : List Nat} (w : SlR 7 (Fl Range.enc) h x xs fp) (id : Int) :
    ∃ h' g, call F Z 107 [.c x, .c (.int .u64 id)] ⟨h.next, h.next, h.get⟩ = some (.c (.int .i64 (findHi xs id)), h') ∧ Heap.mk h'.next h.floor h'.get = g ∧ On h g :=
  quietly (findRange_run hI11 hL (w.up (Fl.ok _) h.next) id) (On.push _ _)
theorem place_run (hS12 : Has F tS12) {x : Cell} {xs : List Range} {fp : List Nat} (w : SlR 7 (Fl Range.enc) h x xs fp) (lo : Int) : call F Z 121 [.c x, .c (.int .u64 lo)] h = some (.c (.int .i64 (findLo xs lo)), h) := by
  have hle := w.le2
  have hwl := w.len
  rw [call_run F Z (hS12.lk (g := 121) rfl) _ _ rfl]
  simp only [run0, run1, run2, run3, run4, noSlot, ownS, ownK, memN, RO.dst, lk, drop, forget, number, Nat.reduceBEq, cut?, splice?, builds, List.length_cons, List.length_nil, List.drop_succ_cons, List.drop_zero, List.take_succ_cons, List.take_zero, List.cons_append, List.nil_append, List.append_nil, List.drop_nil, List.take_nil, Nat.reduceAdd, Nat.reduceLeDiff, Nat.zero_add, Nat.add_zero, ↓reduceIte, Bool.not_true, Bool.not_false, decide_true, decide_false, eq_self, bne_self_eq_false, List.getElem?_cons_zero, List.getElem?_cons_succ, decide_eq_true_eq, Bool.false_eq_true, Bool.true_eq_false, reduceCtorEq, Nat.le_refl]
  have key := loop_find (F := F) (Z := Z) (live := [0, 1, 5]) (b := r121L0) xs (fun r => r.lo == lo) (fun i => ⟨[(0, .c x), (1, .c (.int .u64 lo)), (5, .c (.int .i64 (i : Nat)))], [], [], h⟩) (fun i s => lk s.env 4 = some (.c (.int .i64 (i : Nat))) ∧ s.hp = h) fun i hi => by
    have hlt : (i : Int) < xs.length := by omega
    have hws := wrapS i (by omega)
    rw [loop_run]
    conv in (codeF _ _ r121L0 _) => unfold r121L0
    simp only [run0, run1, run2, run3, run4, noSlot, ownS, ownK, memN, RO.dst, lk, drop, forget, number, Nat.reduceBEq, cut?, splice?, builds, List.length_cons, List.length_nil, List.drop_succ_cons, List.drop_zero, List.take_succ_cons, List.take_zero, List.cons_append, List.nil_append, List.append_nil, List.drop_nil, List.take_nil, Nat.reduceAdd, Nat.reduceLeDiff, Nat.zero_add, Nat.add_zero, ↓reduceIte, Bool.not_true, Bool.not_false, decide_true, decide_false, eq_self, bne_self_eq_false, List.getElem?_cons_zero, List.getElem?_cons_succ, decide_eq_true_eq, Bool.false_eq_true, Bool.true_eq_false, reduceCtorEq, Nat.le_refl, hwl, hlt, w.idx hi, w.load hi, Range.enc]
    (repeat' ((first | (rw [gF_if]; split) | (rw [condC_if]; split) | (rw [pickR_if]; split)) <;> (rename_i hh; (try simp only [Bool.not_eq_true, decide_eq_true_eq] at hh); simp only [hh, run0, run1, run2, run3, run4, noSlot, ownS, ownK, memN, RO.dst, lk, drop, forget, number, Nat.reduceBEq, cut?, splice?, builds, List.length_cons, List.length_nil, List.drop_succ_cons, List.drop_zero, List.take_succ_cons, List.take_zero, List.cons_append, List.nil_append, List.append_nil, List.drop_nil, List.take_nil, Nat.reduceAdd, Nat.reduceLeDiff, Nat.zero_add, Nat.add_zero, ↓reduceIte, Bool.not_true, Bool.not_false, decide_true, decide_false, eq_self, bne_self_eq_false, List.getElem?_cons_zero, List.getElem?_cons_succ, decide_eq_true_eq, Bool.false_eq_true, Bool.true_eq_false, reduceCtorEq, Nat.le_refl, hws]))) <;> first
      | exact .inl ⟨by simp_all, rfl⟩
      | exact .inr ⟨by simp_all, _, rfl, rfl, rfl⟩
  have hlt : ¬ (xs.length : Int) < xs.length := by omega
  simp only [show ((0 : Nat) : Int) = 0 from rfl] at key
  rcases key with ⟨k1, k2⟩ | ⟨i, k1, hi, s, k2, k3, k4⟩
  · rw [k2, loop_run]
    conv in (codeF _ _ r121L0 _) => unfold r121L0
    simp only [run0, run1, run2, run3, run4, noSlot, ownS, ownK, memN, RO.dst, lk, drop, forget, number, Nat.reduceBEq, cut?, splice?, builds, List.length_cons, List.length_nil, List.drop_succ_cons, List.drop_zero, List.take_succ_cons, List.take_zero, List.cons_append, List.nil_append, List.append_nil, List.drop_nil, List.take_nil, Nat.reduceAdd, Nat.reduceLeDiff, Nat.zero_add, Nat.add_zero, ↓reduceIte, Bool.not_true, Bool.not_false, decide_true, decide_false, eq_self, bne_self_eq_false, List.getElem?_cons_zero, List.getElem?_cons_succ, decide_eq_true_eq, Bool.false_eq_true, Bool.true_eq_false, reduceCtorEq, Nat.le_refl, hwl, hlt, findLo, findI, k1]
  · rw [k2]
    simp only [run0, run1, run2, run3, run4, noSlot, ownS, ownK, memN, RO.dst, lk, drop, forget, number, Nat.reduceBEq, cut?, splice?, builds, List.length_cons, List.length_nil, List.drop_succ_cons, List.drop_zero, List.take_succ_cons, List.take_zero, List.cons_append, List.nil_append, List.append_nil, List.drop_nil, List.take_nil, Nat.reduceAdd, Nat.reduceLeDiff, Nat.zero_add, Nat.add_zero, ↓reduceIte, Bool.not_true, Bool.not_false, decide_true, decide_false, eq_self, bne_self_eq_false, List.getElem?_cons_zero, List.getElem?_cons_succ, decide_eq_true_eq, Bool.false_eq_true, Bool.true_eq_false, reduceCtorEq, Nat.le_refl, k3, k4, findLo, findI, k1]
set_option maxHeartbeats 2000000 in
theorem isChart_run (hI11 : Has F tI11) (hI12 : Has F tI12) (hLi : Has F tLibslicesIndexFuncimplRangeimplRange) (v : Chart.RI h cs c fp) (ok : c.Ok) : ∃ h', call F Z 106 [.agg cs] h = some (.c (.bool c.good), h') ∧ On h h' := by
  obtain ⟨x, p, rfl, rfl, w⟩ := v
  rw [call_run F Z (hI12.lk (g := 106) rfl) _ _ rfl]
  simp only [run0, run1, run2, run3, run4, noSlot, ownS, ownK, memN, RO.dst, lk, drop, forget, number, Nat.reduceBEq, cut?, splice?, builds, List.length_cons, List.length_nil, List.drop_succ_cons, List.drop_zero, List.take_succ_cons, List.take_zero, List.cons_append, List.nil_append, List.append_nil, List.drop_nil, List.take_nil, Nat.reduceAdd, Nat.reduceLeDiff, Nat.zero_add, Nat.add_zero, ↓reduceIte, Bool.not_true, Bool.not_false, decide_true, decide_false, eq_self, bne_self_eq_false, List.getElem?_cons_zero, List.getElem?_cons_succ, decide_eq_true_eq, Bool.false_eq_true, Bool.true_eq_false, reduceCtorEq, Nat.le_refl, areRanges_run hI11 w ok.ranges]
  cases hr : rangesOk c.ranges with
  | false =>
    (repeat' ((first | (rw [gF_if]; split) | (rw [condC_if]; split) | (rw [pickR_if]; split)) <;> (rename_i hh; (try simp only [Bool.not_eq_true, decide_eq_true_eq] at hh); simp only [hh, run0, run1, run2, run3, run4, noSlot, ownS, ownK, memN, RO.dst, lk, drop, forget, number, Nat.reduceBEq, cut?, splice?, builds, List.length_cons, List.length_nil, List.drop_succ_cons, List.drop_zero, List.take_succ_cons, List.take_zero, List.cons_append, List.nil_append, List.append_nil, List.drop_nil, List.take_nil, Nat.reduceAdd, Nat.reduceLeDiff, Nat.zero_add, Nat.add_zero, ↓reduceIte, Bool.not_true, Bool.not_false, decide_true, decide_false, eq_self, bne_self_eq_false, List.getElem?_cons_zero, List.getElem?_cons_succ, decide_eq_true_eq, Bool.false_eq_true, Bool.true_eq_false, reduceCtorEq, Nat.le_refl, areRanges_run hI11 w ok.ranges, hr])))
    all_goals exact ⟨_, by simp_all [Chart.good, inR] <;> (intros; omega), On.refl h⟩
  | true =>
    obtain ⟨i, hi, q1, _, q2, _, _⟩ := Chart.has (c := c) hr ok.lo.1 ok.lo.2
    obtain ⟨hq, g, fr, hgq, on2⟩ := findRange_q (Z := Z) hI11 hLi w c.lo
    rw [q1] at fr
    have hld : ∀ j n, loadP g x.sid i j n = cut? (Range.at_ c.ranges i).enc j n := (w.on (Fl.ok _) on2).loadD Range.none_ hi
    have hix := w.idx hi
    have hA := areRanges_run (Z := Z) hI11 w ok.ranges
    have o0 := On.refl h
    clear w
    (repeat' ((first | (rw [gF_if]; split) | (rw [condC_if]; split) | (rw [pickR_if]; split)) <;> (rename_i hh; (try simp only [Bool.not_eq_true, decide_eq_true_eq] at hh); simp only [hh, run0, run1, run2, run3, run4, noSlot, ownS, ownK, memN, RO.dst, lk, drop, forget, number, Nat.reduceBEq, cut?, splice?, builds, List.length_cons, List.length_nil, List.drop_succ_cons, List.drop_zero, List.take_succ_cons, List.take_zero, List.cons_append, List.nil_append, List.append_nil, List.drop_nil, List.take_nil, Nat.reduceAdd, Nat.reduceLeDiff, Nat.zero_add, Nat.add_zero, ↓reduceIte, Bool.not_true, Bool.not_false, decide_true, decide_false, eq_self, bne_self_eq_false, List.getElem?_cons_zero, List.getElem?_cons_succ, decide_eq_true_eq, Bool.false_eq_true, Bool.true_eq_false, reduceCtorEq, Nat.le_refl, hA, hr, fr, hgq, hld, hix, Range.enc, isGroupId_run hI11])))
    all_goals clear hA fr hld hix hgq
    all_goals first
      | (refine ⟨_, ?_, o0⟩; clear o0 on2; simp_all [Chart.good, inR]; done)
      | (refine ⟨_, ?_, o0⟩; clear o0 on2; simp_all [Chart.good, inR]; intros; omega)
      | (refine ⟨_, ?_, on2⟩; clear o0 on2; simp_all [Chart.good, inR]; done)
      | (refine ⟨_, ?_, on2⟩; clear o0 on2; simp_all [Chart.good, inR]; intros; omega)
set_option maxHeartbeats 2000000 in
theorem sChartOk_run (hS : Has F tS01d) (hS11 : Has F tS11) (hS12 : Has F tS12) (v : Chart.RI h cs c fp) (ok : c.Ok) : call F Z 103 [.agg cs] h = some (.c (.bool c.good), h) := by
  obtain ⟨x, p, rfl, rfl, w⟩ := v
  rw [call_run F Z (hS12.lk (g := 103) rfl) _ _ rfl]
  have hA := sRangesOk_run (Z := Z) hS hS11 w ok.ranges
  simp only [run0, run1, run2, run3, run4, noSlot, ownS, ownK, memN, RO.dst, lk, drop, forget, number, Nat.reduceBEq, cut?, splice?, builds, List.length_cons, List.length_nil, List.drop_succ_cons, List.drop_zero, List.take_succ_cons, List.take_zero, List.cons_append, List.nil_append, List.append_nil, List.drop_nil, List.take_nil, Nat.reduceAdd, Nat.reduceLeDiff, Nat.zero_add, Nat.add_zero, ↓reduceIte, Bool.not_true, Bool.not_false, decide_true, decide_false, eq_self, bne_self_eq_false, List.getElem?_cons_zero, List.getElem?_cons_succ, decide_eq_true_eq, Bool.false_eq_true, Bool.true_eq_false, reduceCtorEq, Nat.le_refl, hA, l01In_run hS]
  cases hr : rangesOk c.ranges with
  | false =>
    (repeat' ((first | (rw [gF_if]; split) | (rw [condC_if]; split) | (rw [pickR_if]; split)) <;> (rename_i hh; (try simp only [Bool.not_eq_true, decide_eq_true_eq] at hh); simp only [hh, run0, run1, run2, run3, run4, noSlot, ownS, ownK, memN, RO.dst, lk, drop, forget, number, Nat.reduceBEq, cut?, splice?, builds, List.length_cons, List.length_nil, List.drop_succ_cons, List.drop_zero, List.take_succ_cons, List.take_zero, List.cons_append, List.nil_append, List.append_nil, List.drop_nil, List.take_nil, Nat.reduceAdd, Nat.reduceLeDiff, Nat.zero_add, Nat.add_zero, ↓reduceIte, Bool.not_true, Bool.not_false, decide_true, decide_false, eq_self, bne_self_eq_false, List.getElem?_cons_zero, List.getElem?_cons_succ, decide_eq_true_eq, Bool.false_eq_true, Bool.true_eq_false, reduceCtorEq, Nat.le_refl, hA, hr, l01In_run hS])))
    all_goals simp_all [Chart.good, inR] <;> (intros; omega)
  | true =>
    obtain ⟨i, hi, q1, _, q2, q3, q4⟩ := Chart.has (c := c) hr ok.lo.1 ok.lo.2
    have hb := (rangesOk_fit hr).begins hi q3 q4
    have pl := place_run (Z := Z) hS12 w c.lo
    have hld : ∀ j n, loadP h x.sid i j n = cut? (Range.at_ c.ranges i).enc j n := w.loadD Range.none_ hi
    have hix := w.idx hi
    rw [hb] at pl
    clear w
    by_cases he : (Range.at_ c.ranges i).lo = c.lo
    · rw [if_pos he] at pl
      have hge : (i : Int) ≥ 0 := by omega
      (repeat' ((first | (rw [gF_if]; split) | (rw [condC_if]; split) | (rw [pickR_if]; split)) <;> (rename_i hh; (try simp only [Bool.not_eq_true, decide_eq_true_eq] at hh); simp only [hh, run0, run1, run2, run3, run4, noSlot, ownS, ownK, memN, RO.dst, lk, drop, forget, number, Nat.reduceBEq, cut?, splice?, builds, List.length_cons, List.length_nil, List.drop_succ_cons, List.drop_zero, List.take_succ_cons, List.take_zero, List.cons_append, List.nil_append, List.append_nil, List.drop_nil, List.take_nil, Nat.reduceAdd, Nat.reduceLeDiff, Nat.zero_add, Nat.add_zero, ↓reduceIte, Bool.not_true, Bool.not_false, decide_true, decide_false, eq_self, bne_self_eq_false, List.getElem?_cons_zero, List.getElem?_cons_succ, decide_eq_true_eq, Bool.false_eq_true, Bool.true_eq_false, reduceCtorEq, Nat.le_refl, hA, hr, pl, hge, hld, hix, Range.enc, l01In_run hS])))
      all_goals first | (simp_all [Chart.good, inR]; done) | (simp_all [Chart.good, inR]; intros; omega) | (simp_all [Chart.good, inR]; exact bne_comm)
    · rw [if_neg he] at pl
      have hge : ¬ (-1 : Int) ≥ 0 := by omega
      (repeat' ((first | (rw [gF_if]; split) | (rw [condC_if]; split) | (rw [pickR_if]; split)) <;> (rename_i hh; (try simp only [Bool.not_eq_true, decide_eq_true_eq] at hh); simp only [hh, run0, run1, run2, run3, run4, noSlot, ownS, ownK, memN, RO.dst, lk, drop, forget, number, Nat.reduceBEq, cut?, splice?, builds, List.length_cons, List.length_nil, List.drop_succ_cons, List.drop_zero, List.take_succ_cons, List.take_zero, List.cons_append, List.nil_append, List.append_nil, List.drop_nil, List.take_nil, Nat.reduceAdd, Nat.reduceLeDiff, Nat.zero_add, Nat.add_zero, ↓reduceIte, Bool.not_true, Bool.not_false, decide_true, decide_false, eq_self, bne_self_eq_false, List.getElem?_cons_zero, List.getElem?_cons_succ, decide_eq_true_eq, Bool.false_eq_true, Bool.true_eq_false, reduceCtorEq, Nat.le_refl, hA, hr, pl, hge, Range.enc, l01In_run hS])))
      all_goals first | (simp_all [Chart.good, inR]; done) | (simp_all [Chart.good, inR]; intros; omega)
end
end Go.Proofs.Ytnedbeicpfdjjaa.A
/- Routes by a chart, and whether an id has moved. -/
namespace Go.Proofs.Ytnedbeicpfdjjaa.A
open Go
set_option linter.unusedSimpArgs false
set_option linter.unusedVariables false
def Chart.moved (c d : Chart) (id : Int) : Bool := c.good && (d.good && (c.of_ id).group != (d.of_ id).group)
section
variable {F : Nat → Option RF} {Z : CallF} {h : Heap} {cs cs' : List Cell} {c d : Chart} {fp fq : List Nat}
theorem isChart_q (hI11 : Has F tI11) (hI12 : Has F tI12) (hLi : Has F tLibslicesIndexFuncimplRangeimplRange) (v : Chart.RI h cs c fp) (ok : c.Ok) :
    ∃ h' g, call F Z 106 [.agg cs] ⟨h.next, h.next, h.get⟩ = some (.c (.bool c.good), h') ∧ Heap.mk h'.next h.floor h'.get = g ∧ On h g := by
  obtain ⟨h1, e1, o1⟩ := isChart_run (Z := Z) hI11 hI12 hLi (Chart.okI.up v h.next) ok
  exact quietly e1 o1
theorem RouteOf_run (hI11 : Has F tI11) (hI12 : Has F tI12) (hLi : Has F tLibslicesIndexFuncimplRangeimplRange) (v : Chart.RI h cs c fp) (ok : c.Ok) {id : Int} (g0 : 0 ≤ id) (g1 : id ≤ 18446744073709551615) :
    ∃ h', call F Z 70 [.agg cs, .c (.int .u64 id)] h = some (.tup [.c (.int .i64 (c.route id).1), .c (.int .i64 (c.route id).2)], h') ∧ On h h' := by
  obtain ⟨h1, e1, o1⟩ := isChart_run (Z := Z) hI11 hI12 hLi v ok
  obtain ⟨x, p, rfl, rfl, w⟩ := v
  rw [call_run F Z (hI12.lk (g := 70) rfl) _ _ rfl]
  cases hg : c.good with
  | false =>
    rw [hg] at e1
    simp only [run0, run1, run2, run3, run4, noSlot, ownS, ownK, memN, RO.dst, lk, drop, forget, number, Nat.reduceBEq, cut?, splice?, builds, List.length_cons, List.length_nil, List.drop_succ_cons, List.drop_zero, List.take_succ_cons, List.take_zero, List.cons_append, List.nil_append, List.append_nil, List.drop_nil, List.take_nil, Nat.reduceAdd, Nat.reduceLeDiff, Nat.zero_add, Nat.add_zero, ↓reduceIte, Bool.not_true, Bool.not_false, decide_true, decide_false, eq_self, bne_self_eq_false, List.getElem?_cons_zero, List.getElem?_cons_succ, decide_eq_true_eq, Bool.false_eq_true, Bool.true_eq_false, reduceCtorEq, Nat.le_refl, e1]
    exact ⟨_, by simp [Chart.route, hg], o1⟩
  | true =>
    rw [hg] at e1
    obtain ⟨i, hi, q1, _, q2, _, _⟩ := Chart.has (c := c) (Chart.good_ranges hg) g0 g1
    have w1 := w.on (Fl.ok _) o1
    obtain ⟨hq, g, fr, hgq, on2⟩ := findRange_q (Z := Z) hI11 hLi w1 id
    rw [q1] at fr
    have hld : ∀ j n, loadP g x.sid i j n = cut? (Range.at_ c.ranges i).enc j n := (w1.on (Fl.ok _) on2).loadD Range.none_ hi
    simp only [run0, run1, run2, run3, run4, noSlot, ownS, ownK, memN, RO.dst, lk, drop, forget, number, Nat.reduceBEq, cut?, splice?, builds, List.length_cons, List.length_nil, List.drop_succ_cons, List.drop_zero, List.take_succ_cons, List.take_zero, List.cons_append, List.nil_append, List.append_nil, List.drop_nil, List.take_nil, Nat.reduceAdd, Nat.reduceLeDiff, Nat.zero_add, Nat.add_zero, ↓reduceIte, Bool.not_true, Bool.not_false, decide_true, decide_false, eq_self, bne_self_eq_false, List.getElem?_cons_zero, List.getElem?_cons_succ, decide_eq_true_eq, Bool.false_eq_true, Bool.true_eq_false, reduceCtorEq, Nat.le_refl, e1, fr, hgq, hld, w.idx hi, Range.enc]
    exact ⟨_, by simp [Chart.route, hg, q2], o1.trans on2⟩
theorem sRouteOf_run (hS : Has F tS01d) (hS11 : Has F tS11) (hS12 : Has F tS12) (v : Chart.RI h cs c fp) (ok : c.Ok) {id : Int} (g0 : 0 ≤ id) (g1 : id ≤ 18446744073709551615) :
    ∃ h', call F Z 69 [.agg cs, .c (.int .u64 id)] h = some (.tup [.c (.int .i64 (c.route id).1), .c (.int .i64 (c.route id).2)], h') ∧ On h h' := by
  have e1 := sChartOk_run (Z := Z) hS hS11 hS12 v ok
  obtain ⟨x, p, rfl, rfl, w⟩ := v
  rw [call_run F Z (hS12.lk (g := 69) rfl) _ _ rfl]
  cases hg : c.good with
  | false =>
    rw [hg] at e1
    simp only [run0, run1, run2, run3, run4, noSlot, ownS, ownK, memN, RO.dst, lk, drop, forget, number, Nat.reduceBEq, cut?, splice?, builds, List.length_cons, List.length_nil, List.drop_succ_cons, List.drop_zero, List.take_succ_cons, List.take_zero, List.cons_append, List.nil_append, List.append_nil, List.drop_nil, List.take_nil, Nat.reduceAdd, Nat.reduceLeDiff, Nat.zero_add, Nat.add_zero, ↓reduceIte, Bool.not_true, Bool.not_false, decide_true, decide_false, eq_self, bne_self_eq_false, List.getElem?_cons_zero, List.getElem?_cons_succ, decide_eq_true_eq, Bool.false_eq_true, Bool.true_eq_false, reduceCtorEq, Nat.le_refl, e1]
    exact ⟨_, by simp [Chart.route, hg], On.refl h⟩
  | true =>
    rw [hg] at e1
    obtain ⟨i, hi, q1, q5, q2, _, _⟩ := Chart.has (c := c) (Chart.good_ranges hg) g0 g1
    obtain ⟨hq, g, fr, hgq, on2⟩ := quietly (sFindRange_run (Z := Z) hS hS11 (w.up (Fl.ok _) h.next) ok.ranges id) (On.refl _)
    rw [Chart.good_ranges hg, q5] at fr
    simp only [cond_true] at fr
    have hld : ∀ j n, loadP g x.sid i j n = cut? (Range.at_ c.ranges i).enc j n := (w.on (Fl.ok _) on2).loadD Range.none_ hi
    simp only [run0, run1, run2, run3, run4, noSlot, ownS, ownK, memN, RO.dst, lk, drop, forget, number, Nat.reduceBEq, cut?, splice?, builds, List.length_cons, List.length_nil, List.drop_succ_cons, List.drop_zero, List.take_succ_cons, List.take_zero, List.cons_append, List.nil_append, List.append_nil, List.drop_nil, List.take_nil, Nat.reduceAdd, Nat.reduceLeDiff, Nat.zero_add, Nat.add_zero, ↓reduceIte, Bool.not_true, Bool.not_false, decide_true, decide_false, eq_self, bne_self_eq_false, List.getElem?_cons_zero, List.getElem?_cons_succ, decide_eq_true_eq, Bool.false_eq_true, Bool.true_eq_false, reduceCtorEq, Nat.le_refl, e1, fr, hgq, hld, w.idx hi, Range.enc]
    exact ⟨_, by simp [Chart.route, hg, q2], on2⟩
theorem sMovedBetween_run (hS : Has F tS01d) (hS11 : Has F tS11) (hS12 : Has F tS12) (v : Chart.RI h cs c fp) (u : Chart.RI h cs' d fq) (ok : c.Ok) (ok' : d.Ok) {id : Int} (g0 : 0 ≤ id) (g1 : id ≤ 18446744073709551615) :
    ∃ h', call F Z 73 [.agg cs, .agg cs', .c (.int .u64 id)] h = some (.c (.bool (c.moved d id)), h') ∧ On h h' := by
  obtain ⟨h1, e1, o1⟩ := sRouteOf_run (Z := Z) hS hS11 hS12 v ok g0 g1
  obtain ⟨h2, e2, o2⟩ := sRouteOf_run (Z := Z) hS hS11 hS12 (Chart.okI.mono u o1.ext) ok' g0 g1
  have r1 : (0 ≤ (c.route id).1) ↔ c.good = true := by
    unfold Chart.route
    cases hg : c.good with
    | false => simp
    | true =>
      obtain ⟨i, hi, q1, _, q2, _, _⟩ := Chart.has (c := c) (Chart.good_ranges hg) g0 g1
      have := ((rangesOk_fit (Chart.good_ranges hg)).grp i hi).1
      simp only [cond_true, q2]
      simp [this]
  have r2 : (0 ≤ (d.route id).1) ↔ d.good = true := by
    unfold Chart.route
    cases hg : d.good with
    | false => simp
    | true =>
      obtain ⟨i, hi, q1, _, q2, _, _⟩ := Chart.has (c := d) (Chart.good_ranges hg) g0 g1
      have := ((rangesOk_fit (Chart.good_ranges hg)).grp i hi).1
      simp only [cond_true, q2]
      simp [this]
  obtain ⟨x, p, rfl, rfl, w⟩ := v
  obtain ⟨x', p', rfl, rfl, w'⟩ := u
  rw [call_run F Z (hS12.lk (g := 73) rfl) _ _ rfl]
  simp only [run0, run1, run2, run3, run4, noSlot, ownS, ownK, memN, RO.dst, lk, drop, forget, number, Nat.reduceBEq, cut?, splice?, builds, List.length_cons, List.length_nil, List.drop_succ_cons, List.drop_zero, List.take_succ_cons, List.take_zero, List.cons_append, List.nil_append, List.append_nil, List.drop_nil, List.take_nil, Nat.reduceAdd, Nat.reduceLeDiff, Nat.zero_add, Nat.add_zero, ↓reduceIte, Bool.not_true, Bool.not_false, decide_true, decide_false, eq_self, bne_self_eq_false, List.getElem?_cons_zero, List.getElem?_cons_succ, decide_eq_true_eq, Bool.false_eq_true, Bool.true_eq_false, reduceCtorEq, Nat.le_refl, e1, e2]
  refine ⟨h2, ?_, o1.trans o2⟩
  clear e1 e2 w w'
  (repeat' ((first | (rw [gF_if]; split) | (rw [condC_if]; split) | (rw [pickR_if]; split)) <;> (rename_i hh; (try simp only [Bool.not_eq_true, decide_eq_true_eq] at hh); simp only [hh, run0, run1, run2, run3, run4, noSlot, ownS, ownK, memN, RO.dst, lk, drop, forget, number, Nat.reduceBEq, cut?, splice?, builds, List.length_cons, List.length_nil, List.drop_succ_cons, List.drop_zero, List.take_succ_cons, List.take_zero, List.cons_append, List.nil_append, List.append_nil, List.drop_nil, List.take_nil, Nat.reduceAdd, Nat.reduceLeDiff, Nat.zero_add, Nat.add_zero, ↓reduceIte, Bool.not_true, Bool.not_false, decide_true, decide_false, eq_self, bne_self_eq_false, List.getElem?_cons_zero, List.getElem?_cons_succ, decide_eq_true_eq, Bool.false_eq_true, Bool.true_eq_false, reduceCtorEq, Nat.le_refl]))) <;> refine fin_bool ?_ <;> simp_all [Chart.moved, Chart.route]
end
end Go.Proofs.Ytnedbeicpfdjjaa.A
/- Whether an id has moved, by the program. -/
namespace Go.Proofs.Ytnedbeicpfdjjaa.A
open Go
set_option linter.unusedSimpArgs false
set_option linter.unusedVariables false
section
variable {F : Nat → Option RF} {Z : CallF} {h : Heap} {cs cs' : List Cell} {c d : Chart} {fp fq : List Nat}
theorem MovedBetween_run (hI11 : Has F tI11) (hI12 : Has F tI12) (hLi : Has F tLibslicesIndexFuncimplRangeimplRange) (v : Chart.RI h cs c fp) (u : Chart.RI h cs' d fq) (ok : c.Ok) (ok' : d.Ok) {id : Int} (g0 : 0 ≤ id) (g1 : id ≤ 18446744073709551615) :
    ∃ h', call F Z 74 [.agg cs, .agg cs', .c (.int .u64 id)] h = some (.c (.bool (c.moved d id)), h') ∧ On h h' := by
  obtain ⟨_, k1, e1, m1, o1⟩ := isChart_q (Z := Z) hI11 hI12 hLi v ok
  obtain ⟨_, k2, e2, m2, o2⟩ := isChart_q (Z := Z) hI11 hI12 hLi (Chart.okI.mono u o1.ext) ok'
  rw [o1.fl] at m2
  obtain ⟨x, p, rfl, rfl, w⟩ := v
  obtain ⟨x', p', rfl, rfl, w'⟩ := u
  rw [call_run F Z (hI12.lk (g := 74) rfl) _ _ rfl]
  have o12 := o1.trans o2
  cases hg : c.good with
  | false =>
    rw [hg] at e1
    simp only [run0, run1, run2, run3, run4, noSlot, ownS, ownK, memN, RO.dst, lk, drop, forget, number, Nat.reduceBEq, cut?, splice?, builds, List.length_cons, List.length_nil, List.drop_succ_cons, List.drop_zero, List.take_succ_cons, List.take_zero, List.cons_append, List.nil_append, List.append_nil, List.drop_nil, List.take_nil, Nat.reduceAdd, Nat.reduceLeDiff, Nat.zero_add, Nat.add_zero, ↓reduceIte, Bool.not_true, Bool.not_false, decide_true, decide_false, eq_self, bne_self_eq_false, List.getElem?_cons_zero, List.getElem?_cons_succ, decide_eq_true_eq, Bool.false_eq_true, Bool.true_eq_false, reduceCtorEq, Nat.le_refl, e1, m1]
    exact ⟨_, by simp [Chart.moved, hg], o1⟩
  | true =>
    rw [hg] at e1
    cases hg' : d.good with
    | false =>
      rw [hg'] at e2
      have f1 := o1.fl
      simp only [run0, run1, run2, run3, run4, noSlot, ownS, ownK, memN, RO.dst, lk, drop, forget, number, Nat.reduceBEq, cut?, splice?, builds, List.length_cons, List.length_nil, List.drop_succ_cons, List.drop_zero, List.take_succ_cons, List.take_zero, List.cons_append, List.nil_append, List.append_nil, List.drop_nil, List.take_nil, Nat.reduceAdd, Nat.reduceLeDiff, Nat.zero_add, Nat.add_zero, ↓reduceIte, Bool.not_true, Bool.not_false, decide_true, decide_false, eq_self, bne_self_eq_false, List.getElem?_cons_zero, List.getElem?_cons_succ, decide_eq_true_eq, Bool.false_eq_true, Bool.true_eq_false, reduceCtorEq, Nat.le_refl, e1, m1, e2, f1, m2]
      exact ⟨_, by simp [Chart.moved, hg, hg'], o12⟩
    | true =>
      rw [hg'] at e2
      obtain ⟨i, hi, q1, _, q2, _, _⟩ := Chart.has (c := c) (Chart.good_ranges hg) g0 g1
      obtain ⟨i', hi', q1', _, q2', _, _⟩ := Chart.has (c := d) (Chart.good_ranges hg') g0 g1
      obtain ⟨_, k3, e3, m3, o3⟩ := findRange_q (Z := Z) hI11 hLi (w.on (Fl.ok _) o12) id
      have o13 := o12.trans o3
      obtain ⟨_, k4, e4, m4, o4⟩ := findRange_q (Z := Z) hI11 hLi (w'.on (Fl.ok _) o13) id
      rw [o12.fl] at m3
      rw [o13.fl] at m4
      rw [q1] at e3
      rw [q1'] at e4
      have f1 := o1.fl
      have f2 := o12.fl
      have f3 := o13.fl
      have l3 : ∀ j n, loadP k3 x.sid i j n = cut? (Range.at_ c.ranges i).enc j n := (w.on (Fl.ok _) o13).loadD Range.none_ hi
      have l4 : ∀ j n, loadP k4 x'.sid i' j n = cut? (Range.at_ d.ranges i').enc j n := (w'.on (Fl.ok _) (o13.trans o4)).loadD Range.none_ hi'
      simp only [run0, run1, run2, run3, run4, noSlot, ownS, ownK, memN, RO.dst, lk, drop, forget, number, Nat.reduceBEq, cut?, splice?, builds, List.length_cons, List.length_nil, List.drop_succ_cons, List.drop_zero, List.take_succ_cons, List.take_zero, List.cons_append, List.nil_append, List.append_nil, List.drop_nil, List.take_nil, Nat.reduceAdd, Nat.reduceLeDiff, Nat.zero_add, Nat.add_zero, ↓reduceIte, Bool.not_true, Bool.not_false, decide_true, decide_false, eq_self, bne_self_eq_false, List.getElem?_cons_zero, List.getElem?_cons_succ, decide_eq_true_eq, Bool.false_eq_true, Bool.true_eq_false, reduceCtorEq, Nat.le_refl, e1, m1, e2, f1, m2, e3, f2, m3, e4, f3, m4, l3, l4, w.idx hi, w'.idx hi', Range.enc]
      exact ⟨_, by simp [Chart.moved, hg, hg', q2, q2'], o13.trans o4⟩
end
end Go.Proofs.Ytnedbeicpfdjjaa.A
/- What the functions of a client compute: is it right, and where it asks. -/
namespace Go.Proofs.Ytnedbeicpfdjjaa.A
open Go
set_option linter.unusedSimpArgs false
set_option linter.unusedVariables false
def Client.good (c : Client) : Bool := inR c.id 1 999 && (inR c.seq 0 1000000 && (c.chart.good && (bif c.busy then inR c.ask.op 0 8 && (c.ask.epoch == 0 && (inR c.tries 1 6 && decide (0 < c.seq))) else c.tries == 0 && decide (c.ask = Request.none_))))
def Client.where_ (c : Client) (id : Int) : Int := bif c.good then (c.chart.of_ id).group else -1
theorem request_eqs (e o i a t : Int) : eqsR false [.i .i64, .i .i64, .i .u64, .i .u64, .i .i64] (some (.agg [.int .i64 e, .int .i64 o, .int .u64 i, .int .u64 a, .int .i64 t])) (some (.agg [.int .i64 0, .int .i64 0, .int .u64 0, .int .u64 0, .int .i64 0])) = some (.bool (decide ((⟨e, o, i, a, t⟩ : Request) = Request.none_))) := by
  have hc : cellsEq? [.i .i64, .i .i64, .i .u64, .i .u64, .i .i64] [.int .i64 e, .int .i64 o, .int .u64 i, .int .u64 a, .int .i64 t] [.int .i64 0, .int .i64 0, .int .u64 0, .int .u64 0, .int .i64 0] = some (decide ((⟨e, o, i, a, t⟩ : Request) = Request.none_)) := by
    simp only [cellsEq?, eqK, and_self, if_true, Option.bind_some, Request.none_]
    cases h1 : (e == 0) <;> cases h2 : (o == 0) <;> cases h3 : (i == 0) <;> cases h4 : (a == 0) <;> cases h5 : (t == 0) <;> simp_all
  simp only [eqsR, List.length_cons, List.length_nil, and_self, if_true, hc, Option.bind_some, Bool.false_xor]
section
variable {F : Nat → Option RF} {Z : CallF} {h : Heap} {cs : List Cell} {c : Client} {fp : List Nat}
set_option maxHeartbeats 4000000 in
theorem isClient_run (hI11 : Has F tI11) (hI12 : Has F tI12) (hI16 : Has F tI16) (hLi : Has F tLibslicesIndexFuncimplRangeimplRange) (v : Client.RI h cs c fp) (ok : c.chart.Ok) : ∃ h', call F Z 110 [.agg cs] h = some (.c (.bool c.good), h') ∧ On h h' := by
  obtain ⟨x, p, rfl, rfl, w⟩ := v
  obtain ⟨h1, e1, o1⟩ := isChart_run (Z := Z) hI11 hI12 hLi (⟨x, _, rfl, rfl, w⟩ : Chart.RI h _ c.chart _) ok
  have o0 := On.refl h
  rw [call_run F Z (hI16.lk (g := 110) rfl) _ _ rfl]
  simp only [run0, run1, run2, run3, run4, noSlot, ownS, ownK, memN, RO.dst, lk, drop, forget, number, Nat.reduceBEq, cut?, splice?, builds, List.length_cons, List.length_nil, List.drop_succ_cons, List.drop_zero, List.take_succ_cons, List.take_zero, List.cons_append, List.nil_append, List.append_nil, List.drop_nil, List.take_nil, Nat.reduceAdd, Nat.reduceLeDiff, Nat.zero_add, Nat.add_zero, ↓reduceIte, Bool.not_true, Bool.not_false, decide_true, decide_false, eq_self, bne_self_eq_false, List.getElem?_cons_zero, List.getElem?_cons_succ, decide_eq_true_eq, Bool.false_eq_true, Bool.true_eq_false, reduceCtorEq, Nat.le_refl]
  clear w
  generalize hcg : c.chart.good = b at e1
  have hgd : c.good = (inR c.id 1 999 && (inR c.seq 0 1000000 && (b && (bif c.busy then inR c.ask.op 0 8 && (c.ask.epoch == 0 && (inR c.tries 1 6 && decide (0 < c.seq))) else c.tries == 0 && decide (c.ask = Request.none_))))) := by rw [← hcg]; rfl
  rw [hgd]
  clear hgd
  have hq := request_eqs c.ask.epoch c.ask.op c.ask.id c.ask.amount c.ask.tx
  (repeat' ((first | (rw [gF_if]; split) | (rw [condC_if]; split) | (rw [pickR_if]; split)) <;> (rename_i hh; (try simp only [Bool.not_eq_true, decide_eq_true_eq] at hh); simp only [hh, run0, run1, run2, run3, run4, noSlot, ownS, ownK, memN, RO.dst, lk, drop, forget, number, Nat.reduceBEq, cut?, splice?, builds, List.length_cons, List.length_nil, List.drop_succ_cons, List.drop_zero, List.take_succ_cons, List.take_zero, List.cons_append, List.nil_append, List.append_nil, List.drop_nil, List.take_nil, Nat.reduceAdd, Nat.reduceLeDiff, Nat.zero_add, Nat.add_zero, ↓reduceIte, Bool.not_true, Bool.not_false, decide_true, decide_false, eq_self, bne_self_eq_false, List.getElem?_cons_zero, List.getElem?_cons_succ, decide_eq_true_eq, Bool.false_eq_true, Bool.true_eq_false, reduceCtorEq, Nat.le_refl, e1, hq])))
  all_goals clear hq e1 hcg
  all_goals first
    | (refine ⟨_, ?_, o0⟩; clear o0 o1; simp_all [inR]; done)
    | (refine ⟨_, ?_, o0⟩; clear o0 o1; simp_all [inR]; intros; omega)
    | (refine ⟨_, ?_, o1⟩; clear o0 o1; simp_all [inR]; done)
    | (refine ⟨_, ?_, o1⟩; clear o0 o1; simp_all [inR]; intros; omega)
set_option maxHeartbeats 4000000 in
theorem sClientOk_run (hS : Has F tS01d) (hS11 : Has F tS11) (hS12 : Has F tS12) (hS16 : Has F tS16) (v : Client.RI h cs c fp) (ok : c.chart.Ok) : call F Z 78 [.agg cs] h = some (.c (.bool c.good), h) := by
  obtain ⟨x, p, rfl, rfl, w⟩ := v
  have e1 := sChartOk_run (Z := Z) hS hS11 hS12 (⟨x, _, rfl, rfl, w⟩ : Chart.RI h _ c.chart _) ok
  rw [call_run F Z (hS16.lk (g := 78) rfl) _ _ rfl]
  simp only [run0, run1, run2, run3, run4, noSlot, ownS, ownK, memN, RO.dst, lk, drop, forget, number, Nat.reduceBEq, cut?, splice?, builds, List.length_cons, List.length_nil, List.drop_succ_cons, List.drop_zero, List.take_succ_cons, List.take_zero, List.cons_append, List.nil_append, List.append_nil, List.drop_nil, List.take_nil, Nat.reduceAdd, Nat.reduceLeDiff, Nat.zero_add, Nat.add_zero, ↓reduceIte, Bool.not_true, Bool.not_false, decide_true, decide_false, eq_self, bne_self_eq_false, List.getElem?_cons_zero, List.getElem?_cons_succ, decide_eq_true_eq, Bool.false_eq_true, Bool.true_eq_false, reduceCtorEq, Nat.le_refl, l01In_run hS]
  clear w
  generalize hcg : c.chart.good = b at e1
  have hgd : c.good = (inR c.id 1 999 && (inR c.seq 0 1000000 && (b && (bif c.busy then inR c.ask.op 0 8 && (c.ask.epoch == 0 && (inR c.tries 1 6 && decide (0 < c.seq))) else c.tries == 0 && decide (c.ask = Request.none_))))) := by rw [← hcg]; rfl
  rw [hgd]
  clear hgd
  have hq := request_eqs c.ask.epoch c.ask.op c.ask.id c.ask.amount c.ask.tx
  (repeat' ((first | (rw [gF_if]; split) | (rw [condC_if]; split) | (rw [pickR_if]; split)) <;> (rename_i hh; (try simp only [Bool.not_eq_true, decide_eq_true_eq] at hh); simp only [hh, run0, run1, run2, run3, run4, noSlot, ownS, ownK, memN, RO.dst, lk, drop, forget, number, Nat.reduceBEq, cut?, splice?, builds, List.length_cons, List.length_nil, List.drop_succ_cons, List.drop_zero, List.take_succ_cons, List.take_zero, List.cons_append, List.nil_append, List.append_nil, List.drop_nil, List.take_nil, Nat.reduceAdd, Nat.reduceLeDiff, Nat.zero_add, Nat.add_zero, ↓reduceIte, Bool.not_true, Bool.not_false, decide_true, decide_false, eq_self, bne_self_eq_false, List.getElem?_cons_zero, List.getElem?_cons_succ, decide_eq_true_eq, Bool.false_eq_true, Bool.true_eq_false, reduceCtorEq, Nat.le_refl, e1, hq, l01In_run hS])))
  all_goals clear hq e1 hcg
  all_goals first
    | (simp_all [inR]; done)
    | (simp_all [inR]; intros; omega)
end
end Go.Proofs.Ytnedbeicpfdjjaa.A
/- Copies of a chart, new clients and where a client asks. -/
namespace Go.Proofs.Ytnedbeicpfdjjaa.A
open Go
set_option linter.unusedSimpArgs false
set_option linter.unusedVariables false
def Chart.zero_ : Chart := ⟨0, [], false, 0, 0⟩
def Client.zero_ : Client := ⟨0, 0, Chart.zero_, false, 0, Request.none_⟩
def newClient (id : Int) (c : Chart) : Client := bif (⟨id, 0, c, false, 0, Request.none_⟩ : Client).good then ⟨id, 0, c, false, 0, Request.none_⟩ else Client.zero_
theorem newClient_small {id : Int} {c : Chart} (sm : c.Small) : (newClient id c).Small := by
  unfold newClient
  cases (⟨id, 0, c, false, 0, Request.none_⟩ : Client).good with
  | false => simp [Client.zero_, Client.Small, Chart.Small, Chart.zero_]
  | true => exact sm
section
variable {F : Nat → Option RF} {Z : CallF} {h : Heap} {cs : List Cell} {fp : List Nat}
theorem ClientOk_c {c : Client} (hI11 : Has F tI11) (hI12 : Has F tI12) (hI16 : Has F tI16) (hLi : Has F tLibslicesIndexFuncimplRangeimplRange) (hf : h.floor ≤ h.next) (v : Client.RI h cs c fp) (ok : c.Ok) : ∃ h', call F Z 79 [.agg cs] h = some (.c (.bool c.good), h') ∧ On h h' := by
  obtain ⟨h1, e1, o1⟩ := isClient_run (Z := Z) hI11 hI12 hI16 hLi v ok.chart
  obtain ⟨l1, l2, l3⟩ := Client.lenI v
  rw [call_run F Z (hI16.lk (g := 79) rfl) _ _ rfl]
  simp only [run0, run1, run2, run3, run4, noSlot, ownS, ownK, memN, RO.dst, lk, drop, forget, number, Nat.reduceBEq, cut?, splice?, builds, List.length_cons, List.length_nil, List.drop_succ_cons, List.drop_zero, List.take_succ_cons, List.take_zero, List.cons_append, List.nil_append, List.append_nil, List.drop_nil, List.take_nil, Nat.reduceAdd, Nat.reduceLeDiff, Nat.zero_add, Nat.add_zero, ↓reduceIte, Bool.not_true, Bool.not_false, decide_true, decide_false, eq_self, bne_self_eq_false, List.getElem?_cons_zero, List.getElem?_cons_succ, decide_eq_true_eq, Bool.false_eq_true, Bool.true_eq_false, reduceCtorEq, Nat.le_refl, l1, l2, l3, e1]
  exact ⟨_, rfl, o1⟩
theorem sClientOk_c {c : Client} (hS : Has F tS01d) (hS11 : Has F tS11) (hS12 : Has F tS12) (hS16 : Has F tS16) (hf : h.floor ≤ h.next) (v : Client.RI h cs c fp) (ok : c.Ok) : ∃ h', call F Z 78 [.agg cs] h = some (.c (.bool c.good), h') ∧ On h h' :=
  ⟨h, sClientOk_run hS hS11 hS12 hS16 v ok.chart, On.refl h⟩
theorem ClientWhere_c {c : Client} (hI11 : Has F tI11) (hI12 : Has F tI12) (hI16 : Has F tI16) (hLi : Has F tLibslicesIndexFuncimplRangeimplRange) (hf : h.floor ≤ h.next) (v : Client.RI h cs c fp) (id : Int) (ok : c.Ok) (g : 0 ≤ id ∧ id ≤ 18446744073709551615) :
    ∃ h', call F Z 90 [.agg cs, .c (.int .u64 id)] h = some (.c (.int .i64 (c.where_ id)), h') ∧ On h h' := by
  obtain ⟨h1, e1, o1⟩ := isClient_run (Z := Z) hI11 hI12 hI16 hLi v ok.chart
  obtain ⟨x, p, rfl, rfl, w⟩ := v
  rw [call_run F Z (hI16.lk (g := 90) rfl) _ _ rfl]
  cases hg : c.good with
  | false =>
    rw [hg] at e1
    simp only [run0, run1, run2, run3, run4, noSlot, ownS, ownK, memN, RO.dst, lk, drop, forget, number, Nat.reduceBEq, cut?, splice?, builds, List.length_cons, List.length_nil, List.drop_succ_cons, List.drop_zero, List.take_succ_cons, List.take_zero, List.cons_append, List.nil_append, List.append_nil, List.drop_nil, List.take_nil, Nat.reduceAdd, Nat.reduceLeDiff, Nat.zero_add, Nat.add_zero, ↓reduceIte, Bool.not_true, Bool.not_false, decide_true, decide_false, eq_self, bne_self_eq_false, List.getElem?_cons_zero, List.getElem?_cons_succ, decide_eq_true_eq, Bool.false_eq_true, Bool.true_eq_false, reduceCtorEq, Nat.le_refl, e1]
    exact ⟨_, by simp [Client.where_, hg], o1⟩
  | true =>
    rw [hg] at e1
    have hcg : c.chart.good = true := by simp only [Client.good, Bool.and_eq_true] at hg; exact hg.2.2.1
    obtain ⟨i, hi, q1, _, q2, _, _⟩ := Chart.has (c := c.chart) (Chart.good_ranges hcg) g.1 g.2
    have w1 := w.on (Fl.ok _) o1
    obtain ⟨hq, k, fr, hgq, on2⟩ := findRange_q (Z := Z) hI11 hLi w1 id
    rw [q1] at fr
    have hld : ∀ j n, loadP k x.sid i j n = cut? (Range.at_ c.chart.ranges i).enc j n := (w1.on (Fl.ok _) on2).loadD Range.none_ hi
    simp only [run0, run1, run2, run3, run4, noSlot, ownS, ownK, memN, RO.dst, lk, drop, forget, number, Nat.reduceBEq, cut?, splice?, builds, List.length_cons, List.length_nil, List.drop_succ_cons, List.drop_zero, List.take_succ_cons, List.take_zero, List.cons_append, List.nil_append, List.append_nil, List.drop_nil, List.take_nil, Nat.reduceAdd, Nat.reduceLeDiff, Nat.zero_add, Nat.add_zero, ↓reduceIte, Bool.not_true, Bool.not_false, decide_true, decide_false, eq_self, bne_self_eq_false, List.getElem?_cons_zero, List.getElem?_cons_succ, decide_eq_true_eq, Bool.false_eq_true, Bool.true_eq_false, reduceCtorEq, Nat.le_refl, e1, fr, hgq, hld, w.idx hi, Range.enc]
    exact ⟨_, by simp [Client.where_, hg, q2], o1.trans on2⟩
theorem sClientWhere_c {c : Client} (hS : Has F tS01d) (hS11 : Has F tS11) (hS12 : Has F tS12) (hS16 : Has F tS16) (hf : h.floor ≤ h.next) (v : Client.RI h cs c fp) (id : Int) (ok : c.Ok) (g : 0 ≤ id ∧ id ≤ 18446744073709551615) :
    ∃ h', call F Z 89 [.agg cs, .c (.int .u64 id)] h = some (.c (.int .i64 (c.where_ id)), h') ∧ On h h' := by
  have e1 := sClientOk_run (Z := Z) hS hS11 hS12 hS16 v ok.chart
  obtain ⟨x, p, rfl, rfl, w⟩ := v
  obtain ⟨h2, e2, o2⟩ := sRouteOf_run (Z := Z) hS hS11 hS12 (⟨x, _, rfl, rfl, w⟩ : Chart.RI h _ c.chart _) ok.chart g.1 g.2
  rw [call_run F Z (hS16.lk (g := 89) rfl) _ _ rfl]
  cases hg : c.good with
  | false =>
    rw [hg] at e1
    simp only [run0, run1, run2, run3, run4, noSlot, ownS, ownK, memN, RO.dst, lk, drop, forget, number, Nat.reduceBEq, cut?, splice?, builds, List.length_cons, List.length_nil, List.drop_succ_cons, List.drop_zero, List.take_succ_cons, List.take_zero, List.cons_append, List.nil_append, List.append_nil, List.drop_nil, List.take_nil, Nat.reduceAdd, Nat.reduceLeDiff, Nat.zero_add, Nat.add_zero, ↓reduceIte, Bool.not_true, Bool.not_false, decide_true, decide_false, eq_self, bne_self_eq_false, List.getElem?_cons_zero, List.getElem?_cons_succ, decide_eq_true_eq, Bool.false_eq_true, Bool.true_eq_false, reduceCtorEq, Nat.le_refl, e1]
    exact ⟨_, by simp [Client.where_, hg], On.refl h⟩
  | true =>
    rw [hg] at e1
    have hcg : c.chart.good = true := by simp only [Client.good, Bool.and_eq_true] at hg; exact hg.2.2.1
    simp only [run0, run1, run2, run3, run4, noSlot, ownS, ownK, memN, RO.dst, lk, drop, forget, number, Nat.reduceBEq, cut?, splice?, builds, List.length_cons, List.length_nil, List.drop_succ_cons, List.drop_zero, List.take_succ_cons, List.take_zero, List.cons_append, List.nil_append, List.append_nil, List.drop_nil, List.take_nil, Nat.reduceAdd, Nat.reduceLeDiff, Nat.zero_add, Nat.add_zero, ↓reduceIte, Bool.not_true, Bool.not_false, decide_true, decide_false, eq_self, bne_self_eq_false, List.getElem?_cons_zero, List.getElem?_cons_succ, decide_eq_true_eq, Bool.false_eq_true, Bool.true_eq_false, reduceCtorEq, Nat.le_refl, e1, e2]
    exact ⟨_, by simp [Client.where_, hg, Chart.route, hcg], o2⟩
variable {c : Chart}
theorem copyChart_c (hI12 : Has F tI12) (hf : h.floor ≤ h.next) (v : Chart.RI h cs c fp) (sm : c.ranges.length ≤ 1048576) : ∃ cs' h' fq, call F Z 116 [.agg cs] h = some (.agg cs', h') ∧ On h h' ∧ Chart.RI h' cs' c fq ∧ Fre h fq := by
  obtain ⟨x, p, rfl, rfl, w⟩ := v
  have a0 := Acc.lit0 (tag := 7) (On.refl h)
  have w' := w.on (Fl.ok _) (On.push h [])
  have ce := a0.cat_eq (bytes := 24) (y := x) (new := c.ranges.map Range.enc) hf w'.isTag w'.rows (by simp; omega)
  have ac := a0.cat (new := c.ranges.map Range.enc) hf (by simp; omega)
  simp only [List.nil_append] at ac
  obtain ⟨o, fq, u, f⟩ := ac.flat
  rw [call_run F Z (hI12.lk (g := 116) rfl) _ _ rfl]
  simp only [run0, run1, run2, run3, run4, noSlot, ownS, ownK, memN, RO.dst, lk, drop, forget, number, Nat.reduceBEq, cut?, splice?, builds, List.length_cons, List.length_nil, List.drop_succ_cons, List.drop_zero, List.take_succ_cons, List.take_zero, List.cons_append, List.nil_append, List.append_nil, List.drop_nil, List.take_nil, Nat.reduceAdd, Nat.reduceLeDiff, Nat.zero_add, Nat.add_zero, ↓reduceIte, Bool.not_true, Bool.not_false, decide_true, decide_false, eq_self, bne_self_eq_false, List.getElem?_cons_zero, List.getElem?_cons_succ, decide_eq_true_eq, Bool.false_eq_true, Bool.true_eq_false, reduceCtorEq, Nat.le_refl, List.replicate_zero, fills, ce]
  exact ⟨_, _, _, rfl, o, ⟨_, _, rfl, rfl, u⟩, f⟩
theorem l12Copy_c (hS12 : Has F tS12) (hf : h.floor ≤ h.next) (v : Chart.RI h cs c fp) (sm : c.ranges.length ≤ 1048576) : ∃ cs' h' fq, call F Z 115 [.agg cs] h = some (.agg cs', h') ∧ On h h' ∧ Chart.RI h' cs' c fq ∧ Fre h fq := by
  obtain ⟨x, p, rfl, rfl, w⟩ := v
  rw [call_run F Z (hS12.lk (g := 115) rfl) _ _ rfl]
  simp only [run0, run1, run2, run3, run4, noSlot, ownS, ownK, memN, RO.dst, lk, drop, forget, number, Nat.reduceBEq, cut?, splice?, builds, List.length_cons, List.length_nil, List.drop_succ_cons, List.drop_zero, List.take_succ_cons, List.take_zero, List.cons_append, List.nil_append, List.append_nil, List.drop_nil, List.take_nil, Nat.reduceAdd, Nat.reduceLeDiff, Nat.zero_add, Nat.add_zero, ↓reduceIte, Bool.not_true, Bool.not_false, decide_true, decide_false, eq_self, bne_self_eq_false, List.getElem?_cons_zero, List.getElem?_cons_succ, decide_eq_true_eq, Bool.false_eq_true, Bool.true_eq_false, reduceCtorEq, Nat.le_refl]
  obtain ⟨y1, h1, a1, l1⟩ := loop_acc (F := F) (Z := Z) (live := [1, 2, 3, 4]) (b := r115L0) c.ranges (fun r => [r.enc]) 7 h (fun i y g => ⟨[(4, .c (.int .i64 (i : Nat)))], [(1, 1, 0), (2, 2, 0), (3, 3, 0)], [(1, [.int .i64 c.epoch, x, .bool c.moving, .int .u64 c.lo, .int .i64 c.to]), (2, [.int .i64 0, .nil, .bool false, .int .u64 0, .int .i64 0]), (3, [.int .i64 c.epoch, y, .bool c.moving, .int .u64 c.lo, .int .i64 c.to])], g⟩) (fun r => by simp) (fun i hi y g rows a hr => by
    have e1 := a.one_eq hf (bytes := 24) (by omega)
    have a1 := a.one hf (by omega)
    have hlt : (i : Int) < c.ranges.length := by omega
    have wg := w.on (Fl.ok _) a.on
    rw [loop_run]
    conv in (codeF _ _ r115L0 _) => unfold r115L0
    simp only [run0, run1, run2, run3, run4, noSlot, ownS, ownK, memN, RO.dst, lk, drop, forget, number, Nat.reduceBEq, cut?, splice?, builds, List.length_cons, List.length_nil, List.drop_succ_cons, List.drop_zero, List.take_succ_cons, List.take_zero, List.cons_append, List.nil_append, List.append_nil, List.drop_nil, List.take_nil, Nat.reduceAdd, Nat.reduceLeDiff, Nat.zero_add, Nat.add_zero, ↓reduceIte, Bool.not_true, Bool.not_false, decide_true, decide_false, eq_self, bne_self_eq_false, List.getElem?_cons_zero, List.getElem?_cons_succ, decide_eq_true_eq, Bool.false_eq_true, Bool.true_eq_false, reduceCtorEq, Nat.le_refl, w.len, hlt, w.idx hi, wg.load hi, Range.len, Range.tak, wrapS i (by omega), List.replicate_succ, List.replicate_zero, fills, and_self, Nat.zero_lt_one, List.set_cons_zero, e1]
    exact ⟨_, _, a1 _, rfl⟩) (Acc.nil 7 h)
  simp only [show ((0 : Nat) : Int) = 0 from rfl] at l1
  have hlt : ¬ (c.ranges.length : Int) < c.ranges.length := by omega
  rw [l1, loop_run]
  conv in (codeF _ _ r115L0 _) => unfold r115L0
  simp only [run0, run1, run2, run3, run4, noSlot, ownS, ownK, memN, RO.dst, lk, drop, forget, number, Nat.reduceBEq, cut?, splice?, builds, List.length_cons, List.length_nil, List.drop_succ_cons, List.drop_zero, List.take_succ_cons, List.take_zero, List.cons_append, List.nil_append, List.append_nil, List.drop_nil, List.take_nil, Nat.reduceAdd, Nat.reduceLeDiff, Nat.zero_add, Nat.add_zero, ↓reduceIte, Bool.not_true, Bool.not_false, decide_true, decide_false, eq_self, bne_self_eq_false, List.getElem?_cons_zero, List.getElem?_cons_succ, decide_eq_true_eq, Bool.false_eq_true, Bool.true_eq_false, reduceCtorEq, Nat.le_refl, w.len, hlt]
  have hm : c.ranges.flatMap (fun r => [r.enc]) = c.ranges.map Range.enc := by
    induction c.ranges with
    | nil => rfl
    | cons a r ih => rw [List.flatMap_cons, ih]; rfl
  rw [hm] at a1
  obtain ⟨o, fq, u, f⟩ := a1.flat
  exact ⟨_, _, _, rfl, o, ⟨_, _, rfl, rfl, u⟩, f⟩
theorem Client.zero_R (h : Heap) : Client.RI h [.int .i64 0, .int .i64 0, .int .i64 0, .nil, .bool false, .int .u64 0, .int .i64 0, .bool false, .int .i64 0, .int .i64 0, .int .i64 0, .int .u64 0, .int .u64 0, .int .i64 0] Client.zero_ [] := ⟨.nil, [], rfl, rfl, SlR.nil _ _ _⟩
theorem NewClient_c (hI11 : Has F tI11) (hI12 : Has F tI12) (hI16 : Has F tI16) (hLi : Has F tLibslicesIndexFuncimplRangeimplRange) (hf : h.floor ≤ h.next) (id : Int) (v : Chart.RI h cs c fp) (ok : c.Ok) (sm : c.ranges.length ≤ 1048576) :
    ∃ cs' h' fq, call F Z 93 [.c (.int .i64 id), .agg cs] h = some (.agg cs', h') ∧ On h h' ∧ Client.RI h' cs' (newClient id c) fq ∧ Fre h fq := by
  obtain ⟨l1, l2, l3⟩ := Chart.lenI v
  obtain ⟨_, h1, _, e1, o1, ⟨y, q, rfl, rfl, u⟩, f⟩ := copyChart_c (Z := Z) hI12 hf v sm
  obtain ⟨h2, e2, o2⟩ := isClient_run (Z := Z) (c := ⟨id, 0, c, false, 0, Request.none_⟩) hI11 hI12 hI16 hLi ⟨y, _, rfl, rfl, u⟩ ok
  rw [call_run F Z (hI16.lk (g := 93) rfl) _ _ rfl]
  simp only [Request.none_] at e2
  cases hg : (⟨id, 0, c, false, 0, Request.none_⟩ : Client).good with
  | false =>
    simp only [Request.none_] at hg
    rw [hg] at e2
    simp only [run0, run1, run2, run3, run4, noSlot, ownS, ownK, memN, RO.dst, lk, drop, forget, number, Nat.reduceBEq, cut?, splice?, builds, List.length_cons, List.length_nil, List.drop_succ_cons, List.drop_zero, List.take_succ_cons, List.take_zero, List.cons_append, List.nil_append, List.append_nil, List.drop_nil, List.take_nil, Nat.reduceAdd, Nat.reduceLeDiff, Nat.zero_add, Nat.add_zero, ↓reduceIte, Bool.not_true, Bool.not_false, decide_true, decide_false, eq_self, bne_self_eq_false, List.getElem?_cons_zero, List.getElem?_cons_succ, decide_eq_true_eq, Bool.false_eq_true, Bool.true_eq_false, reduceCtorEq, Nat.le_refl, l1, l2, l3, e1, e2]
    exact ⟨_, _, _, rfl, o1.trans o2, by simp only [newClient, Request.none_, hg, cond_false]; exact Client.zero_R _, Fre.nil h⟩
  | true =>
    simp only [Request.none_] at hg
    rw [hg] at e2
    simp only [run0, run1, run2, run3, run4, noSlot, ownS, ownK, memN, RO.dst, lk, drop, forget, number, Nat.reduceBEq, cut?, splice?, builds, List.length_cons, List.length_nil, List.drop_succ_cons, List.drop_zero, List.take_succ_cons, List.take_zero, List.cons_append, List.nil_append, List.append_nil, List.drop_nil, List.take_nil, Nat.reduceAdd, Nat.reduceLeDiff, Nat.zero_add, Nat.add_zero, ↓reduceIte, Bool.not_true, Bool.not_false, decide_true, decide_false, eq_self, bne_self_eq_false, List.getElem?_cons_zero, List.getElem?_cons_succ, decide_eq_true_eq, Bool.false_eq_true, Bool.true_eq_false, reduceCtorEq, Nat.le_refl, l1, l2, l3, e1, e2]
    exact ⟨_, _, _, rfl, o1.trans o2, by simp only [newClient, Request.none_, hg, cond_true]; exact ⟨y, _, rfl, rfl, u.on (Fl.ok _) o2⟩, f⟩
theorem sNewClient_c (hS : Has F tS01d) (hS11 : Has F tS11) (hS12 : Has F tS12) (hS16 : Has F tS16) (hf : h.floor ≤ h.next) (id : Int) (v : Chart.RI h cs c fp) (ok : c.Ok) (sm : c.ranges.length ≤ 1048576) :
    ∃ cs' h' fq, call F Z 92 [.c (.int .i64 id), .agg cs] h = some (.agg cs', h') ∧ On h h' ∧ Client.RI h' cs' (newClient id c) fq ∧ Fre h fq := by
  obtain ⟨l1, l2, l3⟩ := Chart.lenI v
  obtain ⟨_, h1, _, e1, o1, ⟨y, q, rfl, rfl, u⟩, f⟩ := l12Copy_c (Z := Z) hS12 hf v sm
  have e2 := sClientOk_run (Z := Z) (c := ⟨id, 0, c, false, 0, Request.none_⟩) hS hS11 hS12 hS16 ⟨y, _, rfl, rfl, u⟩ ok
  rw [call_run F Z (hS16.lk (g := 92) rfl) _ _ rfl]
  simp only [Request.none_] at e2
  cases hg : (⟨id, 0, c, false, 0, Request.none_⟩ : Client).good with
  | false =>
    simp only [Request.none_] at hg
    rw [hg] at e2
    simp only [run0, run1, run2, run3, run4, noSlot, ownS, ownK, memN, RO.dst, lk, drop, forget, number, Nat.reduceBEq, cut?, splice?, builds, List.length_cons, List.length_nil, List.drop_succ_cons, List.drop_zero, List.take_succ_cons, List.take_zero, List.cons_append, List.nil_append, List.append_nil, List.drop_nil, List.take_nil, Nat.reduceAdd, Nat.reduceLeDiff, Nat.zero_add, Nat.add_zero, ↓reduceIte, Bool.not_true, Bool.not_false, decide_true, decide_false, eq_self, bne_self_eq_false, List.getElem?_cons_zero, List.getElem?_cons_succ, decide_eq_true_eq, Bool.false_eq_true, Bool.true_eq_false, reduceCtorEq, Nat.le_refl, l1, l2, l3, e1, e2]
    exact ⟨_, _, _, rfl, o1, by simp only [newClient, Request.none_, hg, cond_false]; exact Client.zero_R _, Fre.nil h⟩
  | true =>
    simp only [Request.none_] at hg
    rw [hg] at e2
    simp only [run0, run1, run2, run3, run4, noSlot, ownS, ownK, memN, RO.dst, lk, drop, forget, number, Nat.reduceBEq, cut?, splice?, builds, List.length_cons, List.length_nil, List.drop_succ_cons, List.drop_zero, List.take_succ_cons, List.take_zero, List.cons_append, List.nil_append, List.append_nil, List.drop_nil, List.take_nil, Nat.reduceAdd, Nat.reduceLeDiff, Nat.zero_add, Nat.add_zero, ↓reduceIte, Bool.not_true, Bool.not_false, decide_true, decide_false, eq_self, bne_self_eq_false, List.getElem?_cons_zero, List.getElem?_cons_succ, decide_eq_true_eq, Bool.false_eq_true, Bool.true_eq_false, reduceCtorEq, Nat.le_refl, l1, l2, l3, e1, e2]
    exact ⟨_, _, _, rfl, o1, by simp only [newClient, Request.none_, hg, cond_true]; exact ⟨y, _, rfl, rfl, u⟩, f⟩
end
end Go.Proofs.Ytnedbeicpfdjjaa.A
/- The data of a ClientMsg, and its cells. -/
namespace Go.Proofs.Ytnedbeicpfdjjaa.A
open Go
set_option linter.unusedSimpArgs false
set_option linter.unusedVariables false
structure ClientMsg where
  client : Int
  seq : Int
  group : Int
  epoch : Int
  op : Int
  id : Int
  amount : Int
  tx : Int
  deriving DecidableEq
namespace ClientMsg
def enc (t : ClientMsg) : List Cell := [.int .i64 t.client, .int .i64 t.seq, .int .i64 t.group, .int .i64 t.epoch, .int .i64 t.op, .int .u64 t.id, .int .u64 t.amount, .int .i64 t.tx]
theorem len (t : ClientMsg) : t.enc.length = 8 := rfl
theorem tak (t : ClientMsg) : t.enc.take 8 = t.enc := rfl
def none_ : ClientMsg := ⟨0, 0, 0, 0, 0, 0, 0, 0⟩
/-- The numbers are those of the machine. -/
structure Ok (t : ClientMsg) : Prop where
  client : -9223372036854775808 ≤ t.client ∧ t.client ≤ 9223372036854775807
  seq : -9223372036854775808 ≤ t.seq ∧ t.seq ≤ 9223372036854775807
  group : -9223372036854775808 ≤ t.group ∧ t.group ≤ 9223372036854775807
  epoch : -9223372036854775808 ≤ t.epoch ∧ t.epoch ≤ 9223372036854775807
  op : -9223372036854775808 ≤ t.op ∧ t.op ≤ 9223372036854775807
  id : 0 ≤ t.id ∧ t.id ≤ 18446744073709551615
  amount : 0 ≤ t.amount ∧ t.amount ≤ 18446744073709551615
  tx : -9223372036854775808 ≤ t.tx ∧ t.tx ≤ 9223372036854775807
end ClientMsg
end Go.Proofs.Ytnedbeicpfdjjaa.A
/- The compact code of some functions: laws.eqClientMsg. -/
namespace Go.Proofs.Ytnedbeicpfdjjaa.A
open Go
/-- laws.eqClientMsg -/
def r152 : RF :=
 ⟨2, [.tmp 4],
 .seq (.reg [⟨none, .locb 2 (.t 0)⟩,
  ⟨none, .locb 3 (.t 1)⟩,
  ⟨none, .mov 4 (.k (.bool false))⟩])
 (.seq (.seq (.reg [⟨none, .fad 5 2 0⟩,
   ⟨none, .load 6 5 1 false⟩,
   ⟨none, .fad 7 3 0⟩,
   ⟨none, .load 8 7 1 false⟩,
   ⟨none, .bin 9 .neq (.t 6) (.t 8)⟩])
  (.cond (.t 9)
  (.seq (.reg [⟨none, .mov 4 (.k (.bool false))⟩])
   (.ret))
  (.skip)))
 (.seq (.seq (.reg [⟨none, .fad 10 2 1⟩,
   ⟨none, .load 11 10 1 false⟩,
   ⟨none, .fad 12 3 1⟩,
   ⟨none, .load 13 12 1 false⟩,
   ⟨none, .bin 14 .neq (.t 11) (.t 13)⟩])
  (.cond (.t 14)
  (.seq (.reg [⟨none, .mov 4 (.k (.bool false))⟩])
   (.ret))
  (.skip)))
 (.seq (.seq (.reg [⟨none, .fad 15 2 2⟩,
   ⟨none, .load 16 15 1 false⟩,
   ⟨none, .fad 17 3 2⟩,
   ⟨none, .load 18 17 1 false⟩,
   ⟨none, .bin 19 .neq (.t 16) (.t 18)⟩])
  (.cond (.t 19)
  (.seq (.reg [⟨none, .mov 4 (.k (.bool false))⟩])
   (.ret))
  (.skip)))
 (.seq (.seq (.reg [⟨none, .fad 20 2 3⟩,
   ⟨none, .load 21 20 5 true⟩,
   ⟨none, .fad 22 3 3⟩,
   ⟨none, .load 23 22 5 true⟩,
   ⟨none, .call (some 24) 99 [(.t 21), (.t 23)] false⟩,
   ⟨none, .not 25 (.t 24)⟩])
  (.cond (.t 25)
  (.seq (.reg [⟨none, .mov 4 (.k (.bool false))⟩])
   (.ret))
  (.skip)))
 (.seq (.reg [⟨none, .mov 4 (.k (.bool true))⟩])
 (.ret))))))⟩
/-- The functions of this text, with their numbers. -/
def tLClientMsg : List (Nat × RF) := [(152, r152)]
end Go.Proofs.Ytnedbeicpfdjjaa.A
/- What the converters of ClientMsg compute. -/
namespace Go.Proofs.Ytnedbeicpfdjjaa.A
open Go
set_option linter.unusedSimpArgs false
set_option linter.unusedVariables false
section
variable {F : Nat → Option RF} {Z : CallF} {h : Heap} {x y : Cell} {xs ys : List ClientMsg} {fp fq : List Nat}
def ClientMsg.zero : List Cell := [.int .i64 0, .int .i64 0, .int .i64 0, .int .i64 0, .int .i64 0, .int .u64 0, .int .u64 0, .int .i64 0]
set_option maxHeartbeats 1000000 in
theorem eqClientMsg_run (hL : Has F tLClientMsg) (hLRequest : Has F tLRequest) (p q : ClientMsg) (h : Heap) : call F Z 152 [.agg p.enc, .agg q.enc] h = some (.c (.bool (decide (p = q))), h) := by
  rw [call_run F Z (hL.lk (g := 152) rfl) _ _ rfl]
  obtain ⟨client1, seq1, group1, epoch1, op1, id1, amount1, tx1⟩ := p
  obtain ⟨client2, seq2, group2, epoch2, op2, id2, amount2, tx2⟩ := q
  simp only [ClientMsg.enc, run0, run1, run2, run3, run4, noSlot, ownS, ownK, memN, RO.dst, lk, drop, forget, number, Nat.reduceBEq, cut?, splice?, builds, List.length_cons, List.length_nil, List.drop_succ_cons, List.drop_zero, List.take_succ_cons, List.take_zero, List.cons_append, List.nil_append, List.append_nil, List.drop_nil, List.take_nil, Nat.reduceAdd, Nat.reduceLeDiff, Nat.zero_add, Nat.add_zero, ↓reduceIte, Bool.not_true, Bool.not_false, decide_true, decide_false, eq_self, bne_self_eq_false, List.getElem?_cons_zero, List.getElem?_cons_succ, decide_eq_true_eq, Bool.false_eq_true, Bool.true_eq_false, reduceCtorEq, Nat.le_refl, eqRequest_lit hLRequest]
  (repeat' ((first | (rw [gF_if]; split) | (rw [condC_if]; split) | (rw [pickR_if]; split)) <;> (rename_i hh; (try simp only [Bool.not_eq_true, decide_eq_true_eq] at hh); simp only [hh, run0, run1, run2, run3, run4, noSlot, ownS, ownK, memN, RO.dst, lk, drop, forget, number, Nat.reduceBEq, cut?, splice?, builds, List.length_cons, List.length_nil, List.drop_succ_cons, List.drop_zero, List.take_succ_cons, List.take_zero, List.cons_append, List.nil_append, List.append_nil, List.drop_nil, List.take_nil, Nat.reduceAdd, Nat.reduceLeDiff, Nat.zero_add, Nat.add_zero, ↓reduceIte, Bool.not_true, Bool.not_false, decide_true, decide_false, eq_self, bne_self_eq_false, List.getElem?_cons_zero, List.getElem?_cons_succ, decide_eq_true_eq, Bool.false_eq_true, Bool.true_eq_false, reduceCtorEq, Nat.le_refl, eqRequest_lit hLRequest]))) <;> refine fin_bool ?_ <;> simp_all <;> (try (intros; omega))
theorem eqClientMsg_lit (hL : Has F tLClientMsg) (hLRequest : Has F tLRequest) (client1 seq1 group1 epoch1 op1 id1 amount1 tx1 client2 seq2 group2 epoch2 op2 id2 amount2 tx2 : Int) (h : Heap) : call F Z 152 [.agg [.int .i64 client1, .int .i64 seq1, .int .i64 group1, .int .i64 epoch1, .int .i64 op1, .int .u64 id1, .int .u64 amount1, .int .i64 tx1], .agg [.int .i64 client2, .int .i64 seq2, .int .i64 group2, .int .i64 epoch2, .int .i64 op2, .int .u64 id2, .int .u64 amount2, .int .i64 tx2]] h = some (.c (.bool (decide ((⟨client1, seq1, group1, epoch1, op1, id1, amount1, tx1⟩ : ClientMsg) = ⟨client2, seq2, group2, epoch2, op2, id2, amount2, tx2⟩))), h) := eqClientMsg_run hL hLRequest ⟨client1, seq1, group1, epoch1, op1, id1, amount1, tx1⟩ ⟨client2, seq2, group2, epoch2, op2, id2, amount2, tx2⟩ h
end
end Go.Proofs.Ytnedbeicpfdjjaa.A
/- Clients that ask, ask again, and stop. -/
namespace Go.Proofs.Ytnedbeicpfdjjaa.A
open Go
set_option linter.unusedSimpArgs false
set_option linter.unusedVariables false
theorem On.put {h g : Heap} (o : On h g) {k : Nat} (hk : h.next ≤ k) (rows : List (List Cell)) : On h (g.put k rows) := ⟨⟨o.ext.1, fun id hid => by
  simp only [Heap.put]
  rw [if_neg (by omega)]
  exact o.ext.2 id hid⟩, o.fl⟩
theorem loadP_put1 (h : Heap) (k : Nat) (r : List Cell) (j n : Nat) : loadP (h.put k [r]) k 0 j n = cut? r j n := by simp [loadP, rowOf, Heap.put]
theorem loadP_get1 {h : Heap} {k : Nat} {r : List Cell} (hg : h.get k = some [r]) (j n : Nat) : loadP h k 0 j n = cut? r j n := by simp [loadP, rowOf, hg]
def Client.stop (c : Client) : Client := { c with busy := false, tries := 0, ask := Request.none_ }
def clientStop (c : Client) : Client × Bool := bif c.good && c.busy then (c.stop, true) else (c, false)
def Client.msg (c : Client) : ClientMsg := ⟨c.id, c.seq, (c.chart.of_ c.ask.id).group, c.chart.epoch, c.ask.op, c.ask.id, c.ask.amount, c.ask.tx⟩
def clientAgain (c : Client) : Client × ClientMsg × Bool := bif c.good && (c.busy && c.tries != 6) then ({ c with tries := c.tries + 1 }, c.msg, true) else (c, ClientMsg.none_, false)
def Client.asks (c : Client) (q : Request) : Client := { c with busy := true, ask := ⟨0, q.op, q.id, q.amount, q.tx⟩, seq := c.seq + 1, tries := 1 }
def clientAsk (c : Client) (q : Request) : Client × ClientMsg × Bool := bif c.good && (!c.busy && (inR q.op 0 8 && c.seq != 1000000)) then (c.asks q, (c.asks q).msg, true) else (c, ClientMsg.none_, false)
theorem Client.good_chart {c : Client} (h : c.good = true) : c.chart.good = true := by simp only [Client.good, Bool.and_eq_true] at h; exact h.2.2.1
theorem clientStop_small {c : Client} (sm : c.Small) : (clientStop c).1.Small := by
  unfold clientStop
  cases (c.good && c.busy) <;> exact sm
section
variable {F : Nat → Option RF} {Z : CallF} {h : Heap} {cs : List Cell} {c : Client} {fp : List Nat}
theorem copyClient_c (hI12 : Has F tI12) (hI16 : Has F tI16) (hf : h.floor ≤ h.next) (v : Client.RI h cs c fp) (sm : c.Small) : ∃ cs' h' fq, call F Z 199 [.agg cs] h = some (.agg cs', h') ∧ On h h' ∧ Client.RI h' cs' c fq ∧ Fre h fq := by
  obtain ⟨x, p, rfl, rfl, w⟩ := v
  obtain ⟨_, h1, _, e1, o1, ⟨y, q, rfl, rfl, u⟩, f⟩ := copyChart_c (Z := Z) hI12 hf (⟨x, _, rfl, rfl, w⟩ : Chart.RI h _ c.chart _) sm
  rw [call_run F Z (hI16.lk (g := 199) rfl) _ _ rfl]
  simp only [run0, run1, run2, run3, run4, noSlot, ownS, ownK, memN, RO.dst, lk, drop, forget, number, Nat.reduceBEq, cut?, splice?, builds, List.length_cons, List.length_nil, List.drop_succ_cons, List.drop_zero, List.take_succ_cons, List.take_zero, List.cons_append, List.nil_append, List.append_nil, List.drop_nil, List.take_nil, Nat.reduceAdd, Nat.reduceLeDiff, Nat.zero_add, Nat.add_zero, ↓reduceIte, Bool.not_true, Bool.not_false, decide_true, decide_false, eq_self, bne_self_eq_false, List.getElem?_cons_zero, List.getElem?_cons_succ, decide_eq_true_eq, Bool.false_eq_true, Bool.true_eq_false, reduceCtorEq, Nat.le_refl, e1]
  exact ⟨_, _, _, rfl, o1, ⟨y, _, rfl, rfl, u⟩, f⟩
theorem l16Copy_c (hS12 : Has F tS12) (hS16 : Has F tS16) (hf : h.floor ≤ h.next) (v : Client.RI h cs c fp) (sm : c.Small) : ∃ cs' h' fq, call F Z 197 [.agg cs] h = some (.agg cs', h') ∧ On h h' ∧ Client.RI h' cs' c fq ∧ Fre h fq := by
  obtain ⟨x, p, rfl, rfl, w⟩ := v
  obtain ⟨_, h1, _, e1, o1, ⟨y, q, rfl, rfl, u⟩, f⟩ := l12Copy_c (Z := Z) hS12 hf (⟨x, _, rfl, rfl, w⟩ : Chart.RI h _ c.chart _) sm
  rw [call_run F Z (hS16.lk (g := 197) rfl) _ _ rfl]
  simp only [run0, run1, run2, run3, run4, noSlot, ownS, ownK, memN, RO.dst, lk, drop, forget, number, Nat.reduceBEq, cut?, splice?, builds, List.length_cons, List.length_nil, List.drop_succ_cons, List.drop_zero, List.take_succ_cons, List.take_zero, List.cons_append, List.nil_append, List.append_nil, List.drop_nil, List.take_nil, Nat.reduceAdd, Nat.reduceLeDiff, Nat.zero_add, Nat.add_zero, ↓reduceIte, Bool.not_true, Bool.not_false, decide_true, decide_false, eq_self, bne_self_eq_false, List.getElem?_cons_zero, List.getElem?_cons_succ, decide_eq_true_eq, Bool.false_eq_true, Bool.true_eq_false, reduceCtorEq, Nat.le_refl, e1]
  exact ⟨_, _, _, rfl, o1, ⟨y, _, rfl, rfl, u⟩, f⟩
theorem message_run (hI11 : Has F tI11) (hI16 : Has F tI16) (hLi : Has F tLibslicesIndexFuncimplRangeimplRange) (v : Client.RI h cs c fp) (hg : c.chart.good = true) (g : 0 ≤ c.ask.id ∧ c.ask.id ≤ 18446744073709551615) :
    ∃ h', call F Z 202 [.agg cs] h = some (.agg c.msg.enc, h') ∧ On h h' := by
  obtain ⟨x, p, rfl, rfl, w⟩ := v
  obtain ⟨i, hi, q1, _, q2, _, _⟩ := Chart.has (c := c.chart) (Chart.good_ranges hg) g.1 g.2
  obtain ⟨hq, k, fr, hgq, on2⟩ := findRange_q (Z := Z) hI11 hLi w c.ask.id
  rw [q1] at fr
  have hld : ∀ j n, loadP k x.sid i j n = cut? (Range.at_ c.chart.ranges i).enc j n := (w.on (Fl.ok _) on2).loadD Range.none_ hi
  rw [call_run F Z (hI16.lk (g := 202) rfl) _ _ rfl]
  simp only [run0, run1, run2, run3, run4, noSlot, ownS, ownK, memN, RO.dst, lk, drop, forget, number, Nat.reduceBEq, cut?, splice?, builds, List.length_cons, List.length_nil, List.drop_succ_cons, List.drop_zero, List.take_succ_cons, List.take_zero, List.cons_append, List.nil_append, List.append_nil, List.drop_nil, List.take_nil, Nat.reduceAdd, Nat.reduceLeDiff, Nat.zero_add, Nat.add_zero, ↓reduceIte, Bool.not_true, Bool.not_false, decide_true, decide_false, eq_self, bne_self_eq_false, List.getElem?_cons_zero, List.getElem?_cons_succ, decide_eq_true_eq, Bool.false_eq_true, Bool.true_eq_false, reduceCtorEq, Nat.le_refl, fr, hgq, hld, w.idx hi, Range.enc]
  exact ⟨_, by simp only [Client.msg, ClientMsg.enc, q2], on2⟩
theorem l16Msg_run (hS : Has F tS01d) (hS11 : Has F tS11) (hS12 : Has F tS12) (hS16 : Has F tS16) (v : Client.RI h cs c fp) (ok : c.chart.Ok) (hg : c.chart.good = true) (g : 0 ≤ c.ask.id ∧ c.ask.id ≤ 18446744073709551615) :
    ∃ h', call F Z 201 [.agg cs] h = some (.agg c.msg.enc, h') ∧ On h h' := by
  obtain ⟨x, p, rfl, rfl, w⟩ := v
  obtain ⟨h1, e1, o1⟩ := sRouteOf_run (Z := Z) hS hS11 hS12 (⟨x, _, rfl, rfl, w⟩ : Chart.RI h _ c.chart _) ok g.1 g.2
  rw [call_run F Z (hS16.lk (g := 201) rfl) _ _ rfl]
  simp only [run0, run1, run2, run3, run4, noSlot, ownS, ownK, memN, RO.dst, lk, drop, forget, number, Nat.reduceBEq, cut?, splice?, builds, List.length_cons, List.length_nil, List.drop_succ_cons, List.drop_zero, List.take_succ_cons, List.take_zero, List.cons_append, List.nil_append, List.append_nil, List.drop_nil, List.take_nil, Nat.reduceAdd, Nat.reduceLeDiff, Nat.zero_add, Nat.add_zero, ↓reduceIte, Bool.not_true, Bool.not_false, decide_true, decide_false, eq_self, bne_self_eq_false, List.getElem?_cons_zero, List.getElem?_cons_succ, decide_eq_true_eq, Bool.false_eq_true, Bool.true_eq_false, reduceCtorEq, Nat.le_refl, e1]
  exact ⟨_, by simp only [Client.msg, ClientMsg.enc, Chart.route, hg, cond_true], o1⟩
theorem stop_run (hI16 : Has F tI16) {o : Nat} (hf : h.floor ≤ o) {y : Cell} (hg : h.get o = some [[.int .i64 c.id, .int .i64 c.seq, .int .i64 c.chart.epoch, y, .bool c.chart.moving, .int .u64 c.chart.lo, .int .i64 c.chart.to, .bool c.busy, .int .i64 c.tries, .int .i64 c.ask.epoch, .int .i64 c.ask.op, .int .u64 c.ask.id, .int .u64 c.ask.amount, .int .i64 c.ask.tx]]) :
    call F Z 200 [.c (.ptr o 0 0)] h = some (.tup [], h.put o [[.int .i64 c.id, .int .i64 c.seq, .int .i64 c.chart.epoch, y, .bool c.chart.moving, .int .u64 c.chart.lo, .int .i64 c.chart.to, .bool false, .int .i64 0, .int .i64 0, .int .i64 0, .int .u64 0, .int .u64 0, .int .i64 0]]) := by
  have hput := fun old new j => storeP_put (h := h) (rows := [[]]) hf (i := 0) (by decide) old new j
  simp only [List.set_cons_zero] at hput
  have e0 := put_same hg
  rw [call_run F Z (hI16.lk (g := 200) rfl) _ _ rfl]
  rw [← e0]
  simp only [run0, run1, run2, run3, run4, noSlot, ownS, ownK, memN, RO.dst, lk, drop, forget, number, Nat.reduceBEq, cut?, splice?, builds, List.length_cons, List.length_nil, List.drop_succ_cons, List.drop_zero, List.take_succ_cons, List.take_zero, List.cons_append, List.nil_append, List.append_nil, List.drop_nil, List.take_nil, Nat.reduceAdd, Nat.reduceLeDiff, Nat.zero_add, Nat.add_zero, ↓reduceIte, Bool.not_true, Bool.not_false, decide_true, decide_false, eq_self, bne_self_eq_false, List.getElem?_cons_zero, List.getElem?_cons_succ, decide_eq_true_eq, Bool.false_eq_true, Bool.true_eq_false, reduceCtorEq, Nat.le_refl, hput, putM, List.set_cons_zero]
  simp only [put_put]
theorem ClientStop_c (hI11 : Has F tI11) (hI12 : Has F tI12) (hI16 : Has F tI16) (hLi : Has F tLibslicesIndexFuncimplRangeimplRange) (hf : h.floor ≤ h.next) (v : Client.RI h cs c fp) (ok : c.Ok) (sm : c.Small) :
    ∃ cs' h' fq, call F Z 148 [.agg cs] h = some (.tup [.agg cs', .c (.bool (clientStop c).2)], h') ∧ On h h' ∧ Client.RI h' cs' (clientStop c).1 fq ∧ Fre h fq := by
  obtain ⟨_, h1, _, e1, o1, ⟨y, q, rfl, rfl, u⟩, f⟩ := copyClient_c (Z := Z) hI12 hI16 hf v sm
  have f1 := o1.le hf
  have st : ∀ old new : List Cell, old.length = 14 → new.length = 14 → storeP (h1.push [old]) h1.next 0 0 new = some (h1.push [new]) := fun old new q1 q2 => storeP_push (rows := [old]) (i := 0) f1 rfl (by omega)
  obtain ⟨h2, e2, o2⟩ := isClient_run (Z := Z) (h := h1.push [[.int .i64 c.id, .int .i64 c.seq, .int .i64 c.chart.epoch, y, .bool c.chart.moving, .int .u64 c.chart.lo, .int .i64 c.chart.to, .bool c.busy, .int .i64 c.tries, .int .i64 c.ask.epoch, .int .i64 c.ask.op, .int .u64 c.ask.id, .int .u64 c.ask.amount, .int .i64 c.ask.tx]]) hI11 hI12 hI16 hLi (Client.okI.on v (o1.trans (On.push _ _))) ok.chart
  have hg2 : h2.get h1.next = some [[.int .i64 c.id, .int .i64 c.seq, .int .i64 c.chart.epoch, y, .bool c.chart.moving, .int .u64 c.chart.lo, .int .i64 c.chart.to, .bool c.busy, .int .i64 c.tries, .int .i64 c.ask.epoch, .int .i64 c.ask.op, .int .u64 c.ask.id, .int .u64 c.ask.amount, .int .i64 c.ask.tx]] := by
    rw [o2.ext.2 _ (by rw [push_next]; omega)]; exact push_get _ _
  have hfl : h2.floor ≤ h1.next := by rw [o2.fl]; exact f1
  have es := stop_run (Z := Z) hI16 hfl hg2
  have o12 := (On.push h1 [[.int .i64 c.id, .int .i64 c.seq, .int .i64 c.chart.epoch, y, .bool c.chart.moving, .int .u64 c.chart.lo, .int .i64 c.chart.to, .bool c.busy, .int .i64 c.tries, .int .i64 c.ask.epoch, .int .i64 c.ask.op, .int .u64 c.ask.id, .int .u64 c.ask.amount, .int .i64 c.ask.tx]]).trans o2
  have o2' := o1.trans o12
  have lg := fun j n => loadP_get1 hg2 j n
  have h1n := o1.ext.1
  obtain ⟨x, p, rfl, rfl, w⟩ := v
  rw [call_run F Z (hI16.lk (g := 148) rfl) _ _ rfl]
  simp only [run0, run1, run2, run3, run4, noSlot, ownS, ownK, memN, RO.dst, lk, drop, forget, number, Nat.reduceBEq, cut?, splice?, builds, List.length_cons, List.length_nil, List.drop_succ_cons, List.drop_zero, List.take_succ_cons, List.take_zero, List.cons_append, List.nil_append, List.append_nil, List.drop_nil, List.take_nil, Nat.reduceAdd, Nat.reduceLeDiff, Nat.zero_add, Nat.add_zero, ↓reduceIte, Bool.not_true, Bool.not_false, decide_true, decide_false, eq_self, bne_self_eq_false, List.getElem?_cons_zero, List.getElem?_cons_succ, decide_eq_true_eq, Bool.false_eq_true, Bool.true_eq_false, reduceCtorEq, Nat.le_refl, e1, st, e2]
  cases hgd : c.good with
  | false =>
    rw [hgd] at e2
    simp only [run0, run1, run2, run3, run4, noSlot, ownS, ownK, memN, RO.dst, lk, drop, forget, number, Nat.reduceBEq, cut?, splice?, builds, List.length_cons, List.length_nil, List.drop_succ_cons, List.drop_zero, List.take_succ_cons, List.take_zero, List.cons_append, List.nil_append, List.append_nil, List.drop_nil, List.take_nil, Nat.reduceAdd, Nat.reduceLeDiff, Nat.zero_add, Nat.add_zero, ↓reduceIte, Bool.not_true, Bool.not_false, decide_true, decide_false, eq_self, bne_self_eq_false, List.getElem?_cons_zero, List.getElem?_cons_succ, decide_eq_true_eq, Bool.false_eq_true, Bool.true_eq_false, reduceCtorEq, Nat.le_refl, e2, lg]
    exact ⟨_, _, _, by simp only [clientStop, hgd, Bool.false_and, cond_false]; rfl, o2', by simp only [clientStop, hgd, Bool.false_and, cond_false]; exact ⟨y, _, rfl, rfl, u.on (Fl.ok _) o12⟩, f⟩
  | true =>
    rw [hgd] at e2
    cases hb : c.busy with
    | false =>
      simp only [run0, run1, run2, run3, run4, noSlot, ownS, ownK, memN, RO.dst, lk, drop, forget, number, Nat.reduceBEq, cut?, splice?, builds, List.length_cons, List.length_nil, List.drop_succ_cons, List.drop_zero, List.take_succ_cons, List.take_zero, List.cons_append, List.nil_append, List.append_nil, List.drop_nil, List.take_nil, Nat.reduceAdd, Nat.reduceLeDiff, Nat.zero_add, Nat.add_zero, ↓reduceIte, Bool.not_true, Bool.not_false, decide_true, decide_false, eq_self, bne_self_eq_false, List.getElem?_cons_zero, List.getElem?_cons_succ, decide_eq_true_eq, Bool.false_eq_true, Bool.true_eq_false, reduceCtorEq, Nat.le_refl, e2, lg, hb]
      exact ⟨_, _, _, by simp only [clientStop, hgd, hb, Bool.and_false, cond_false]; rfl, o2', by simp only [clientStop, hgd, hb, Bool.and_false, cond_false]; exact ⟨y, _, by rw [hb], rfl, u.on (Fl.ok _) o12⟩, f⟩
    | true =>
      simp only [run0, run1, run2, run3, run4, noSlot, ownS, ownK, memN, RO.dst, lk, drop, forget, number, Nat.reduceBEq, cut?, splice?, builds, List.length_cons, List.length_nil, List.drop_succ_cons, List.drop_zero, List.take_succ_cons, List.take_zero, List.cons_append, List.nil_append, List.append_nil, List.drop_nil, List.take_nil, Nat.reduceAdd, Nat.reduceLeDiff, Nat.zero_add, Nat.add_zero, ↓reduceIte, Bool.not_true, Bool.not_false, decide_true, decide_false, eq_self, bne_self_eq_false, List.getElem?_cons_zero, List.getElem?_cons_succ, decide_eq_true_eq, Bool.false_eq_true, Bool.true_eq_false, reduceCtorEq, Nat.le_refl, e2, lg, hb, es, loadP_put1]
      exact ⟨_, _, _, by simp only [clientStop, hgd, hb, Bool.and_true, cond_true]; rfl, o2'.put (by omega) _, by simp only [clientStop, hgd, hb, Bool.and_true, cond_true]; exact ⟨y, _, rfl, rfl, u.on (Fl.ok _) (o12.put (Nat.le_refl _) _)⟩, f⟩
theorem sClientStop_c (hS : Has F tS01d) (hS11 : Has F tS11) (hS12 : Has F tS12) (hS16 : Has F tS16) (hf : h.floor ≤ h.next) (v : Client.RI h cs c fp) (ok : c.Ok) (sm : c.Small) :
    ∃ cs' h' fq, call F Z 147 [.agg cs] h = some (.tup [.agg cs', .c (.bool (clientStop c).2)], h') ∧ On h h' ∧ Client.RI h' cs' (clientStop c).1 fq ∧ Fre h fq := by
  obtain ⟨_, h1, _, e1, o1, ⟨y, q, rfl, rfl, u⟩, f⟩ := l16Copy_c (Z := Z) hS12 hS16 hf v sm
  have e2 := sClientOk_run (Z := Z) hS hS11 hS12 hS16 (Client.okI.on v o1) ok.chart
  obtain ⟨x, p, rfl, rfl, w⟩ := v
  have hfree : ∀ (a b e : Int) (z : Cell) (mv : Bool) (lo to : Int) (bz : Bool) (tr r1 r2 r3 r4 r5 : Int) (g : Heap), call F Z 198 [.agg [.int .i64 a, .int .i64 b, .int .i64 e, z, .bool mv, .int .u64 lo, .int .i64 to, .bool bz, .int .i64 tr, .int .i64 r1, .int .i64 r2, .int .u64 r3, .int .u64 r4, .int .i64 r5]] g = some (.agg [.int .i64 a, .int .i64 b, .int .i64 e, z, .bool mv, .int .u64 lo, .int .i64 to, .bool false, .int .i64 0, .int .i64 0, .int .i64 0, .int .u64 0, .int .u64 0, .int .i64 0], g) := by
    intro a b e z mv lo to bz tr r1 r2 r3 r4 r5 g
    rw [call_run F Z (hS16.lk (g := 198) rfl) _ _ rfl]
    simp only [run0, run1, run2, run3, run4, noSlot, ownS, ownK, memN, RO.dst, lk, drop, forget, number, Nat.reduceBEq, cut?, splice?, builds, List.length_cons, List.length_nil, List.drop_succ_cons, List.drop_zero, List.take_succ_cons, List.take_zero, List.cons_append, List.nil_append, List.append_nil, List.drop_nil, List.take_nil, Nat.reduceAdd, Nat.reduceLeDiff, Nat.zero_add, Nat.add_zero, ↓reduceIte, Bool.not_true, Bool.not_false, decide_true, decide_false, eq_self, bne_self_eq_false, List.getElem?_cons_zero, List.getElem?_cons_succ, decide_eq_true_eq, Bool.false_eq_true, Bool.true_eq_false, reduceCtorEq, Nat.le_refl]
  rw [call_run F Z (hS16.lk (g := 147) rfl) _ _ rfl]
  simp only [run0, run1, run2, run3, run4, noSlot, ownS, ownK, memN, RO.dst, lk, drop, forget, number, Nat.reduceBEq, cut?, splice?, builds, List.length_cons, List.length_nil, List.drop_succ_cons, List.drop_zero, List.take_succ_cons, List.take_zero, List.cons_append, List.nil_append, List.append_nil, List.drop_nil, List.take_nil, Nat.reduceAdd, Nat.reduceLeDiff, Nat.zero_add, Nat.add_zero, ↓reduceIte, Bool.not_true, Bool.not_false, decide_true, decide_false, eq_self, bne_self_eq_false, List.getElem?_cons_zero, List.getElem?_cons_succ, decide_eq_true_eq, Bool.false_eq_true, Bool.true_eq_false, reduceCtorEq, Nat.le_refl, e1, e2]
  cases hgd : c.good with
  | false =>
    simp only [run0, run1, run2, run3, run4, noSlot, ownS, ownK, memN, RO.dst, lk, drop, forget, number, Nat.reduceBEq, cut?, splice?, builds, List.length_cons, List.length_nil, List.drop_succ_cons, List.drop_zero, List.take_succ_cons, List.take_zero, List.cons_append, List.nil_append, List.append_nil, List.drop_nil, List.take_nil, Nat.reduceAdd, Nat.reduceLeDiff, Nat.zero_add, Nat.add_zero, ↓reduceIte, Bool.not_true, Bool.not_false, decide_true, decide_false, eq_self, bne_self_eq_false, List.getElem?_cons_zero, List.getElem?_cons_succ, decide_eq_true_eq, Bool.false_eq_true, Bool.true_eq_false, reduceCtorEq, Nat.le_refl]
    exact ⟨_, _, _, by simp only [clientStop, hgd, Bool.false_and, cond_false]; rfl, o1, by simp only [clientStop, hgd, Bool.false_and, cond_false]; exact ⟨y, _, rfl, rfl, u⟩, f⟩
  | true =>
    cases hb : c.busy with
    | false =>
      simp only [run0, run1, run2, run3, run4, noSlot, ownS, ownK, memN, RO.dst, lk, drop, forget, number, Nat.reduceBEq, cut?, splice?, builds, List.length_cons, List.length_nil, List.drop_succ_cons, List.drop_zero, List.take_succ_cons, List.take_zero, List.cons_append, List.nil_append, List.append_nil, List.drop_nil, List.take_nil, Nat.reduceAdd, Nat.reduceLeDiff, Nat.zero_add, Nat.add_zero, ↓reduceIte, Bool.not_true, Bool.not_false, decide_true, decide_false, eq_self, bne_self_eq_false, List.getElem?_cons_zero, List.getElem?_cons_succ, decide_eq_true_eq, Bool.false_eq_true, Bool.true_eq_false, reduceCtorEq, Nat.le_refl]
      exact ⟨_, _, _, by simp only [clientStop, hgd, hb, Bool.and_false, cond_false]; rfl, o1, by simp only [clientStop, hgd, hb, Bool.and_false, cond_false]; exact ⟨y, _, by rw [hb], rfl, u⟩, f⟩
    | true =>
      simp only [run0, run1, run2, run3, run4, noSlot, ownS, ownK, memN, RO.dst, lk, drop, forget, number, Nat.reduceBEq, cut?, splice?, builds, List.length_cons, List.length_nil, List.drop_succ_cons, List.drop_zero, List.take_succ_cons, List.take_zero, List.cons_append, List.nil_append, List.append_nil, List.drop_nil, List.take_nil, Nat.reduceAdd, Nat.reduceLeDiff, Nat.zero_add, Nat.add_zero, ↓reduceIte, Bool.not_true, Bool.not_false, decide_true, decide_false, eq_self, bne_self_eq_false, List.getElem?_cons_zero, List.getElem?_cons_succ, decide_eq_true_eq, Bool.false_eq_true, Bool.true_eq_false, reduceCtorEq, Nat.le_refl, hfree]
      exact ⟨_, _, _, by simp only [clientStop, hgd, hb, Bool.and_true, cond_true]; rfl, o1, by simp only [clientStop, hgd, hb, Bool.and_true, cond_true]; exact ⟨y, _, rfl, rfl, u⟩, f⟩
end
end Go.Proofs.Ytnedbeicpfdjjaa.A
/- A client that asks again. -/
namespace Go.Proofs.Ytnedbeicpfdjjaa.A
open Go
set_option linter.unusedSimpArgs false
set_option linter.unusedVariables false
theorem ClientMsg.drp (t : ClientMsg) : t.enc.drop 8 = [] := rfl
theorem clientAgain_small {c : Client} (sm : c.Small) : (clientAgain c).1.Small := by
  unfold clientAgain
  cases (c.good && (c.busy && c.tries != 6)) <;> exact sm
theorem clientAsk_small {c : Client} {q : Request} (sm : c.Small) : (clientAsk c q).1.Small := by
  unfold clientAsk
  cases (c.good && (!c.busy && (inR q.op 0 8 && c.seq != 1000000))) <;> exact sm
theorem Client.good_tries {c : Client} (h : c.good = true) (hb : c.busy = true) : IntKind.i64.wrap (c.tries + 1) = c.tries + 1 := by
  simp only [Client.good, hb, cond_true, Bool.and_eq_true, inR, decide_eq_true_eq] at h
  exact wrapI _ (by omega) (by omega)
theorem Client.good_seq {c : Client} (h : c.good = true) : IntKind.i64.wrap (c.seq + 1) = c.seq + 1 := by
  simp only [Client.good, Bool.and_eq_true, inR, decide_eq_true_eq] at h
  exact wrapI _ (by omega) (by omega)
section
variable {F : Nat → Option RF} {Z : CallF} {h : Heap} {cs : List Cell} {c : Client} {fp : List Nat}
theorem ClientAgain_c (hI11 : Has F tI11) (hI12 : Has F tI12) (hI16 : Has F tI16) (hLi : Has F tLibslicesIndexFuncimplRangeimplRange) (hf : h.floor ≤ h.next) (v : Client.RI h cs c fp) (ok : c.Ok) (sm : c.Small) :
    ∃ cs' h' fq, call F Z 151 [.agg cs] h = some (.tup [.agg cs', .agg (clientAgain c).2.1.enc, .c (.bool (clientAgain c).2.2)], h') ∧ On h h' ∧ Client.RI h' cs' (clientAgain c).1 fq ∧ Fre h fq := by
  obtain ⟨_, h1, _, e1, o1, ⟨y, q, rfl, rfl, u⟩, f⟩ := copyClient_c (Z := Z) hI12 hI16 hf v sm
  obtain ⟨h2, e2, o2⟩ := isClient_run (Z := Z) hI11 hI12 hI16 hLi (Client.okI.on v o1) ok.chart
  have u2 := u.on (Fl.ok _) o2
  have o12 := o1.trans o2
  obtain ⟨x, p, rfl, rfl, w⟩ := v
  rw [call_run F Z (hI16.lk (g := 151) rfl) _ _ rfl]
  cases hgd : c.good with
  | false =>
    rw [hgd] at e2
    simp only [run0, run1, run2, run3, run4, noSlot, ownS, ownK, memN, RO.dst, lk, drop, forget, number, Nat.reduceBEq, cut?, splice?, builds, List.length_cons, List.length_nil, List.drop_succ_cons, List.drop_zero, List.take_succ_cons, List.take_zero, List.cons_append, List.nil_append, List.append_nil, List.drop_nil, List.take_nil, Nat.reduceAdd, Nat.reduceLeDiff, Nat.zero_add, Nat.add_zero, ↓reduceIte, Bool.not_true, Bool.not_false, decide_true, decide_false, eq_self, bne_self_eq_false, List.getElem?_cons_zero, List.getElem?_cons_succ, decide_eq_true_eq, Bool.false_eq_true, Bool.true_eq_false, reduceCtorEq, Nat.le_refl, e1, e2]
    exact ⟨_, _, _, by simp only [clientAgain, hgd, Bool.false_and, cond_false]; rfl, o12, by simp only [clientAgain, hgd, Bool.false_and, cond_false]; exact ⟨y, _, rfl, rfl, u2⟩, f⟩
  | true =>
    rw [hgd] at e2
    simp only [run0, run1, run2, run3, run4, noSlot, ownS, ownK, memN, RO.dst, lk, drop, forget, number, Nat.reduceBEq, cut?, splice?, builds, List.length_cons, List.length_nil, List.drop_succ_cons, List.drop_zero, List.take_succ_cons, List.take_zero, List.cons_append, List.nil_append, List.append_nil, List.drop_nil, List.take_nil, Nat.reduceAdd, Nat.reduceLeDiff, Nat.zero_add, Nat.add_zero, ↓reduceIte, Bool.not_true, Bool.not_false, decide_true, decide_false, eq_self, bne_self_eq_false, List.getElem?_cons_zero, List.getElem?_cons_succ, decide_eq_true_eq, Bool.false_eq_true, Bool.true_eq_false, reduceCtorEq, Nat.le_refl, e1, e2]
    cases hb : c.busy with
    | false =>
      simp only [run0, run1, run2, run3, run4, noSlot, ownS, ownK, memN, RO.dst, lk, drop, forget, number, Nat.reduceBEq, cut?, splice?, builds, List.length_cons, List.length_nil, List.drop_succ_cons, List.drop_zero, List.take_succ_cons, List.take_zero, List.cons_append, List.nil_append, List.append_nil, List.drop_nil, List.take_nil, Nat.reduceAdd, Nat.reduceLeDiff, Nat.zero_add, Nat.add_zero, ↓reduceIte, Bool.not_true, Bool.not_false, decide_true, decide_false, eq_self, bne_self_eq_false, List.getElem?_cons_zero, List.getElem?_cons_succ, decide_eq_true_eq, Bool.false_eq_true, Bool.true_eq_false, reduceCtorEq, Nat.le_refl]
      exact ⟨_, _, _, by simp only [clientAgain, hgd, hb, Bool.false_and, Bool.and_false, cond_false]; rfl, o12, by simp only [clientAgain, hgd, hb, Bool.false_and, Bool.and_false, cond_false]; exact ⟨y, _, by rw [hb], rfl, u2⟩, f⟩
    | true =>
      cases ht : (c.tries == 6) with
      | true =>
        simp only [run0, run1, run2, run3, run4, noSlot, ownS, ownK, memN, RO.dst, lk, drop, forget, number, Nat.reduceBEq, cut?, splice?, builds, List.length_cons, List.length_nil, List.drop_succ_cons, List.drop_zero, List.take_succ_cons, List.take_zero, List.cons_append, List.nil_append, List.append_nil, List.drop_nil, List.take_nil, Nat.reduceAdd, Nat.reduceLeDiff, Nat.zero_add, Nat.add_zero, ↓reduceIte, Bool.not_true, Bool.not_false, decide_true, decide_false, eq_self, bne_self_eq_false, List.getElem?_cons_zero, List.getElem?_cons_succ, decide_eq_true_eq, Bool.false_eq_true, Bool.true_eq_false, reduceCtorEq, Nat.le_refl, ht]
        exact ⟨_, _, _, by simp only [clientAgain, hgd, hb, bne, ht, Bool.not_true, Bool.and_false, cond_false]; rfl, o12, by simp only [clientAgain, hgd, hb, bne, ht, Bool.not_true, Bool.and_false, cond_false]; exact ⟨y, _, by rw [hb], rfl, u2⟩, f⟩
      | false =>
        have hw := Client.good_tries hgd hb
        obtain ⟨h3, em, om⟩ := message_run (Z := Z) (h := ⟨h2.next, h2.next, h2.get⟩) (c := { c with tries := c.tries + 1 }) hI11 hI16 hLi ⟨y, _, rfl, rfl, u2.up (Fl.ok _) _⟩ (Client.good_chart (c := c) hgd) ok.ask.id
        obtain ⟨_, g, em, hgq, og⟩ := quietly em om
        simp only [hb] at em
        simp only [run0, run1, run2, run3, run4, noSlot, ownS, ownK, memN, RO.dst, lk, drop, forget, number, Nat.reduceBEq, cut?, splice?, builds, List.length_cons, List.length_nil, List.drop_succ_cons, List.drop_zero, List.take_succ_cons, List.take_zero, List.cons_append, List.nil_append, List.append_nil, List.drop_nil, List.take_nil, Nat.reduceAdd, Nat.reduceLeDiff, Nat.zero_add, Nat.add_zero, ↓reduceIte, Bool.not_true, Bool.not_false, decide_true, decide_false, eq_self, bne_self_eq_false, List.getElem?_cons_zero, List.getElem?_cons_succ, decide_eq_true_eq, Bool.false_eq_true, Bool.true_eq_false, reduceCtorEq, Nat.le_refl, ht, hw, em, hgq, ClientMsg.len, ClientMsg.tak, ClientMsg.drp]
        exact ⟨_, _, _, by simp only [clientAgain, hgd, hb, bne, ht, Bool.not_false, Bool.and_true, cond_true]; rfl, o12.trans og, by simp only [clientAgain, hgd, hb, bne, ht, Bool.not_false, Bool.and_true, cond_true]; exact ⟨y, _, rfl, rfl, u2.on (Fl.ok _) og⟩, f⟩
theorem sClientAgain_c (hS : Has F tS01d) (hS11 : Has F tS11) (hS12 : Has F tS12) (hS16 : Has F tS16) (hf : h.floor ≤ h.next) (v : Client.RI h cs c fp) (ok : c.Ok) (sm : c.Small) :
    ∃ cs' h' fq, call F Z 150 [.agg cs] h = some (.tup [.agg cs', .agg (clientAgain c).2.1.enc, .c (.bool (clientAgain c).2.2)], h') ∧ On h h' ∧ Client.RI h' cs' (clientAgain c).1 fq ∧ Fre h fq := by
  obtain ⟨_, h1, _, e1, o1, ⟨y, q, rfl, rfl, u2⟩, f⟩ := l16Copy_c (Z := Z) hS12 hS16 hf v sm
  have e2 := sClientOk_run (Z := Z) hS hS11 hS12 hS16 (Client.okI.on v o1) ok.chart
  obtain ⟨x, p, rfl, rfl, w⟩ := v
  rw [call_run F Z (hS16.lk (g := 150) rfl) _ _ rfl]
  cases hgd : c.good with
  | false =>
    rw [hgd] at e2
    simp only [run0, run1, run2, run3, run4, noSlot, ownS, ownK, memN, RO.dst, lk, drop, forget, number, Nat.reduceBEq, cut?, splice?, builds, List.length_cons, List.length_nil, List.drop_succ_cons, List.drop_zero, List.take_succ_cons, List.take_zero, List.cons_append, List.nil_append, List.append_nil, List.drop_nil, List.take_nil, Nat.reduceAdd, Nat.reduceLeDiff, Nat.zero_add, Nat.add_zero, ↓reduceIte, Bool.not_true, Bool.not_false, decide_true, decide_false, eq_self, bne_self_eq_false, List.getElem?_cons_zero, List.getElem?_cons_succ, decide_eq_true_eq, Bool.false_eq_true, Bool.true_eq_false, reduceCtorEq, Nat.le_refl, e1, e2]
    exact ⟨_, _, _, by simp only [clientAgain, hgd, Bool.false_and, cond_false]; rfl, o1, by simp only [clientAgain, hgd, Bool.false_and, cond_false]; exact ⟨y, _, rfl, rfl, u2⟩, f⟩
  | true =>
    rw [hgd] at e2
    simp only [run0, run1, run2, run3, run4, noSlot, ownS, ownK, memN, RO.dst, lk, drop, forget, number, Nat.reduceBEq, cut?, splice?, builds, List.length_cons, List.length_nil, List.drop_succ_cons, List.drop_zero, List.take_succ_cons, List.take_zero, List.cons_append, List.nil_append, List.append_nil, List.drop_nil, List.take_nil, Nat.reduceAdd, Nat.reduceLeDiff, Nat.zero_add, Nat.add_zero, ↓reduceIte, Bool.not_true, Bool.not_false, decide_true, decide_false, eq_self, bne_self_eq_false, List.getElem?_cons_zero, List.getElem?_cons_succ, decide_eq_true_eq, Bool.false_eq_true, Bool.true_eq_false, reduceCtorEq, Nat.le_refl, e1, e2]
    cases hb : c.busy with
    | false =>
      simp only [run0, run1, run2, run3, run4, noSlot, ownS, ownK, memN, RO.dst, lk, drop, forget, number, Nat.reduceBEq, cut?, splice?, builds, List.length_cons, List.length_nil, List.drop_succ_cons, List.drop_zero, List.take_succ_cons, List.take_zero, List.cons_append, List.nil_append, List.append_nil, List.drop_nil, List.take_nil, Nat.reduceAdd, Nat.reduceLeDiff, Nat.zero_add, Nat.add_zero, ↓reduceIte, Bool.not_true, Bool.not_false, decide_true, decide_false, eq_self, bne_self_eq_false, List.getElem?_cons_zero, List.getElem?_cons_succ, decide_eq_true_eq, Bool.false_eq_true, Bool.true_eq_false, reduceCtorEq, Nat.le_refl]
      exact ⟨_, _, _, by simp only [clientAgain, hgd, hb, Bool.false_and, Bool.and_false, cond_false]; rfl, o1, by simp only [clientAgain, hgd, hb, Bool.false_and, Bool.and_false, cond_false]; exact ⟨y, _, by rw [hb], rfl, u2⟩, f⟩
    | true =>
      cases ht : (c.tries == 6) with
      | true =>
        simp only [run0, run1, run2, run3, run4, noSlot, ownS, ownK, memN, RO.dst, lk, drop, forget, number, Nat.reduceBEq, cut?, splice?, builds, List.length_cons, List.length_nil, List.drop_succ_cons, List.drop_zero, List.take_succ_cons, List.take_zero, List.cons_append, List.nil_append, List.append_nil, List.drop_nil, List.take_nil, Nat.reduceAdd, Nat.reduceLeDiff, Nat.zero_add, Nat.add_zero, ↓reduceIte, Bool.not_true, Bool.not_false, decide_true, decide_false, eq_self, bne_self_eq_false, List.getElem?_cons_zero, List.getElem?_cons_succ, decide_eq_true_eq, Bool.false_eq_true, Bool.true_eq_false, reduceCtorEq, Nat.le_refl, ht]
        exact ⟨_, _, _, by simp only [clientAgain, hgd, hb, bne, ht, Bool.not_true, Bool.and_false, cond_false]; rfl, o1, by simp only [clientAgain, hgd, hb, bne, ht, Bool.not_true, Bool.and_false, cond_false]; exact ⟨y, _, by rw [hb], rfl, u2⟩, f⟩
      | false =>
        have hw := Client.good_tries hgd hb
        obtain ⟨h3, em, om⟩ := l16Msg_run (Z := Z) (h := ⟨h1.next, h1.next, h1.get⟩) (c := { c with tries := c.tries + 1 }) hS hS11 hS12 hS16 ⟨y, _, rfl, rfl, u2.up (Fl.ok _) _⟩ ok.chart (Client.good_chart (c := c) hgd) ok.ask.id
        obtain ⟨_, g, em, hgq, og⟩ := quietly em om
        simp only [hb] at em
        simp only [run0, run1, run2, run3, run4, noSlot, ownS, ownK, memN, RO.dst, lk, drop, forget, number, Nat.reduceBEq, cut?, splice?, builds, List.length_cons, List.length_nil, List.drop_succ_cons, List.drop_zero, List.take_succ_cons, List.take_zero, List.cons_append, List.nil_append, List.append_nil, List.drop_nil, List.take_nil, Nat.reduceAdd, Nat.reduceLeDiff, Nat.zero_add, Nat.add_zero, ↓reduceIte, Bool.not_true, Bool.not_false, decide_true, decide_false, eq_self, bne_self_eq_false, List.getElem?_cons_zero, List.getElem?_cons_succ, decide_eq_true_eq, Bool.false_eq_true, Bool.true_eq_false, reduceCtorEq, Nat.le_refl, ht, hw, em, hgq, ClientMsg.len, ClientMsg.tak, ClientMsg.drp]
        exact ⟨_, _, _, by simp only [clientAgain, hgd, hb, bne, ht, Bool.not_false, Bool.and_true, cond_true]; rfl, o1.trans og, by simp only [clientAgain, hgd, hb, bne, ht, Bool.not_false, Bool.and_true, cond_true]; exact ⟨y, _, rfl, rfl, u2.on (Fl.ok _) og⟩, f⟩
end
end Go.Proofs.Ytnedbeicpfdjjaa.A
/- The data of a Reply with its memory, and what its converters compute. -/
namespace Go.Proofs.Ytnedbeicpfdjjaa.A
open Go
set_option linter.unusedSimpArgs false
set_option linter.unusedVariables false
structure Reply where
  client : Int
  seq : Int
  code : Int
  value : Int
  chart : Chart
  deriving DecidableEq
def Reply.RL : Rel Reply := fun h cs t fp => ∃ x1 p1, cs = [.int .i64 t.client, .int .i64 t.seq, .int .i64 t.code, .int .u64 t.value, .int .i64 t.chart.epoch, x1, .bool t.chart.moving, .int .u64 t.chart.lo, .int .i64 t.chart.to] ∧ fp = p1 ∧ SlR 8 (Fl Range.enc) h x1 t.chart.ranges p1
theorem Reply.okL : RelOk Reply.RL where
  lt := by
    rintro h cs t fp ⟨x1, p1, rfl, rfl, w1⟩ id hid
    exact w1.lt (Fl.ok _) id hid
  mv := by
    rintro h h' cs t fp ⟨x1, p1, rfl, rfl, w1⟩ hn hg
    exact ⟨x1, _, rfl, rfl, w1.mv (Fl.ok _) hn hg⟩
def Reply.RI : Rel Reply := fun h cs t fp => ∃ x1 p1, cs = [.int .i64 t.client, .int .i64 t.seq, .int .i64 t.code, .int .u64 t.value, .int .i64 t.chart.epoch, x1, .bool t.chart.moving, .int .u64 t.chart.lo, .int .i64 t.chart.to] ∧ fp = p1 ∧ SlR 7 (Fl Range.enc) h x1 t.chart.ranges p1
theorem Reply.okI : RelOk Reply.RI where
  lt := by
    rintro h cs t fp ⟨x1, p1, rfl, rfl, w1⟩ id hid
    exact w1.lt (Fl.ok _) id hid
  mv := by
    rintro h h' cs t fp ⟨x1, p1, rfl, rfl, w1⟩ hn hg
    exact ⟨x1, _, rfl, rfl, w1.mv (Fl.ok _) hn hg⟩
theorem Reply.lenL {h : Heap} {cs : List Cell} {t : Reply} {fp : List Nat} (v : Reply.RL h cs t fp) : cs.length = 9 ∧ cs.take 9 = cs ∧ cs.drop 9 = [] := by
  obtain ⟨x1, p1, rfl, _⟩ := v
  exact ⟨rfl, rfl, rfl⟩
theorem Reply.lenI {h : Heap} {cs : List Cell} {t : Reply} {fp : List Nat} (v : Reply.RI h cs t fp) : cs.length = 9 ∧ cs.take 9 = cs ∧ cs.drop 9 = [] := by
  obtain ⟨x1, p1, rfl, _⟩ := v
  exact ⟨rfl, rfl, rfl⟩
namespace Reply
/-- The numbers are those of the machine. -/
structure Ok (t : Reply) : Prop where
  client : -9223372036854775808 ≤ t.client ∧ t.client ≤ 9223372036854775807
  seq : -9223372036854775808 ≤ t.seq ∧ t.seq ≤ 9223372036854775807
  code : -9223372036854775808 ≤ t.code ∧ t.code ≤ 9223372036854775807
  value : 0 ≤ t.value ∧ t.value ≤ 18446744073709551615
  chart : t.chart.Ok
def Small (t : Reply) : Prop := t.chart.Small
def wt (t : Reply) : Int := t.chart.wt
def marked (t : Reply) (k : Int) : Reply := { t with chart := t.chart.marked (k) }
theorem wt_nn (t : Reply) : 0 ≤ t.wt := by
  have := t.chart.wt_nn
  simp only [wt]; omega
theorem wt_le {t : Reply} (sm : t.Small) : t.wt ≤ 3145728 := by
  unfold Small at sm
  have := Chart.wt_le sm
  simp only [wt]; omega
end Reply
theorem Wf.isReply {h : Heap} {n : Nat} {cs : List Cell} (w : Wf h (n + 5) shReply cs) : ∃ t fp, Reply.RL h cs t fp ∧ t.Ok := by
  obtain ⟨_, _, rfl, _, ⟨i1, rfl, j1⟩, _, _, rfl, _, ⟨i2, rfl, j2⟩, _, _, rfl, _, ⟨i3, rfl, j3⟩, _, _, rfl, _, ⟨i4, rfl, j4⟩, _, _, rfl, _, ⟨_, _, rfl, _, ⟨i5, rfl, j5⟩, _, _, rfl, _, m6, _, _, rfl, _, ⟨b7, rfl⟩, _, _, rfl, _, ⟨i8, rfl, j8⟩, _, _, rfl, _, ⟨i9, rfl, j9⟩, rfl⟩, rfl⟩ := w
  obtain ⟨x1, l1, p1, rfl, w1, o1⟩ := Wf.isRangeS' m6
  exact ⟨⟨i1, i2, i3, i4, ⟨i5, l1, b7, i8, i9⟩⟩, _, ⟨x1, _, rfl, rfl, w1⟩, ⟨wfI j1, wfI j2, wfI j3, wfU j4, ⟨wfI j5, o1, wfU j8, wfI j9⟩⟩⟩
section
variable {F : Nat → Option RF} {Z : CallF} {h : Heap} {cs cs' : List Cell} {t u : Reply} {fp fq : List Nat}
theorem szReply_c (hLReply : Has F tLReply) (hLChart : Has F tLChart) (hLRange : Has F tLRange) (v : Reply.RL h cs t fp) (left : Int) (h1 : 0 ≤ left) (h2 : left ≤ 1048576) : ∃ r, call F Z 350 [.agg cs, .c (.int .i64 left)] h = some (.c (.int .i64 r), h) ∧ r ≤ left ∧ (0 ≤ r → t.Small) := by
  obtain ⟨x1, p1, rfl, rfl, w1⟩ := v
  rw [call_run F Z (hLReply.lk (g := 350) rfl) _ _ rfl]
  simp only [run0, run1, run2, run3, run4, noSlot, ownS, ownK, memN, RO.dst, lk, drop, forget, number, Nat.reduceBEq, cut?, splice?, builds, List.length_cons, List.length_nil, List.drop_succ_cons, List.drop_zero, List.take_succ_cons, List.take_zero, List.cons_append, List.nil_append, List.append_nil, List.drop_nil, List.take_nil, Nat.reduceAdd, Nat.reduceLeDiff, Nat.zero_add, Nat.add_zero, ↓reduceIte, Bool.not_true, Bool.not_false, decide_true, decide_false, eq_self, bne_self_eq_false, List.getElem?_cons_zero, List.getElem?_cons_succ, decide_eq_true_eq, Bool.false_eq_true, Bool.true_eq_false, reduceCtorEq, Nat.le_refl]
  obtain ⟨l0, s0, a0, b0⟩ := szChart_c (Z := Z) hLChart hLRange (⟨x1, _, rfl, rfl, w1⟩ : Chart.RL _ _ _ _) left (by omega) (by omega)
  simp only [run0, run1, run2, run3, run4, noSlot, ownS, ownK, memN, RO.dst, lk, drop, forget, number, Nat.reduceBEq, cut?, splice?, builds, List.length_cons, List.length_nil, List.drop_succ_cons, List.drop_zero, List.take_succ_cons, List.take_zero, List.cons_append, List.nil_append, List.append_nil, List.drop_nil, List.take_nil, Nat.reduceAdd, Nat.reduceLeDiff, Nat.zero_add, Nat.add_zero, ↓reduceIte, Bool.not_true, Bool.not_false, decide_true, decide_false, eq_self, bne_self_eq_false, List.getElem?_cons_zero, List.getElem?_cons_succ, decide_eq_true_eq, Bool.false_eq_true, Bool.true_eq_false, reduceCtorEq, Nat.le_refl, s0]
  by_cases n0 : l0 < 0
  · simp only [run0, run1, run2, run3, run4, noSlot, ownS, ownK, memN, RO.dst, lk, drop, forget, number, Nat.reduceBEq, cut?, splice?, builds, List.length_cons, List.length_nil, List.drop_succ_cons, List.drop_zero, List.take_succ_cons, List.take_zero, List.cons_append, List.nil_append, List.append_nil, List.drop_nil, List.take_nil, Nat.reduceAdd, Nat.reduceLeDiff, Nat.zero_add, Nat.add_zero, ↓reduceIte, Bool.not_true, Bool.not_false, decide_true, decide_false, eq_self, bne_self_eq_false, List.getElem?_cons_zero, List.getElem?_cons_succ, decide_eq_true_eq, Bool.false_eq_true, Bool.true_eq_false, reduceCtorEq, Nat.le_refl, n0]
    exact ⟨_, rfl, by omega, by omega⟩
  simp only [run0, run1, run2, run3, run4, noSlot, ownS, ownK, memN, RO.dst, lk, drop, forget, number, Nat.reduceBEq, cut?, splice?, builds, List.length_cons, List.length_nil, List.drop_succ_cons, List.drop_zero, List.take_succ_cons, List.take_zero, List.cons_append, List.nil_append, List.append_nil, List.drop_nil, List.take_nil, Nat.reduceAdd, Nat.reduceLeDiff, Nat.zero_add, Nat.add_zero, ↓reduceIte, Bool.not_true, Bool.not_false, decide_true, decide_false, eq_self, bne_self_eq_false, List.getElem?_cons_zero, List.getElem?_cons_succ, decide_eq_true_eq, Bool.false_eq_true, Bool.true_eq_false, reduceCtorEq, Nat.le_refl, n0]
  exact ⟨_, rfl, by omega, fun _ => b0 (by omega)⟩
theorem toReply_c (hLReply : Has F tLReply) (hLChart : Has F tLChart) (hLRange : Has F tLRange) (hf : h.floor ≤ h.next) (v : Reply.RL h cs t fp) (sm : t.Small) : ∃ cs' h' fq, call F Z 351 [.agg cs] h = some (.agg cs', h') ∧ On h h' ∧ Reply.RI h' cs' t fq ∧ Fre h fq := by
  obtain ⟨x1, p1, rfl, rfl, w1⟩ := v
  have sm0 := sm
  obtain ⟨_, g0, _, e0, o0, ⟨y1, q1, rfl, rfl, u1⟩, r0⟩ := toChart_c (Z := Z) hLChart hLRange hf (⟨x1, _, rfl, rfl, w1⟩ : Chart.RL _ _ _ _) sm0
  rw [call_run F Z (hLReply.lk (g := 351) rfl) _ _ rfl]
  simp only [run0, run1, run2, run3, run4, noSlot, ownS, ownK, memN, RO.dst, lk, drop, forget, number, Nat.reduceBEq, cut?, splice?, builds, List.length_cons, List.length_nil, List.drop_succ_cons, List.drop_zero, List.take_succ_cons, List.take_zero, List.cons_append, List.nil_append, List.append_nil, List.drop_nil, List.take_nil, Nat.reduceAdd, Nat.reduceLeDiff, Nat.zero_add, Nat.add_zero, ↓reduceIte, Bool.not_true, Bool.not_false, decide_true, decide_false, eq_self, bne_self_eq_false, List.getElem?_cons_zero, List.getElem?_cons_succ, decide_eq_true_eq, Bool.false_eq_true, Bool.true_eq_false, reduceCtorEq, Nat.le_refl, e0]
  exact ⟨_, _, _, rfl, o0, ⟨y1, _, rfl, rfl, u1⟩, r0⟩
set_option maxHeartbeats 1000000 in
theorem eqReply_r (hLReply : Has F tLReply) (hLChart : Has F tLChart) (hLRange : Has F tLRange) (v : Reply.RI h cs t fp) (v' : Reply.RI h cs' u fq) : call F Z 352 [.agg cs, .agg cs'] h = some (.c (.bool (decide (t = u))), h) := by
  obtain ⟨x1, p1, rfl, rfl, w1⟩ := v
  obtain ⟨x1', p1', rfl, rfl, w1'⟩ := v'
  obtain ⟨client1, seq1, code1, value1, chart1⟩ := t
  obtain ⟨client2, seq2, code2, value2, chart2⟩ := u
  have e0 := eqChart_r (Z := Z) hLChart hLRange (⟨x1, _, rfl, rfl, w1⟩ : Chart.RI h _ chart1 _) (⟨x1', _, rfl, rfl, w1'⟩ : Chart.RI h _ chart2 _)
  clear w1 w1'
  rw [call_run F Z (hLReply.lk (g := 352) rfl) _ _ rfl]
  simp only [run0, run1, run2, run3, run4, noSlot, ownS, ownK, memN, RO.dst, lk, drop, forget, number, Nat.reduceBEq, cut?, splice?, builds, List.length_cons, List.length_nil, List.drop_succ_cons, List.drop_zero, List.take_succ_cons, List.take_zero, List.cons_append, List.nil_append, List.append_nil, List.drop_nil, List.take_nil, Nat.reduceAdd, Nat.reduceLeDiff, Nat.zero_add, Nat.add_zero, ↓reduceIte, Bool.not_true, Bool.not_false, decide_true, decide_false, eq_self, bne_self_eq_false, List.getElem?_cons_zero, List.getElem?_cons_succ, decide_eq_true_eq, Bool.false_eq_true, Bool.true_eq_false, reduceCtorEq, Nat.le_refl, e0]
  (repeat' ((first | (rw [gF_if]; split) | (rw [condC_if]; split) | (rw [pickR_if]; split)) <;> (rename_i hh; (try simp only [Bool.not_eq_true, decide_eq_true_eq] at hh); simp only [hh, run0, run1, run2, run3, run4, noSlot, ownS, ownK, memN, RO.dst, lk, drop, forget, number, Nat.reduceBEq, cut?, splice?, builds, List.length_cons, List.length_nil, List.drop_succ_cons, List.drop_zero, List.take_succ_cons, List.take_zero, List.cons_append, List.nil_append, List.append_nil, List.drop_nil, List.take_nil, Nat.reduceAdd, Nat.reduceLeDiff, Nat.zero_add, Nat.add_zero, ↓reduceIte, Bool.not_true, Bool.not_false, decide_true, decide_false, eq_self, bne_self_eq_false, List.getElem?_cons_zero, List.getElem?_cons_succ, decide_eq_true_eq, Bool.false_eq_true, Bool.true_eq_false, reduceCtorEq, Nat.le_refl, e0]))) <;> clear e0 <;> refine fin_bool ?_ <;> simp_all <;> (try (intros; omega))
theorem markReply_r (hLReply : Has F tLReply) (hLChart : Has F tLChart) (hLRange : Has F tLRange) (v : Reply.RI h cs t fp) (nd : fp.Nodup) (hlo : ∀ id, id ∈ fp → h.floor ≤ id) (k : Int) (h1 : 0 ≤ k) (h2 : k + t.wt ≤ 9200000000000000000) : ∃ h', call F Z 353 [.agg cs, .c (.int .i64 k)] h = some (.c (.int .i64 (k + t.wt)), h') ∧ Mk h h' fp ∧ Reply.RI h' cs (t.marked k) fp := by
  obtain ⟨x1, p1, rfl, rfl, w1⟩ := v
  simp only [Reply.wt] at h2 ⊢
  obtain ⟨h', e0, m0, ⟨y1, q1, uc, rfl, u1⟩⟩ := markChart_r (Z := Z) hLChart hLRange (⟨x1, _, rfl, rfl, w1⟩ : Chart.RI _ _ _ _) nd hlo k h1 h2
  rw [call_run F Z (hLReply.lk (g := 353) rfl) _ _ rfl]
  simp only [run0, run1, run2, run3, run4, noSlot, ownS, ownK, memN, RO.dst, lk, drop, forget, number, Nat.reduceBEq, cut?, splice?, builds, List.length_cons, List.length_nil, List.drop_succ_cons, List.drop_zero, List.take_succ_cons, List.take_zero, List.cons_append, List.nil_append, List.append_nil, List.drop_nil, List.take_nil, Nat.reduceAdd, Nat.reduceLeDiff, Nat.zero_add, Nat.add_zero, ↓reduceIte, Bool.not_true, Bool.not_false, decide_true, decide_false, eq_self, bne_self_eq_false, List.getElem?_cons_zero, List.getElem?_cons_succ, decide_eq_true_eq, Bool.false_eq_true, Bool.true_eq_false, reduceCtorEq, Nat.le_refl, e0]
  refine ⟨_, rfl, m0, ⟨y1, _, ?_, rfl, u1⟩⟩
  simp_all [Reply.marked, Chart.marked]
end
end Go.Proofs.Ytnedbeicpfdjjaa.A
/- A client hears a reply. -/
namespace Go.Proofs.Ytnedbeicpfdjjaa.A
open Go
set_option linter.unusedSimpArgs false
set_option linter.unusedVariables false
def Client.cells (c : Client) (y : Cell) : List Cell := [.int .i64 c.id, .int .i64 c.seq, .int .i64 c.chart.epoch, y, .bool c.chart.moving, .int .u64 c.chart.lo, .int .i64 c.chart.to, .bool c.busy, .int .i64 c.tries, .int .i64 c.ask.epoch, .int .i64 c.ask.op, .int .u64 c.ask.id, .int .u64 c.ask.amount, .int .i64 c.ask.tx]
def Client.takes (c : Client) (r : Reply) : Client := bif r.chart.good && decide (c.chart.epoch < r.chart.epoch) then { c with chart := r.chart } else c
def Client.off (c : Client) (r : Reply) : Bool := (r.client != c.id) || (!c.busy || (r.seq != c.seq))
def clientHear (c : Client) (r : Reply) : Client × Int :=
  bif c.good then (bif c.off r then (c.takes r, -2) else bif inR r.code 8 10 then (c.takes r, -1) else ((c.takes r).stop, bif decide (r.code < 0) then 11 else r.code)) else (c, -3)
theorem Client.takes_small {c : Client} (sm : c.Small) {r : Reply} (sr : r.Small) : (c.takes r).Small := by
  unfold Client.takes
  cases (r.chart.good && decide (c.chart.epoch < r.chart.epoch))
  · exact sm
  · exact sr
theorem clientHear_small {c : Client} (sm : c.Small) {r : Reply} (sr : r.Small) : (clientHear c r).1.Small := by
  have h := Client.takes_small sm sr
  unfold clientHear
  cases c.good <;> simp only [cond_true, cond_false]
  · exact sm
  cases c.off r <;> simp only [cond_true, cond_false]
  · cases inR r.code 8 10 <;> simp only [cond_true, cond_false]
    · exact h
    · exact h
  · exact h
section
variable {c : Client} {r : Reply}
theorem hear_bad (h : c.good = false) : clientHear c r = (c, -3) := by simp [clientHear, h]
theorem hear_off (h : c.good = true) (h2 : c.off r = true) : clientHear c r = (c.takes r, -2) := by simp [clientHear, h, h2]
theorem hear_again (h : c.good = true) (h2 : c.off r = false) (h3 : inR r.code 8 10 = true) : clientHear c r = (c.takes r, -1) := by simp [clientHear, h, h2, h3]
theorem hear_err (h : c.good = true) (h2 : c.off r = false) (h3 : inR r.code 8 10 = false) (h4 : r.code < 0) : clientHear c r = ((c.takes r).stop, 11) := by simp [clientHear, h, h2, h3, h4]
theorem hear_done (h : c.good = true) (h2 : c.off r = false) (h3 : inR r.code 8 10 = false) (h4 : ¬ r.code < 0) : clientHear c r = ((c.takes r).stop, r.code) := by simp [clientHear, h, h2, h3, h4]
theorem Client.takes_id : (c.takes r).id = c.id ∧ (c.takes r).seq = c.seq ∧ (c.takes r).busy = c.busy := by
  unfold Client.takes
  cases (r.chart.good && decide (c.chart.epoch < r.chart.epoch)) <;> exact ⟨rfl, rfl, rfl⟩
end
end Go.Proofs.Ytnedbeicpfdjjaa.A
/- Rows of data with memory of their own: read, and filled one by one. -/
namespace Go.Proofs.Ytnedbeicpfdjjaa.A
open Go
set_option linter.unusedSimpArgs false
set_option linter.unusedVariables false
section
variable {α : Type} {R : Rel α} {tag : Nat} {h : Heap} {x : Cell} {xs : List α} {fp : List Nat}
/-- One row of a slice. -/
theorem SlR.one (w : SlR tag R h x xs fp) {i : Nat} (hi : i < xs.length) : ∃ r f, (∀ j n, loadP h x.sid i j n = cut? r j n) ∧ R h r xs[i] f ∧ ∀ id, id ∈ f → id ∈ fp := by
  obtain ⟨r, f, h1, h2, h3⟩ := w.row hi
  exact ⟨r, f, fun j n => by simp [loadP, h1], h2, h3⟩
/-- Rows of which the first are filled. -/
structure Filled (R : Rel α) (h0 g : Heap) (o : Nat) (z : List Cell) (xs : List α) (i : Nat) (rows : List (List Cell)) (fps : List (List Nat)) : Prop where
  on : On h0 g
  ge : h0.next ≤ o
  lt : o < g.next
  get : g.get o = some rows
  len : rows.length = xs.length
  rel : AllR R g (rows.take i) (xs.take i) fps
  rest : ∀ j, i ≤ j → j < xs.length → rows[j]? = some z
  nd : fps.flatten.Nodup
  out : ∀ id, id ∈ fps.flatten → o < id
theorem AllR.snoc {h : Heap} : ∀ {rows : List (List Cell)} {xs : List α} {fps : List (List Nat)}, AllR R h rows xs fps → ∀ {r a f}, R h r a f → AllR R h (rows ++ [r]) (xs ++ [a]) (fps ++ [f])
  | [], [], [], _ => fun w => ⟨w, trivial⟩
  | _ :: _, _ :: _, _ :: _, ⟨w1, w⟩ => fun w2 => ⟨w1, w.snoc w2⟩
  | [], [], _ :: _, w => w.elim
  | [], _ :: _, _, w => w.elim
  | _ :: _, [], _, w => w.elim
  | _ :: _, _ :: _, [], w => w.elim
theorem Filled.start (h : Heap) (z : List Cell) (xs : List α) : Filled R h (h.push (List.replicate xs.length z)) h.next z xs 0 (List.replicate xs.length z) [] where
  on := On.push _ _
  ge := Nat.le_refl _
  lt := by rw [push_next]; omega
  get := push_get _ _
  len := by simp
  rel := trivial
  rest := fun j _ hj => by rw [List.getElem?_replicate, if_pos hj]
  nd := List.nodup_nil
  out := fun id hid => by simp at hid
/-- One more row. -/
theorem Filled.step (ok : RelOk R) {h0 g g' : Heap} {o : Nat} {z : List Cell} {i : Nat} {rows : List (List Cell)} {fps : List (List Nat)} (w : Filled R h0 g o z xs i rows fps) (hf : h0.floor ≤ h0.next) (hi : i < xs.length)
    {cs : List Cell} {fq : List Nat} (hz : cs.length = z.length) (o' : On g g') (v : R g' cs xs[i] fq) (f : Fre g fq) :
    storeP g' o i 0 cs = some (g'.put o (rows.set i cs)) ∧ Filled R h0 (g'.put o (rows.set i cs)) o z xs (i + 1) (rows.set i cs) (fps ++ [fq]) := by
  have hget : g'.get o = some rows := by rw [o'.ext.2 o w.lt]; exact w.get
  have hri : rows[i]? = some z := w.rest i (Nat.le_refl _) hi
  have hfl : g'.floor ≤ o := by rw [o'.fl, w.on.fl]; exact Nat.le_trans hf w.ge
  have hlen : i < rows.length := by rw [w.len]; exact hi
  have hput : ∀ id, id ≠ o → (g'.put o (rows.set i cs)).get id = g'.get id := fun id hid => by simp only [Heap.put]; rw [if_neg hid]
  have hin : ∀ id, id ∈ fps.flatten → id < g.next := by
    intro id hid
    exact w.rel.lt ok id hid
  refine ⟨?_, ?_⟩
  · refine storeP_at hfl hget hri ?_
    rw [splice?, if_pos (by omega)]
    simp [← hz]
  · refine ⟨⟨⟨Nat.le_trans w.on.ext.1 o'.ext.1, fun id hid => ?_⟩, o'.fl.trans w.on.fl⟩, w.ge, Nat.lt_of_lt_of_le w.lt o'.ext.1, by simp [Heap.put], by simp [w.len], ?_, fun j h1 h2 => ?_, ?_, fun id hid => ?_⟩
    · have := w.ge
      rw [hput id (by omega), o'.ext.2 id (Nat.lt_of_lt_of_le hid w.on.ext.1)]
      exact w.on.ext.2 id hid
    · have e1 : (rows.set i cs).take (i + 1) = rows.take i ++ [cs] := by
        rw [List.take_add_one, List.getElem?_set_self hlen]
        rw [List.take_set, List.set_eq_of_length_le (by simp; omega)]
        rfl
      have e2 : xs.take (i + 1) = xs.take i ++ [xs[i]] := by rw [List.take_add_one, List.getElem?_eq_getElem hi]; rfl
      rw [e1, e2]
      have v' : R (g'.put o (rows.set i cs)) cs xs[i] fq := ok.mv v (Nat.le_refl _) fun id hid => hput id (by have := f.lo id hid; have := w.lt; omega)
      refine AllR.snoc (w.rel.mv (h' := g'.put o (rows.set i cs)) ok o'.ext.1 fun id hid => ?_) v'
      rw [hput id (by have := w.out id hid; omega)]
      exact o'.ext.2 id (hin id hid)
    · rw [List.getElem?_set_ne (by omega)]
      exact w.rest j (by omega) h2
    · rw [List.flatten_append]
      simp only [List.flatten_cons, List.flatten_nil, List.append_nil]
      exact List.nodup_append.2 ⟨w.nd, f.nd, fun a ha b hb => by have := hin a ha; have := f.lo b hb; omega⟩
    · rw [List.flatten_append] at hid
      simp only [List.flatten_cons, List.flatten_nil, List.append_nil] at hid
      rcases List.mem_append.1 hid with hid | hid
      · exact w.out id hid
      · have := f.lo id hid
        have := w.lt
        omega
theorem Filled.all {h0 g : Heap} {o : Nat} {z : List Cell} {rows : List (List Cell)} {fps : List (List Nat)} (w : Filled R h0 g o z xs xs.length rows fps) (hl : xs.length ≤ 1048576) (tag : Nat) :
    On h0 g ∧ SlR tag R g (.sl tag o 0 xs.length) xs (o :: fps.flatten) ∧ Fre h0 (o :: fps.flatten) := by
  have hr := w.rel
  rw [List.take_length, ← w.len, List.take_length] at hr
  refine ⟨w.on, ⟨by unfold maxLen; omega, .inr ⟨o, rows, fps, rfl, w.get, w.lt, rfl, hr⟩⟩, ⟨fun id hid => ?_, ?_⟩⟩
  · have := w.ge
    rcases List.mem_cons.1 hid with rfl | hid
    · omega
    · have := w.out id hid; omega
  · exact List.nodup_cons.2 ⟨fun hc => by have := w.out o hc; omega, w.nd⟩
end
end Go.Proofs.Ytnedbeicpfdjjaa.A
/- Loops behind which the heap goes on. -/
namespace Go.Proofs.Ytnedbeicpfdjjaa.A
open Go
set_option linter.unusedSimpArgs false
set_option linter.unusedVariables false
/-- One turn goes on with a heap that goes on, or returns. -/
def TurnO (r : Option (Ex × St)) (next : Heap → Option (Ex × St)) (g : Heap) (p : Bool) (Q : St → Prop) : Prop :=
  (p = true ∧ ∃ g', On g g' ∧ r = next g') ∨ (p = false ∧ ∃ s', r = some (.ret, s') ∧ On g s'.hp ∧ Q s')
section
variable {F : Nat → Option RF} {Z : CallF} {live : List Nat} {b : RC}
theorem loop_on (n : Nat) (st : Nat → Heap → St) (h : Heap) (P : Nat → Bool) (Q : St → Prop)
    (hs : ∀ i g, i < n → On h g → TurnO (loop F Z live b (st i g)) (fun g' => loop F Z live b (st (i + 1) g')) g (P i) Q) :
    TurnO (loop F Z live b (st 0 h)) (fun g' => loop F Z live b (st n g')) h ((List.range n).all P) Q := by
  induction n with
  | zero => exact .inl ⟨rfl, h, On.refl h, rfl⟩
  | succ n ih =>
    have hl : (List.range (n + 1)).all P = ((List.range n).all P && P n) := by rw [List.range_succ, List.all_append]; simp
    rcases ih fun i g hi => hs i g (by omega) with ⟨h1, g1, o1, e1⟩ | ⟨h1, s', e1, o1, q1⟩
    · rcases hs n g1 (by omega) o1 with ⟨h3, g2, o2, e2⟩ | ⟨h3, s', e2, o2, q2⟩
      · exact .inl ⟨by rw [hl, h1, h3]; rfl, g2, o1.trans o2, e1.trans e2⟩
      · exact .inr ⟨by rw [hl, h1, h3]; rfl, s', e1.trans e2, o1.trans o2, q2⟩
    · exact .inr ⟨by rw [hl, h1]; rfl, s', e1, o1, q1⟩
end
theorem On.mkup {h h' : Heap} (o : On ⟨h.next, h.next, h.get⟩ h') : On h ⟨h'.next, h.floor, h'.get⟩ := ⟨⟨o.ext.1, o.ext.2⟩, rfl⟩
end Go.Proofs.Ytnedbeicpfdjjaa.A
/- Slices of data with memory: built by appending, and with one row turned. -/
namespace Go.Proofs.Ytnedbeicpfdjjaa.A
open Go
set_option linter.unusedSimpArgs false
set_option linter.unusedVariables false
theorem push_ne {h : Heap} (r : List (List Cell)) {id : Nat} (hid : id ≠ h.next) : (h.push r).get id = h.get id := by simp only [Heap.push]; rw [if_neg hid]
theorem kill_ne {h : Heap} {k id : Nat} (hid : id ≠ k) : (h.kill k).get id = h.get id := by simp only [Heap.kill]; rw [if_neg hid]
theorem put_ne {h : Heap} {k id : Nat} (r : List (List Cell)) (hid : id ≠ k) : (h.put k r).get id = h.get id := by simp only [Heap.put]; rw [if_neg hid]
theorem kill_next (h : Heap) (k : Nat) : (h.kill k).next = h.next := rfl
/-- A cell shows data that was made behind h0. -/
structure AccM {α : Type} (R : Rel α) (tag : Nat) (h0 h : Heap) (x : Cell) (xs : List α) (fp : List Nat) : Prop where
  on : On h0 h
  sh : SlR tag R h x xs fp
  fr : Fre h0 fp
section
variable {α : Type} {R : Rel α} {tag : Nat} {h0 h g : Heap} {x : Cell} {xs : List α} {fp fq : List Nat}
theorem AccM.nil (R : Rel α) (tag : Nat) (h : Heap) : AccM R tag h h .nil [] [] := ⟨On.refl h, SlR.nil _ _ _, Fre.nil h⟩
theorem AccM.none (R : Rel α) (tag : Nat) (o : On h0 h) : AccM R tag h0 h .nil [] [] := ⟨o, SlR.nil _ _ _, Fre.nil h0⟩
theorem AccM.lit0 (R : Rel α) (tag : Nat) (o : On h0 h) : AccM R tag h0 (h.push []) (.sl tag h.next 0 0) [] [h.next] :=
  ⟨o.trans (On.push h []), ⟨by simp, .inr ⟨h.next, [], [], rfl, push_get _ _, by rw [push_next]; omega, rfl, trivial⟩⟩, Fre.at o.ext.1⟩
theorem AccM.go (a : AccM R tag h0 h x xs fp) (ok : RelOk R) (o : On h g) : AccM R tag h0 g x xs fp := ⟨a.on.trans o, a.sh.on ok o, a.fr⟩
theorem Fre.gt (f : Fre h0 fp) : ∀ id, id < h0.next → id ∉ fp := fun id h1 h2 => by have := f.lo id h2; omega
theorem Fre.sep {p q : List Nat} (f : Fre h0 p) (hp : ∀ id, id ∈ p → id < h.next) (g : Fre h q) : ∀ id, id ∈ q → id ∉ p := fun id h1 h2 => by
  have := hp id h2
  have := g.lo id h1
  omega
theorem flat_snoc {fps : List (List Nat)} {fq : List Nat} : (fps ++ [fq]).flatten = fps.flatten ++ fq := by simp
/-- One more element. -/
theorem AccM.one (ok : RelOk R) (a : AccM R tag h0 h x xs fp) (hf : h0.floor ≤ h0.next) {bytes : Nat} (hb : (xs.length + 1) * bytes ≤ 140737488355328) (hl : xs.length + 1 ≤ 140737488355328)
    (o : On h g) {cs : List Cell} {t : α} (v : R g cs t fq) (f : Fre h0 fq) (d : ∀ id, id ∈ fq → id ∉ fp) :
    ∃ y' g' fp', appF (g.push [cs]) tag bytes x (.sl tag g.next 0 1) = some (y', g') ∧ AccM R tag h0 g' y' (xs ++ [t]) fp' ∧ h.next ≤ g'.next ∧ (∀ id, id ∈ fp' → id ∈ fp ∨ id ∈ fq ∨ g.next ≤ id) ∧ (∀ id, id < g.next → id ∉ fp → g'.get id = g.get id) := by
  have on' := a.on.trans o
  have hlt : ∀ id, id ∈ fq → id < g.next := ok.lt v
  have hp1 : ∀ id, id < g.next → (g.push [cs]).get id = g.get id := fun id hid => by simp only [Heap.push]; rw [if_neg (by omega)]
  have hn := o.ext.1
  rcases a.sh with ⟨_, ⟨rfl, rfl, rfl⟩ | ⟨id, rows, fps, rfl, q1, q2, rfl, q3⟩⟩
  · refine ⟨.sl tag (g.next + 1) 0 1, (g.push [cs]).push [cs], (g.next + 1) :: ([fq] : List (List Nat)).flatten, ?_, ⟨on'.trans ((On.push _ _).trans (On.push _ _)), ⟨by simp [maxLen], .inr ⟨g.next + 1, [cs], [fq], rfl, ?_, ?_, rfl, ?_⟩⟩, ⟨?_, ?_⟩⟩, ?_, ?_, ?_⟩
    · simp only [List.length_nil, Nat.zero_add] at hb
      simp only [appF, isTag, beq_self_eq_true, ↓reduceIte, rowsOf, push_get, Option.bind_some, List.length_singleton, Nat.zero_add, Nat.le_refl, List.drop_zero, List.take_one, List.head?_cons, Option.toList_some]
      rw [if_neg (by omega), if_pos (by omega)]; rfl
    · exact push_get _ _
    · simp only [push_next]; omega
    · refine ⟨ok.mv v (by simp only [push_next]; omega) fun id hid => ?_, trivial⟩
      have := hlt id hid
      rw [push_ne _ (by rw [push_next]; omega), push_ne _ (by omega)]
    · intro id hid
      simp only [List.flatten_cons, List.flatten_nil, List.append_nil, List.mem_cons] at hid
      rcases hid with rfl | hid
      · have := on'.ext.1; omega
      · exact f.lo id hid
    · simp only [List.flatten_cons, List.flatten_nil, List.append_nil, List.nodup_cons]
      exact ⟨fun hc => by have := hlt _ hc; omega, f.nd⟩
    · simp only [push_next]; omega
    · intro id hid
      simp only [List.flatten_cons, List.flatten_nil, List.append_nil, List.mem_cons] at hid
      rcases hid with rfl | hid
      · exact .inr (.inr (by omega))
      · exact .inr (.inl hid)
    · intro id h1 _
      rw [push_ne _ (by rw [push_next]; omega), push_ne _ (by omega)]
  · have hlo : h0.next ≤ id := a.fr.lo id (by simp)
    have hnd := List.nodup_cons.1 a.fr.nd
    have hrl := q3.len
    have hg : (g.push [cs]).get id = some rows := by rw [hp1 id (by omega), o.ext.2 id q2, q1]
    have hfl : g.floor ≤ id := by rw [on'.fl]; omega
    have hin : ∀ j, j ∈ fps.flatten → j < h.next := q3.lt ok
    have hgt : ∀ j, j < g.next → j ≠ id → (((g.push [cs]).kill id).push (rows ++ [cs])).get j = g.get j := fun j h1 h2 => by
      rw [push_ne _ (by rw [kill_next, push_next]; omega), kill_ne h2, push_ne _ (by omega)]
    refine ⟨.sl tag (g.next + 1) 0 (xs.length + 1), ((g.push [cs]).kill id).push (rows ++ [cs]), (g.next + 1) :: (fps ++ [fq]).flatten, ?_, ⟨⟨⟨?_, ?_⟩, ?_⟩, ⟨by simp [maxLen]; omega, .inr ⟨g.next + 1, rows ++ [cs], fps ++ [fq], by simp, ?_, ?_, rfl, ?_⟩⟩, ⟨?_, ?_⟩⟩, ?_, ?_, ?_⟩
    · simp only [appF, isTag, beq_self_eq_true, ↓reduceIte, rowsOf, push_get, Option.bind_some, List.length_singleton, Nat.zero_add, Nat.le_refl, List.drop_zero, List.take_one, List.head?_cons, Option.toList_some, hg]
      simp only [hrl, push_floor, hfl, hb, and_self, ↓reduceIte]; rfl
    · have := on'.ext.1
      simp only [Heap.push, Heap.kill]; omega
    · intro j hj
      have := on'.ext.1
      rw [hgt j (by omega) (by omega)]
      exact on'.ext.2 j hj
    · exact on'.fl
    · simp [Heap.push, Heap.kill]
    · simp only [Heap.push, Heap.kill]; omega
    · refine AllR.snoc (q3.mv (h' := ((g.push [cs]).kill id).push (rows ++ [cs])) ok (by simp only [Heap.push, Heap.kill]; omega) fun j hj => ?_) (ok.mv v (by simp only [Heap.push, Heap.kill]; omega) fun j hj => ?_)
      · have h1 := hin j hj
        rw [hgt j (by omega) (fun e => hnd.1 (e ▸ hj))]
        exact o.ext.2 j h1
      · exact hgt j (hlt j hj) fun e => d j hj (by rw [e]; simp)
    · intro j hj
      rw [flat_snoc] at hj
      rcases List.mem_cons.1 hj with rfl | hj
      · have := on'.ext.1; omega
      · rcases List.mem_append.1 hj with hj | hj
        · exact a.fr.lo j (by simp [hj])
        · exact f.lo j hj
    · rw [flat_snoc, List.nodup_cons]
      refine ⟨fun hc => ?_, List.nodup_append.2 ⟨hnd.2, f.nd, fun p hp q hq e => d q hq (by rw [← e]; simp [hp])⟩⟩
      rcases List.mem_append.1 hc with hc | hc
      · have := hin _ hc; omega
      · have := hlt _ hc; omega
    · simp only [Heap.push, Heap.kill]; omega
    · intro j hj
      rw [flat_snoc] at hj
      rcases List.mem_cons.1 hj with rfl | hj
      · exact .inr (.inr (by omega))
      · rcases List.mem_append.1 hj with hj | hj
        · exact .inl (by simp [hj])
        · exact .inr (.inl hj)
    · intro j h1 h2
      exact hgt j h1 fun e => h2 (by rw [e]; simp)
end
end Go.Proofs.Ytnedbeicpfdjjaa.A
/- A client hears a reply: by the program and by the reference. -/
namespace Go.Proofs.Ytnedbeicpfdjjaa.A
open Go
set_option linter.unusedSimpArgs false
set_option linter.unusedVariables false
section
variable {F : Nat → Option RF} {Z : CallF} {h : Heap} {cs ds : List Cell} {c : Client} {r : Reply} {fp fq : List Nat}
set_option maxHeartbeats 4000000 in
theorem ClientHear_c (hI11 : Has F tI11) (hI12 : Has F tI12) (hI16 : Has F tI16) (hLi : Has F tLibslicesIndexFuncimplRangeimplRange) (hf : h.floor ≤ h.next) (v : Client.RI h cs c fp) (u : Reply.RI h ds r fq) (ok : c.Ok) (sm : c.Small) (okr : r.Ok) (smr : r.Small) :
    ∃ cs' h' fq, call F Z 176 [.agg cs, .agg ds] h = some (.tup [.agg cs', .c (.int .i64 (clientHear c r).2)], h') ∧ On h h' ∧ Client.RI h' cs' (clientHear c r).1 fq ∧ Fre h fq := by
  obtain ⟨_, h1, _, e1, o1, ⟨y, q, rfl, rfl, u1⟩, f⟩ := copyClient_c (Z := Z) hI12 hI16 hf v sm
  have f1 := o1.le hf
  have st : ∀ old new : List Cell, old.length = 14 → new.length = 14 → storeP (h1.push [old]) h1.next 0 0 new = some (h1.push [new]) := fun old new q1 q2 => storeP_push (rows := [old]) (i := 0) f1 rfl (by omega)
  have op : On h1 (h1.push [c.cells y]) := On.push _ _
  obtain ⟨h2, e2, o2⟩ := isClient_run (Z := Z) (h := h1.push [c.cells y]) hI11 hI12 hI16 hLi (Client.okI.on v (o1.trans op)) ok.chart
  have o02 := (o1.trans op).trans o2
  obtain ⟨xr, pr, rfl, rfl, wr⟩ := u
  have vr : Chart.RI h [.int .i64 r.chart.epoch, xr, .bool r.chart.moving, .int .u64 r.chart.lo, .int .i64 r.chart.to] r.chart _ := ⟨xr, _, rfl, rfl, wr⟩
  obtain ⟨h3, e3, o3⟩ := isChart_run (Z := Z) hI11 hI12 hLi (Chart.okI.on vr o02) okr.chart
  have hg2 : h2.get h1.next = some [c.cells y] := by
    rw [o2.ext.2 _ (by rw [push_next]; omega)]; exact push_get _ _
  have lt2 : h1.next < h2.next := by have := o2.ext.1; rw [push_next] at this; omega
  have hg3 : h3.get h1.next = some [c.cells y] := by rw [o3.ext.2 _ lt2]; exact hg2
  have lg2 := fun j n => loadP_get1 hg2 j n
  have o03 := o02.trans o3
  have o13 := (op.trans o2).trans o3
  have h1n := o1.ext.1
  have hw8 : inR r.code 8 10 = true → (r.code == 8) = true ∨ ((r.code == 8) = false ∧ (r.code == 9) = true) ∨ ((r.code == 8) = false ∧ (r.code == 9) = false ∧ (r.code == 10) = true) := fun hi => by
    simp only [inR, Bool.and_eq_true, decide_eq_true_eq] at hi
    rcases (by omega : r.code = 8 ∨ r.code = 9 ∨ r.code = 10) with q | q | q <;> simp [q]
  have hn8 : inR r.code 8 10 = false → (r.code == 8) = false ∧ (r.code == 9) = false ∧ (r.code == 10) = false := fun hi => by
    have hi' : ¬ (8 ≤ r.code ∧ r.code ≤ 10) := fun hc => by simp [inR, hc.1, hc.2] at hi
    refine ⟨?_, ?_, ?_⟩ <;> simp <;> omega
  obtain ⟨x, p, rfl, rfl, w⟩ := v
  simp only [Client.cells] at *
  rw [call_run F Z (hI16.lk (g := 176) rfl) _ _ rfl]
  cases hgd : c.good with
  | false =>
    rw [hgd] at e2
    rw [hear_bad hgd]
    simp only [run0, run1, run2, run3, run4, noSlot, ownS, ownK, memN, RO.dst, lk, drop, forget, number, Nat.reduceBEq, cut?, splice?, builds, List.length_cons, List.length_nil, List.drop_succ_cons, List.drop_zero, List.take_succ_cons, List.take_zero, List.cons_append, List.nil_append, List.append_nil, List.drop_nil, List.take_nil, Nat.reduceAdd, Nat.reduceLeDiff, Nat.zero_add, Nat.add_zero, ↓reduceIte, Bool.not_true, Bool.not_false, decide_true, decide_false, eq_self, bne_self_eq_false, List.getElem?_cons_zero, List.getElem?_cons_succ, decide_eq_true_eq, Bool.false_eq_true, Bool.true_eq_false, reduceCtorEq, Nat.le_refl, e1, st, e2, lg2]
    exact ⟨_, _, _, rfl, o02, ⟨y, _, rfl, rfl, u1.on (Fl.ok _) (op.trans o2)⟩, f⟩
  | true =>
    rw [hgd] at e2
    cases hrg : r.chart.good with
    | false =>
      rw [hrg] at e3
      have hD : c.takes r = c := by simp [Client.takes, hrg]
      have hgT : h3.get h1.next = some [c.cells y] := hg3
      have hfT : h3.floor ≤ h1.next := by rw [o03.fl]; exact Nat.le_trans hf h1n
      have es := stop_run (Z := Z) (c := c) hI16 hfT hgT
      have lgT := fun j n => loadP_get1 hgT j n
      simp only [Client.cells] at lgT es
      by_cases hb : c.busy = true
      case neg =>
        replace hb : c.busy = false := by simpa using hb
        have hnb : (!c.busy) = true := by simp [hb]
        have hoff : c.off r = true := by simp [Client.off, hb]
        rw [hear_off hgd hoff, hD]
        cases a1 : (r.client != c.id) <;> (simp only [run0, run1, run2, run3, run4, noSlot, ownS, ownK, memN, RO.dst, lk, drop, forget, number, Nat.reduceBEq, cut?, splice?, builds, List.length_cons, List.length_nil, List.drop_succ_cons, List.drop_zero, List.take_succ_cons, List.take_zero, List.cons_append, List.nil_append, List.append_nil, List.drop_nil, List.take_nil, Nat.reduceAdd, Nat.reduceLeDiff, Nat.zero_add, Nat.add_zero, ↓reduceIte, Bool.not_true, Bool.not_false, decide_true, decide_false, eq_self, bne_self_eq_false, List.getElem?_cons_zero, List.getElem?_cons_succ, decide_eq_true_eq, Bool.false_eq_true, Bool.true_eq_false, reduceCtorEq, Nat.le_refl, e1, st, e2, lg2, e3, hnb, a1, hgd, lgT]; exact ⟨_, _, _, rfl, o03, ⟨y, _, rfl, rfl, u1.on (Fl.ok _) o13⟩, f⟩)
      case pos =>
        have hnb : (!c.busy) = false := by simp [hb]
        cases a1 : (r.client != c.id) with
        | true =>
          have hoff : c.off r = true := by simp [Client.off, a1]
          rw [hear_off hgd hoff, hD]
          simp only [run0, run1, run2, run3, run4, noSlot, ownS, ownK, memN, RO.dst, lk, drop, forget, number, Nat.reduceBEq, cut?, splice?, builds, List.length_cons, List.length_nil, List.drop_succ_cons, List.drop_zero, List.take_succ_cons, List.take_zero, List.cons_append, List.nil_append, List.append_nil, List.drop_nil, List.take_nil, Nat.reduceAdd, Nat.reduceLeDiff, Nat.zero_add, Nat.add_zero, ↓reduceIte, Bool.not_true, Bool.not_false, decide_true, decide_false, eq_self, bne_self_eq_false, List.getElem?_cons_zero, List.getElem?_cons_succ, decide_eq_true_eq, Bool.false_eq_true, Bool.true_eq_false, reduceCtorEq, Nat.le_refl, e1, st, e2, lg2, e3, hnb, a1, hgd, lgT]
          exact ⟨_, _, _, rfl, o03, ⟨y, _, rfl, rfl, u1.on (Fl.ok _) o13⟩, f⟩
        | false =>
          cases a2 : (r.seq != c.seq) with
          | true =>
            have hoff : c.off r = true := by simp [Client.off, a2]
            rw [hear_off hgd hoff, hD]
            simp only [run0, run1, run2, run3, run4, noSlot, ownS, ownK, memN, RO.dst, lk, drop, forget, number, Nat.reduceBEq, cut?, splice?, builds, List.length_cons, List.length_nil, List.drop_succ_cons, List.drop_zero, List.take_succ_cons, List.take_zero, List.cons_append, List.nil_append, List.append_nil, List.drop_nil, List.take_nil, Nat.reduceAdd, Nat.reduceLeDiff, Nat.zero_add, Nat.add_zero, ↓reduceIte, Bool.not_true, Bool.not_false, decide_true, decide_false, eq_self, bne_self_eq_false, List.getElem?_cons_zero, List.getElem?_cons_succ, decide_eq_true_eq, Bool.false_eq_true, Bool.true_eq_false, reduceCtorEq, Nat.le_refl, e1, st, e2, lg2, e3, hnb, a1, a2, hgd, lgT]
            exact ⟨_, _, _, rfl, o03, ⟨y, _, rfl, rfl, u1.on (Fl.ok _) o13⟩, f⟩
          | false =>
            have hoff : c.off r = false := by simp [Client.off, a1, a2, hb]
            cases hi : inR r.code 8 10 with
            | true =>
              rw [hear_again hgd hoff hi, hD]
              rcases hw8 hi with k1 | ⟨k1, k2⟩ | ⟨k1, k2, k3⟩
              · simp only [run0, run1, run2, run3, run4, noSlot, ownS, ownK, memN, RO.dst, lk, drop, forget, number, Nat.reduceBEq, cut?, splice?, builds, List.length_cons, List.length_nil, List.drop_succ_cons, List.drop_zero, List.take_succ_cons, List.take_zero, List.cons_append, List.nil_append, List.append_nil, List.drop_nil, List.take_nil, Nat.reduceAdd, Nat.reduceLeDiff, Nat.zero_add, Nat.add_zero, ↓reduceIte, Bool.not_true, Bool.not_false, decide_true, decide_false, eq_self, bne_self_eq_false, List.getElem?_cons_zero, List.getElem?_cons_succ, decide_eq_true_eq, Bool.false_eq_true, Bool.true_eq_false, reduceCtorEq, Nat.le_refl, e1, st, e2, lg2, e3, hnb, a1, a2, hgd, lgT, k1]
                exact ⟨_, _, _, rfl, o03, ⟨y, _, rfl, rfl, u1.on (Fl.ok _) o13⟩, f⟩
              · simp only [run0, run1, run2, run3, run4, noSlot, ownS, ownK, memN, RO.dst, lk, drop, forget, number, Nat.reduceBEq, cut?, splice?, builds, List.length_cons, List.length_nil, List.drop_succ_cons, List.drop_zero, List.take_succ_cons, List.take_zero, List.cons_append, List.nil_append, List.append_nil, List.drop_nil, List.take_nil, Nat.reduceAdd, Nat.reduceLeDiff, Nat.zero_add, Nat.add_zero, ↓reduceIte, Bool.not_true, Bool.not_false, decide_true, decide_false, eq_self, bne_self_eq_false, List.getElem?_cons_zero, List.getElem?_cons_succ, decide_eq_true_eq, Bool.false_eq_true, Bool.true_eq_false, reduceCtorEq, Nat.le_refl, e1, st, e2, lg2, e3, hnb, a1, a2, hgd, lgT, k1, k2]
                exact ⟨_, _, _, rfl, o03, ⟨y, _, rfl, rfl, u1.on (Fl.ok _) o13⟩, f⟩
              · simp only [run0, run1, run2, run3, run4, noSlot, ownS, ownK, memN, RO.dst, lk, drop, forget, number, Nat.reduceBEq, cut?, splice?, builds, List.length_cons, List.length_nil, List.drop_succ_cons, List.drop_zero, List.take_succ_cons, List.take_zero, List.cons_append, List.nil_append, List.append_nil, List.drop_nil, List.take_nil, Nat.reduceAdd, Nat.reduceLeDiff, Nat.zero_add, Nat.add_zero, ↓reduceIte, Bool.not_true, Bool.not_false, decide_true, decide_false, eq_self, bne_self_eq_false, List.getElem?_cons_zero, List.getElem?_cons_succ, decide_eq_true_eq, Bool.false_eq_true, Bool.true_eq_false, reduceCtorEq, Nat.le_refl, e1, st, e2, lg2, e3, hnb, a1, a2, hgd, lgT, k1, k2, k3]
                exact ⟨_, _, _, rfl, o03, ⟨y, _, rfl, rfl, u1.on (Fl.ok _) o13⟩, f⟩
            | false =>
              obtain ⟨k1, k2, k3⟩ := hn8 hi
              by_cases k4 : r.code < 0
              · rw [hear_err hgd hoff hi k4, hD]
                simp only [run0, run1, run2, run3, run4, noSlot, ownS, ownK, memN, RO.dst, lk, drop, forget, number, Nat.reduceBEq, cut?, splice?, builds, List.length_cons, List.length_nil, List.drop_succ_cons, List.drop_zero, List.take_succ_cons, List.take_zero, List.cons_append, List.nil_append, List.append_nil, List.drop_nil, List.take_nil, Nat.reduceAdd, Nat.reduceLeDiff, Nat.zero_add, Nat.add_zero, ↓reduceIte, Bool.not_true, Bool.not_false, decide_true, decide_false, eq_self, bne_self_eq_false, List.getElem?_cons_zero, List.getElem?_cons_succ, decide_eq_true_eq, Bool.false_eq_true, Bool.true_eq_false, reduceCtorEq, Nat.le_refl, e1, st, e2, lg2, e3, hnb, a1, a2, hgd, lgT, k1, k2, k3, es, k4, loadP_put1]
                exact ⟨_, _, _, rfl, o03.put (by omega) _, ⟨y, _, rfl, rfl, (u1.on (Fl.ok _) o13).mv (Fl.ok _) (Nat.le_refl _) fun id hid => put_ne _ (by have := u1.lt (Fl.ok _) id hid; omega)⟩, f⟩
              · rw [hear_done hgd hoff hi k4, hD]
                simp only [run0, run1, run2, run3, run4, noSlot, ownS, ownK, memN, RO.dst, lk, drop, forget, number, Nat.reduceBEq, cut?, splice?, builds, List.length_cons, List.length_nil, List.drop_succ_cons, List.drop_zero, List.take_succ_cons, List.take_zero, List.cons_append, List.nil_append, List.append_nil, List.drop_nil, List.take_nil, Nat.reduceAdd, Nat.reduceLeDiff, Nat.zero_add, Nat.add_zero, ↓reduceIte, Bool.not_true, Bool.not_false, decide_true, decide_false, eq_self, bne_self_eq_false, List.getElem?_cons_zero, List.getElem?_cons_succ, decide_eq_true_eq, Bool.false_eq_true, Bool.true_eq_false, reduceCtorEq, Nat.le_refl, e1, st, e2, lg2, e3, hnb, a1, a2, hgd, lgT, k1, k2, k3, es, k4, loadP_put1]
                exact ⟨_, _, _, rfl, o03.put (by omega) _, ⟨y, _, rfl, rfl, (u1.on (Fl.ok _) o13).mv (Fl.ok _) (Nat.le_refl _) fun id hid => put_ne _ (by have := u1.lt (Fl.ok _) id hid; omega)⟩, f⟩
    | true =>
      rw [hrg] at e3
      by_cases hgt : r.chart.epoch > c.chart.epoch
      case neg =>
        have hlt : ¬ c.chart.epoch < r.chart.epoch := hgt
        have hD : c.takes r = c := by simp [Client.takes, hrg, hlt]
        have hgT : h3.get h1.next = some [c.cells y] := hg3
        have hfT : h3.floor ≤ h1.next := by rw [o03.fl]; exact Nat.le_trans hf h1n
        have es := stop_run (Z := Z) (c := c) hI16 hfT hgT
        have lgT := fun j n => loadP_get1 hgT j n
        simp only [Client.cells] at lgT es
        by_cases hb : c.busy = true
        case neg =>
          replace hb : c.busy = false := by simpa using hb
          have hnb : (!c.busy) = true := by simp [hb]
          have hoff : c.off r = true := by simp [Client.off, hb]
          rw [hear_off hgd hoff, hD]
          cases a1 : (r.client != c.id) <;> (simp only [run0, run1, run2, run3, run4, noSlot, ownS, ownK, memN, RO.dst, lk, drop, forget, number, Nat.reduceBEq, cut?, splice?, builds, List.length_cons, List.length_nil, List.drop_succ_cons, List.drop_zero, List.take_succ_cons, List.take_zero, List.cons_append, List.nil_append, List.append_nil, List.drop_nil, List.take_nil, Nat.reduceAdd, Nat.reduceLeDiff, Nat.zero_add, Nat.add_zero, ↓reduceIte, Bool.not_true, Bool.not_false, decide_true, decide_false, eq_self, bne_self_eq_false, List.getElem?_cons_zero, List.getElem?_cons_succ, decide_eq_true_eq, Bool.false_eq_true, Bool.true_eq_false, reduceCtorEq, Nat.le_refl, e1, st, e2, lg2, e3, hnb, a1, hgt, lgT]; exact ⟨_, _, _, rfl, o03, ⟨y, _, rfl, rfl, u1.on (Fl.ok _) o13⟩, f⟩)
        case pos =>
          have hnb : (!c.busy) = false := by simp [hb]
          cases a1 : (r.client != c.id) with
          | true =>
            have hoff : c.off r = true := by simp [Client.off, a1]
            rw [hear_off hgd hoff, hD]
            simp only [run0, run1, run2, run3, run4, noSlot, ownS, ownK, memN, RO.dst, lk, drop, forget, number, Nat.reduceBEq, cut?, splice?, builds, List.length_cons, List.length_nil, List.drop_succ_cons, List.drop_zero, List.take_succ_cons, List.take_zero, List.cons_append, List.nil_append, List.append_nil, List.drop_nil, List.take_nil, Nat.reduceAdd, Nat.reduceLeDiff, Nat.zero_add, Nat.add_zero, ↓reduceIte, Bool.not_true, Bool.not_false, decide_true, decide_false, eq_self, bne_self_eq_false, List.getElem?_cons_zero, List.getElem?_cons_succ, decide_eq_true_eq, Bool.false_eq_true, Bool.true_eq_false, reduceCtorEq, Nat.le_refl, e1, st, e2, lg2, e3, hnb, a1, hgt, lgT]
            exact ⟨_, _, _, rfl, o03, ⟨y, _, rfl, rfl, u1.on (Fl.ok _) o13⟩, f⟩
          | false =>
            cases a2 : (r.seq != c.seq) with
            | true =>
              have hoff : c.off r = true := by simp [Client.off, a2]
              rw [hear_off hgd hoff, hD]
              simp only [run0, run1, run2, run3, run4, noSlot, ownS, ownK, memN, RO.dst, lk, drop, forget, number, Nat.reduceBEq, cut?, splice?, builds, List.length_cons, List.length_nil, List.drop_succ_cons, List.drop_zero, List.take_succ_cons, List.take_zero, List.cons_append, List.nil_append, List.append_nil, List.drop_nil, List.take_nil, Nat.reduceAdd, Nat.reduceLeDiff, Nat.zero_add, Nat.add_zero, ↓reduceIte, Bool.not_true, Bool.not_false, decide_true, decide_false, eq_self, bne_self_eq_false, List.getElem?_cons_zero, List.getElem?_cons_succ, decide_eq_true_eq, Bool.false_eq_true, Bool.true_eq_false, reduceCtorEq, Nat.le_refl, e1, st, e2, lg2, e3, hnb, a1, a2, hgt, lgT]
              exact ⟨_, _, _, rfl, o03, ⟨y, _, rfl, rfl, u1.on (Fl.ok _) o13⟩, f⟩
            | false =>
              have hoff : c.off r = false := by simp [Client.off, a1, a2, hb]
              cases hi : inR r.code 8 10 with
              | true =>
                rw [hear_again hgd hoff hi, hD]
                rcases hw8 hi with k1 | ⟨k1, k2⟩ | ⟨k1, k2, k3⟩
                · simp only [run0, run1, run2, run3, run4, noSlot, ownS, ownK, memN, RO.dst, lk, drop, forget, number, Nat.reduceBEq, cut?, splice?, builds, List.length_cons, List.length_nil, List.drop_succ_cons, List.drop_zero, List.take_succ_cons, List.take_zero, List.cons_append, List.nil_append, List.append_nil, List.drop_nil, List.take_nil, Nat.reduceAdd, Nat.reduceLeDiff, Nat.zero_add, Nat.add_zero, ↓reduceIte, Bool.not_true, Bool.not_false, decide_true, decide_false, eq_self, bne_self_eq_false, List.getElem?_cons_zero, List.getElem?_cons_succ, decide_eq_true_eq, Bool.false_eq_true, Bool.true_eq_false, reduceCtorEq, Nat.le_refl, e1, st, e2, lg2, e3, hnb, a1, a2, hgt, lgT, k1]
                  exact ⟨_, _, _, rfl, o03, ⟨y, _, rfl, rfl, u1.on (Fl.ok _) o13⟩, f⟩
                · simp only [run0, run1, run2, run3, run4, noSlot, ownS, ownK, memN, RO.dst, lk, drop, forget, number, Nat.reduceBEq, cut?, splice?, builds, List.length_cons, List.length_nil, List.drop_succ_cons, List.drop_zero, List.take_succ_cons, List.take_zero, List.cons_append, List.nil_append, List.append_nil, List.drop_nil, List.take_nil, Nat.reduceAdd, Nat.reduceLeDiff, Nat.zero_add, Nat.add_zero, ↓reduceIte, Bool.not_true, Bool.not_false, decide_true, decide_false, eq_self, bne_self_eq_false, List.getElem?_cons_zero, List.getElem?_cons_succ, decide_eq_true_eq, Bool.false_eq_true, Bool.true_eq_false, reduceCtorEq, Nat.le_refl, e1, st, e2, lg2, e3, hnb, a1, a2, hgt, lgT, k1, k2]
                  exact ⟨_, _, _, rfl, o03, ⟨y, _, rfl, rfl, u1.on (Fl.ok _) o13⟩, f⟩
                · simp only [run0, run1, run2, run3, run4, noSlot, ownS, ownK, memN, RO.dst, lk, drop, forget, number, Nat.reduceBEq, cut?, splice?, builds, List.length_cons, List.length_nil, List.drop_succ_cons, List.drop_zero, List.take_succ_cons, List.take_zero, List.cons_append, List.nil_append, List.append_nil, List.drop_nil, List.take_nil, Nat.reduceAdd, Nat.reduceLeDiff, Nat.zero_add, Nat.add_zero, ↓reduceIte, Bool.not_true, Bool.not_false, decide_true, decide_false, eq_self, bne_self_eq_false, List.getElem?_cons_zero, List.getElem?_cons_succ, decide_eq_true_eq, Bool.false_eq_true, Bool.true_eq_false, reduceCtorEq, Nat.le_refl, e1, st, e2, lg2, e3, hnb, a1, a2, hgt, lgT, k1, k2, k3]
                  exact ⟨_, _, _, rfl, o03, ⟨y, _, rfl, rfl, u1.on (Fl.ok _) o13⟩, f⟩
              | false =>
                obtain ⟨k1, k2, k3⟩ := hn8 hi
                by_cases k4 : r.code < 0
                · rw [hear_err hgd hoff hi k4, hD]
                  simp only [run0, run1, run2, run3, run4, noSlot, ownS, ownK, memN, RO.dst, lk, drop, forget, number, Nat.reduceBEq, cut?, splice?, builds, List.length_cons, List.length_nil, List.drop_succ_cons, List.drop_zero, List.take_succ_cons, List.take_zero, List.cons_append, List.nil_append, List.append_nil, List.drop_nil, List.take_nil, Nat.reduceAdd, Nat.reduceLeDiff, Nat.zero_add, Nat.add_zero, ↓reduceIte, Bool.not_true, Bool.not_false, decide_true, decide_false, eq_self, bne_self_eq_false, List.getElem?_cons_zero, List.getElem?_cons_succ, decide_eq_true_eq, Bool.false_eq_true, Bool.true_eq_false, reduceCtorEq, Nat.le_refl, e1, st, e2, lg2, e3, hnb, a1, a2, hgt, lgT, k1, k2, k3, es, k4, loadP_put1]
                  exact ⟨_, _, _, rfl, o03.put (by omega) _, ⟨y, _, rfl, rfl, (u1.on (Fl.ok _) o13).mv (Fl.ok _) (Nat.le_refl _) fun id hid => put_ne _ (by have := u1.lt (Fl.ok _) id hid; omega)⟩, f⟩
                · rw [hear_done hgd hoff hi k4, hD]
                  simp only [run0, run1, run2, run3, run4, noSlot, ownS, ownK, memN, RO.dst, lk, drop, forget, number, Nat.reduceBEq, cut?, splice?, builds, List.length_cons, List.length_nil, List.drop_succ_cons, List.drop_zero, List.take_succ_cons, List.take_zero, List.cons_append, List.nil_append, List.append_nil, List.drop_nil, List.take_nil, Nat.reduceAdd, Nat.reduceLeDiff, Nat.zero_add, Nat.add_zero, ↓reduceIte, Bool.not_true, Bool.not_false, decide_true, decide_false, eq_self, bne_self_eq_false, List.getElem?_cons_zero, List.getElem?_cons_succ, decide_eq_true_eq, Bool.false_eq_true, Bool.true_eq_false, reduceCtorEq, Nat.le_refl, e1, st, e2, lg2, e3, hnb, a1, a2, hgt, lgT, k1, k2, k3, es, k4, loadP_put1]
                  exact ⟨_, _, _, rfl, o03.put (by omega) _, ⟨y, _, rfl, rfl, (u1.on (Fl.ok _) o13).mv (Fl.ok _) (Nat.le_refl _) fun id hid => put_ne _ (by have := u1.lt (Fl.ok _) id hid; omega)⟩, f⟩
      case pos =>
        have hD : c.takes r = { c with chart := r.chart } := by
          have : c.chart.epoch < r.chart.epoch := hgt
          simp [Client.takes, hrg, this]
        obtain ⟨_, h4, q4, e4, o4, ⟨z, _, rfl, rfl, u4⟩, f4⟩ := copyChart_c (Z := Z) hI12 (o03.le hf) (Chart.okI.on vr o03) smr
        have lt3 : h1.next < h3.next := by have := o3.ext.1; omega
        have hg4 : h4.get h1.next = some [c.cells y] := by rw [o4.ext.2 _ lt3]; exact hg3
        have hf4 : h4.floor ≤ h1.next := by rw [(o03.trans o4).fl]; exact Nat.le_trans hf h1n
        have e5 := storeP_at (h := h4) (id := h1.next) (i := 0) (j := 2) (new := [.int .i64 r.chart.epoch, z, .bool r.chart.moving, .int .u64 r.chart.lo, .int .i64 r.chart.to]) hf4 hg4 rfl rfl
        simp only [List.set_cons_zero] at e5
        have o4' := (o03.trans o4).put h1n [({ c with chart := r.chart } : Client).cells z]
        have f4' : Fre h q4 := ⟨fun id hid => Nat.le_trans o03.ext.1 (f4.lo id hid), f4.nd⟩
        have ne4 : ∀ id, id ∈ q4 → id ≠ h1.next := fun id hid => by have := f4.lo id hid; omega
        have u4' : SlR 7 (Fl Range.enc) (h4.put h1.next [({ c with chart := r.chart } : Client).cells z]) z r.chart.ranges q4 := u4.mv (Fl.ok _) (Nat.le_refl _) fun id hid => put_ne _ (ne4 id hid)
        simp only [Client.cells] at e5 o4' u4'
        have hgT : (h4.put h1.next [[.int .i64 c.id, .int .i64 c.seq, .int .i64 r.chart.epoch, z, .bool r.chart.moving, .int .u64 r.chart.lo, .int .i64 r.chart.to, .bool c.busy, .int .i64 c.tries, .int .i64 c.ask.epoch, .int .i64 c.ask.op, .int .u64 c.ask.id, .int .u64 c.ask.amount, .int .i64 c.ask.tx]]).get h1.next = some [({ c with chart := r.chart } : Client).cells z] := by simp [Heap.put, Client.cells]
        have hfT : (h4.put h1.next [[.int .i64 c.id, .int .i64 c.seq, .int .i64 r.chart.epoch, z, .bool r.chart.moving, .int .u64 r.chart.lo, .int .i64 r.chart.to, .bool c.busy, .int .i64 c.tries, .int .i64 c.ask.epoch, .int .i64 c.ask.op, .int .u64 c.ask.id, .int .u64 c.ask.amount, .int .i64 c.ask.tx]]).floor ≤ h1.next := by rw [o4'.fl]; exact Nat.le_trans hf h1n
        have es := stop_run (Z := Z) (c := ({ c with chart := r.chart } : Client)) hI16 hfT hgT
        have lgT := fun j n => loadP_get1 hgT j n
        simp only [Client.cells] at lgT es
        by_cases hb : c.busy = true
        case neg =>
          replace hb : c.busy = false := by simpa using hb
          have hnb : (!c.busy) = true := by simp [hb]
          have hoff : c.off r = true := by simp [Client.off, hb]
          rw [hear_off hgd hoff, hD]
          cases a1 : (r.client != c.id) <;> (simp only [run0, run1, run2, run3, run4, noSlot, ownS, ownK, memN, RO.dst, lk, drop, forget, number, Nat.reduceBEq, cut?, splice?, builds, List.length_cons, List.length_nil, List.drop_succ_cons, List.drop_zero, List.take_succ_cons, List.take_zero, List.cons_append, List.nil_append, List.append_nil, List.drop_nil, List.take_nil, Nat.reduceAdd, Nat.reduceLeDiff, Nat.zero_add, Nat.add_zero, ↓reduceIte, Bool.not_true, Bool.not_false, decide_true, decide_false, eq_self, bne_self_eq_false, List.getElem?_cons_zero, List.getElem?_cons_succ, decide_eq_true_eq, Bool.false_eq_true, Bool.true_eq_false, reduceCtorEq, Nat.le_refl, e1, st, e2, lg2, e3, hnb, a1, hgt, e4, e5, lgT]; exact ⟨_, _, _, rfl, o4', ⟨z, _, rfl, rfl, u4'⟩, f4'⟩)
        case pos =>
          have hnb : (!c.busy) = false := by simp [hb]
          cases a1 : (r.client != c.id) with
          | true =>
            have hoff : c.off r = true := by simp [Client.off, a1]
            rw [hear_off hgd hoff, hD]
            simp only [run0, run1, run2, run3, run4, noSlot, ownS, ownK, memN, RO.dst, lk, drop, forget, number, Nat.reduceBEq, cut?, splice?, builds, List.length_cons, List.length_nil, List.drop_succ_cons, List.drop_zero, List.take_succ_cons, List.take_zero, List.cons_append, List.nil_append, List.append_nil, List.drop_nil, List.take_nil, Nat.reduceAdd, Nat.reduceLeDiff, Nat.zero_add, Nat.add_zero, ↓reduceIte, Bool.not_true, Bool.not_false, decide_true, decide_false, eq_self, bne_self_eq_false, List.getElem?_cons_zero, List.getElem?_cons_succ, decide_eq_true_eq, Bool.false_eq_true, Bool.true_eq_false, reduceCtorEq, Nat.le_refl, e1, st, e2, lg2, e3, hnb, a1, hgt, e4, e5, lgT]
            exact ⟨_, _, _, rfl, o4', ⟨z, _, rfl, rfl, u4'⟩, f4'⟩
          | false =>
            cases a2 : (r.seq != c.seq) with
            | true =>
              have hoff : c.off r = true := by simp [Client.off, a2]
              rw [hear_off hgd hoff, hD]
              simp only [run0, run1, run2, run3, run4, noSlot, ownS, ownK, memN, RO.dst, lk, drop, forget, number, Nat.reduceBEq, cut?, splice?, builds, List.length_cons, List.length_nil, List.drop_succ_cons, List.drop_zero, List.take_succ_cons, List.take_zero, List.cons_append, List.nil_append, List.append_nil, List.drop_nil, List.take_nil, Nat.reduceAdd, Nat.reduceLeDiff, Nat.zero_add, Nat.add_zero, ↓reduceIte, Bool.not_true, Bool.not_false, decide_true, decide_false, eq_self, bne_self_eq_false, List.getElem?_cons_zero, List.getElem?_cons_succ, decide_eq_true_eq, Bool.false_eq_true, Bool.true_eq_false, reduceCtorEq, Nat.le_refl, e1, st, e2, lg2, e3, hnb, a1, a2, hgt, e4, e5, lgT]
              exact ⟨_, _, _, rfl, o4', ⟨z, _, rfl, rfl, u4'⟩, f4'⟩
            | false =>
              have hoff : c.off r = false := by simp [Client.off, a1, a2, hb]
              cases hi : inR r.code 8 10 with
              | true =>
                rw [hear_again hgd hoff hi, hD]
                rcases hw8 hi with k1 | ⟨k1, k2⟩ | ⟨k1, k2, k3⟩
                · simp only [run0, run1, run2, run3, run4, noSlot, ownS, ownK, memN, RO.dst, lk, drop, forget, number, Nat.reduceBEq, cut?, splice?, builds, List.length_cons, List.length_nil, List.drop_succ_cons, List.drop_zero, List.take_succ_cons, List.take_zero, List.cons_append, List.nil_append, List.append_nil, List.drop_nil, List.take_nil, Nat.reduceAdd, Nat.reduceLeDiff, Nat.zero_add, Nat.add_zero, ↓reduceIte, Bool.not_true, Bool.not_false, decide_true, decide_false, eq_self, bne_self_eq_false, List.getElem?_cons_zero, List.getElem?_cons_succ, decide_eq_true_eq, Bool.false_eq_true, Bool.true_eq_false, reduceCtorEq, Nat.le_refl, e1, st, e2, lg2, e3, hnb, a1, a2, hgt, e4, e5, lgT, k1]
                  exact ⟨_, _, _, rfl, o4', ⟨z, _, rfl, rfl, u4'⟩, f4'⟩
                · simp only [run0, run1, run2, run3, run4, noSlot, ownS, ownK, memN, RO.dst, lk, drop, forget, number, Nat.reduceBEq, cut?, splice?, builds, List.length_cons, List.length_nil, List.drop_succ_cons, List.drop_zero, List.take_succ_cons, List.take_zero, List.cons_append, List.nil_append, List.append_nil, List.drop_nil, List.take_nil, Nat.reduceAdd, Nat.reduceLeDiff, Nat.zero_add, Nat.add_zero, ↓reduceIte, Bool.not_true, Bool.not_false, decide_true, decide_false, eq_self, bne_self_eq_false, List.getElem?_cons_zero, List.getElem?_cons_succ, decide_eq_true_eq, Bool.false_eq_true, Bool.true_eq_false, reduceCtorEq, Nat.le_refl, e1, st, e2, lg2, e3, hnb, a1, a2, hgt, e4, e5, lgT, k1, k2]
                  exact ⟨_, _, _, rfl, o4', ⟨z, _, rfl, rfl, u4'⟩, f4'⟩
                · simp only [run0, run1, run2, run3, run4, noSlot, ownS, ownK, memN, RO.dst, lk, drop, forget, number, Nat.reduceBEq, cut?, splice?, builds, List.length_cons, List.length_nil, List.drop_succ_cons, List.drop_zero, List.take_succ_cons, List.take_zero, List.cons_append, List.nil_append, List.append_nil, List.drop_nil, List.take_nil, Nat.reduceAdd, Nat.reduceLeDiff, Nat.zero_add, Nat.add_zero, ↓reduceIte, Bool.not_true, Bool.not_false, decide_true, decide_false, eq_self, bne_self_eq_false, List.getElem?_cons_zero, List.getElem?_cons_succ, decide_eq_true_eq, Bool.false_eq_true, Bool.true_eq_false, reduceCtorEq, Nat.le_refl, e1, st, e2, lg2, e3, hnb, a1, a2, hgt, e4, e5, lgT, k1, k2, k3]
                  exact ⟨_, _, _, rfl, o4', ⟨z, _, rfl, rfl, u4'⟩, f4'⟩
              | false =>
                obtain ⟨k1, k2, k3⟩ := hn8 hi
                by_cases k4 : r.code < 0
                · rw [hear_err hgd hoff hi k4, hD]
                  simp only [run0, run1, run2, run3, run4, noSlot, ownS, ownK, memN, RO.dst, lk, drop, forget, number, Nat.reduceBEq, cut?, splice?, builds, List.length_cons, List.length_nil, List.drop_succ_cons, List.drop_zero, List.take_succ_cons, List.take_zero, List.cons_append, List.nil_append, List.append_nil, List.drop_nil, List.take_nil, Nat.reduceAdd, Nat.reduceLeDiff, Nat.zero_add, Nat.add_zero, ↓reduceIte, Bool.not_true, Bool.not_false, decide_true, decide_false, eq_self, bne_self_eq_false, List.getElem?_cons_zero, List.getElem?_cons_succ, decide_eq_true_eq, Bool.false_eq_true, Bool.true_eq_false, reduceCtorEq, Nat.le_refl, e1, st, e2, lg2, e3, hnb, a1, a2, hgt, e4, e5, lgT, k1, k2, k3, es, k4, loadP_put1]
                  exact ⟨_, _, _, rfl, o4'.put (by omega) _, ⟨z, _, rfl, rfl, u4'.mv (Fl.ok _) (Nat.le_refl _) fun id hid => put_ne _ (ne4 id hid)⟩, f4'⟩
                · rw [hear_done hgd hoff hi k4, hD]
                  simp only [run0, run1, run2, run3, run4, noSlot, ownS, ownK, memN, RO.dst, lk, drop, forget, number, Nat.reduceBEq, cut?, splice?, builds, List.length_cons, List.length_nil, List.drop_succ_cons, List.drop_zero, List.take_succ_cons, List.take_zero, List.cons_append, List.nil_append, List.append_nil, List.drop_nil, List.take_nil, Nat.reduceAdd, Nat.reduceLeDiff, Nat.zero_add, Nat.add_zero, ↓reduceIte, Bool.not_true, Bool.not_false, decide_true, decide_false, eq_self, bne_self_eq_false, List.getElem?_cons_zero, List.getElem?_cons_succ, decide_eq_true_eq, Bool.false_eq_true, Bool.true_eq_false, reduceCtorEq, Nat.le_refl, e1, st, e2, lg2, e3, hnb, a1, a2, hgt, e4, e5, lgT, k1, k2, k3, es, k4, loadP_put1]
                  exact ⟨_, _, _, rfl, o4'.put (by omega) _, ⟨z, _, rfl, rfl, u4'.mv (Fl.ok _) (Nat.le_refl _) fun id hid => put_ne _ (ne4 id hid)⟩, f4'⟩
set_option maxHeartbeats 4000000 in
theorem sClientHear_c (hS : Has F tS01d) (hS11 : Has F tS11) (hS12 : Has F tS12) (hS16 : Has F tS16) (hf : h.floor ≤ h.next) (v : Client.RI h cs c fp) (u : Reply.RI h ds r fq) (ok : c.Ok) (sm : c.Small) (okr : r.Ok) (smr : r.Small) :
    ∃ cs' h' fq, call F Z 253 [.agg cs, .agg ds] h = some (.tup [.agg cs', .c (.int .i64 (clientHear c r).2)], h') ∧ On h h' ∧ Client.RI h' cs' (clientHear c r).1 fq ∧ Fre h fq := by
  obtain ⟨_, h1, _, e1, o1, ⟨y, q, rfl, rfl, u1⟩, f⟩ := l16Copy_c (Z := Z) hS12 hS16 hf v sm
  have e2 := sClientOk_run (Z := Z) hS hS11 hS12 hS16 (Client.okI.on v o1) ok.chart
  obtain ⟨xr, pr, rfl, rfl, wr⟩ := u
  have vr : Chart.RI h [.int .i64 r.chart.epoch, xr, .bool r.chart.moving, .int .u64 r.chart.lo, .int .i64 r.chart.to] r.chart _ := ⟨xr, _, rfl, rfl, wr⟩
  have e3 := sChartOk_run (Z := Z) hS hS11 hS12 (Chart.okI.on vr o1) okr.chart
  have e6 := fun h => l01In_run (Z := Z) hS r.code 8 10 h
  obtain ⟨x, p, rfl, rfl, w⟩ := v
  have hfree : ∀ (a b e : Int) (z : Cell) (mv : Bool) (lo to : Int) (bz : Bool) (tr r1 r2 r3 r4 r5 : Int) (g : Heap), call F Z 198 [.agg [.int .i64 a, .int .i64 b, .int .i64 e, z, .bool mv, .int .u64 lo, .int .i64 to, .bool bz, .int .i64 tr, .int .i64 r1, .int .i64 r2, .int .u64 r3, .int .u64 r4, .int .i64 r5]] g = some (.agg [.int .i64 a, .int .i64 b, .int .i64 e, z, .bool mv, .int .u64 lo, .int .i64 to, .bool false, .int .i64 0, .int .i64 0, .int .i64 0, .int .u64 0, .int .u64 0, .int .i64 0], g) := by
    intro a b e z mv lo to bz tr r1 r2 r3 r4 r5 g
    rw [call_run F Z (hS16.lk (g := 198) rfl) _ _ rfl]
    simp only [run0, run1, run2, run3, run4, noSlot, ownS, ownK, memN, RO.dst, lk, drop, forget, number, Nat.reduceBEq, cut?, splice?, builds, List.length_cons, List.length_nil, List.drop_succ_cons, List.drop_zero, List.take_succ_cons, List.take_zero, List.cons_append, List.nil_append, List.append_nil, List.drop_nil, List.take_nil, Nat.reduceAdd, Nat.reduceLeDiff, Nat.zero_add, Nat.add_zero, ↓reduceIte, Bool.not_true, Bool.not_false, decide_true, decide_false, eq_self, bne_self_eq_false, List.getElem?_cons_zero, List.getElem?_cons_succ, decide_eq_true_eq, Bool.false_eq_true, Bool.true_eq_false, reduceCtorEq, Nat.le_refl]
  rw [call_run F Z (hS16.lk (g := 253) rfl) _ _ rfl]
  cases hgd : c.good with
  | false =>
    rw [hgd] at e2
    rw [hear_bad hgd]
    simp only [run0, run1, run2, run3, run4, noSlot, ownS, ownK, memN, RO.dst, lk, drop, forget, number, Nat.reduceBEq, cut?, splice?, builds, List.length_cons, List.length_nil, List.drop_succ_cons, List.drop_zero, List.take_succ_cons, List.take_zero, List.cons_append, List.nil_append, List.append_nil, List.drop_nil, List.take_nil, Nat.reduceAdd, Nat.reduceLeDiff, Nat.zero_add, Nat.add_zero, ↓reduceIte, Bool.not_true, Bool.not_false, decide_true, decide_false, eq_self, bne_self_eq_false, List.getElem?_cons_zero, List.getElem?_cons_succ, decide_eq_true_eq, Bool.false_eq_true, Bool.true_eq_false, reduceCtorEq, Nat.le_refl, e1, e2]
    exact ⟨_, _, _, rfl, o1, ⟨y, _, rfl, rfl, u1⟩, f⟩
  | true =>
    rw [hgd] at e2
    cases hrg : r.chart.good with
    | false =>
      rw [hrg] at e3
      have hD : c.takes r = c := by simp [Client.takes, hrg]
      by_cases hb : c.busy = true
      case neg =>
        replace hb : c.busy = false := by simpa using hb
        have hnb : (!c.busy) = true := by simp [hb]
        have hoff : c.off r = true := by simp [Client.off, hb]
        rw [hear_off hgd hoff, hD]
        cases a1 : (r.client != c.id) <;> (simp only [run0, run1, run2, run3, run4, noSlot, ownS, ownK, memN, RO.dst, lk, drop, forget, number, Nat.reduceBEq, cut?, splice?, builds, List.length_cons, List.length_nil, List.drop_succ_cons, List.drop_zero, List.take_succ_cons, List.take_zero, List.cons_append, List.nil_append, List.append_nil, List.drop_nil, List.take_nil, Nat.reduceAdd, Nat.reduceLeDiff, Nat.zero_add, Nat.add_zero, ↓reduceIte, Bool.not_true, Bool.not_false, decide_true, decide_false, eq_self, bne_self_eq_false, List.getElem?_cons_zero, List.getElem?_cons_succ, decide_eq_true_eq, Bool.false_eq_true, Bool.true_eq_false, reduceCtorEq, Nat.le_refl, e1, e2, e3, hnb, a1, hgd]; exact ⟨_, _, _, rfl, o1, ⟨y, _, rfl, rfl, u1⟩, f⟩)
      case pos =>
        have hnb : (!c.busy) = false := by simp [hb]
        cases a1 : (r.client != c.id) with
        | true =>
          have hoff : c.off r = true := by simp [Client.off, a1]
          rw [hear_off hgd hoff, hD]
          simp only [run0, run1, run2, run3, run4, noSlot, ownS, ownK, memN, RO.dst, lk, drop, forget, number, Nat.reduceBEq, cut?, splice?, builds, List.length_cons, List.length_nil, List.drop_succ_cons, List.drop_zero, List.take_succ_cons, List.take_zero, List.cons_append, List.nil_append, List.append_nil, List.drop_nil, List.take_nil, Nat.reduceAdd, Nat.reduceLeDiff, Nat.zero_add, Nat.add_zero, ↓reduceIte, Bool.not_true, Bool.not_false, decide_true, decide_false, eq_self, bne_self_eq_false, List.getElem?_cons_zero, List.getElem?_cons_succ, decide_eq_true_eq, Bool.false_eq_true, Bool.true_eq_false, reduceCtorEq, Nat.le_refl, e1, e2, e3, hnb, a1, hgd]
          exact ⟨_, _, _, rfl, o1, ⟨y, _, rfl, rfl, u1⟩, f⟩
        | false =>
          cases a2 : (r.seq != c.seq) with
          | true =>
            have hoff : c.off r = true := by simp [Client.off, a2]
            rw [hear_off hgd hoff, hD]
            simp only [run0, run1, run2, run3, run4, noSlot, ownS, ownK, memN, RO.dst, lk, drop, forget, number, Nat.reduceBEq, cut?, splice?, builds, List.length_cons, List.length_nil, List.drop_succ_cons, List.drop_zero, List.take_succ_cons, List.take_zero, List.cons_append, List.nil_append, List.append_nil, List.drop_nil, List.take_nil, Nat.reduceAdd, Nat.reduceLeDiff, Nat.zero_add, Nat.add_zero, ↓reduceIte, Bool.not_true, Bool.not_false, decide_true, decide_false, eq_self, bne_self_eq_false, List.getElem?_cons_zero, List.getElem?_cons_succ, decide_eq_true_eq, Bool.false_eq_true, Bool.true_eq_false, reduceCtorEq, Nat.le_refl, e1, e2, e3, hnb, a1, a2, hgd]
            exact ⟨_, _, _, rfl, o1, ⟨y, _, rfl, rfl, u1⟩, f⟩
          | false =>
            have hoff : c.off r = false := by simp [Client.off, a1, a2, hb]
            cases hi : inR r.code 8 10 with
            | true =>
              rw [hear_again hgd hoff hi, hD]
              simp only [run0, run1, run2, run3, run4, noSlot, ownS, ownK, memN, RO.dst, lk, drop, forget, number, Nat.reduceBEq, cut?, splice?, builds, List.length_cons, List.length_nil, List.drop_succ_cons, List.drop_zero, List.take_succ_cons, List.take_zero, List.cons_append, List.nil_append, List.append_nil, List.drop_nil, List.take_nil, Nat.reduceAdd, Nat.reduceLeDiff, Nat.zero_add, Nat.add_zero, ↓reduceIte, Bool.not_true, Bool.not_false, decide_true, decide_false, eq_self, bne_self_eq_false, List.getElem?_cons_zero, List.getElem?_cons_succ, decide_eq_true_eq, Bool.false_eq_true, Bool.true_eq_false, reduceCtorEq, Nat.le_refl, e1, e2, e3, hnb, a1, a2, hgd, e6, hi]
              exact ⟨_, _, _, rfl, o1, ⟨y, _, rfl, rfl, u1⟩, f⟩
            | false =>
              by_cases k4 : r.code < 0
              · rw [hear_err hgd hoff hi k4, hD]
                simp only [run0, run1, run2, run3, run4, noSlot, ownS, ownK, memN, RO.dst, lk, drop, forget, number, Nat.reduceBEq, cut?, splice?, builds, List.length_cons, List.length_nil, List.drop_succ_cons, List.drop_zero, List.take_succ_cons, List.take_zero, List.cons_append, List.nil_append, List.append_nil, List.drop_nil, List.take_nil, Nat.reduceAdd, Nat.reduceLeDiff, Nat.zero_add, Nat.add_zero, ↓reduceIte, Bool.not_true, Bool.not_false, decide_true, decide_false, eq_self, bne_self_eq_false, List.getElem?_cons_zero, List.getElem?_cons_succ, decide_eq_true_eq, Bool.false_eq_true, Bool.true_eq_false, reduceCtorEq, Nat.le_refl, e1, e2, e3, hnb, a1, a2, hgd, e6, hi, k4, hfree]
                exact ⟨_, _, _, rfl, o1, ⟨y, _, rfl, rfl, u1⟩, f⟩
              · rw [hear_done hgd hoff hi k4, hD]
                simp only [run0, run1, run2, run3, run4, noSlot, ownS, ownK, memN, RO.dst, lk, drop, forget, number, Nat.reduceBEq, cut?, splice?, builds, List.length_cons, List.length_nil, List.drop_succ_cons, List.drop_zero, List.take_succ_cons, List.take_zero, List.cons_append, List.nil_append, List.append_nil, List.drop_nil, List.take_nil, Nat.reduceAdd, Nat.reduceLeDiff, Nat.zero_add, Nat.add_zero, ↓reduceIte, Bool.not_true, Bool.not_false, decide_true, decide_false, eq_self, bne_self_eq_false, List.getElem?_cons_zero, List.getElem?_cons_succ, decide_eq_true_eq, Bool.false_eq_true, Bool.true_eq_false, reduceCtorEq, Nat.le_refl, e1, e2, e3, hnb, a1, a2, hgd, e6, hi, k4, hfree]
                exact ⟨_, _, _, rfl, o1, ⟨y, _, rfl, rfl, u1⟩, f⟩
    | true =>
      rw [hrg] at e3
      by_cases hgt : r.chart.epoch > c.chart.epoch
      case neg =>
        have hlt : ¬ c.chart.epoch < r.chart.epoch := hgt
        have hD : c.takes r = c := by simp [Client.takes, hrg, hlt]
        by_cases hb : c.busy = true
        case neg =>
          replace hb : c.busy = false := by simpa using hb
          have hnb : (!c.busy) = true := by simp [hb]
          have hoff : c.off r = true := by simp [Client.off, hb]
          rw [hear_off hgd hoff, hD]
          cases a1 : (r.client != c.id) <;> (simp only [run0, run1, run2, run3, run4, noSlot, ownS, ownK, memN, RO.dst, lk, drop, forget, number, Nat.reduceBEq, cut?, splice?, builds, List.length_cons, List.length_nil, List.drop_succ_cons, List.drop_zero, List.take_succ_cons, List.take_zero, List.cons_append, List.nil_append, List.append_nil, List.drop_nil, List.take_nil, Nat.reduceAdd, Nat.reduceLeDiff, Nat.zero_add, Nat.add_zero, ↓reduceIte, Bool.not_true, Bool.not_false, decide_true, decide_false, eq_self, bne_self_eq_false, List.getElem?_cons_zero, List.getElem?_cons_succ, decide_eq_true_eq, Bool.false_eq_true, Bool.true_eq_false, reduceCtorEq, Nat.le_refl, e1, e2, e3, hnb, a1, hgt]; exact ⟨_, _, _, rfl, o1, ⟨y, _, rfl, rfl, u1⟩, f⟩)
        case pos =>
          have hnb : (!c.busy) = false := by simp [hb]
          cases a1 : (r.client != c.id) with
          | true =>
            have hoff : c.off r = true := by simp [Client.off, a1]
            rw [hear_off hgd hoff, hD]
            simp only [run0, run1, run2, run3, run4, noSlot, ownS, ownK, memN, RO.dst, lk, drop, forget, number, Nat.reduceBEq, cut?, splice?, builds, List.length_cons, List.length_nil, List.drop_succ_cons, List.drop_zero, List.take_succ_cons, List.take_zero, List.cons_append, List.nil_append, List.append_nil, List.drop_nil, List.take_nil, Nat.reduceAdd, Nat.reduceLeDiff, Nat.zero_add, Nat.add_zero, ↓reduceIte, Bool.not_true, Bool.not_false, decide_true, decide_false, eq_self, bne_self_eq_false, List.getElem?_cons_zero, List.getElem?_cons_succ, decide_eq_true_eq, Bool.false_eq_true, Bool.true_eq_false, reduceCtorEq, Nat.le_refl, e1, e2, e3, hnb, a1, hgt]
            exact ⟨_, _, _, rfl, o1, ⟨y, _, rfl, rfl, u1⟩, f⟩
          | false =>
            cases a2 : (r.seq != c.seq) with
            | true =>
              have hoff : c.off r = true := by simp [Client.off, a2]
              rw [hear_off hgd hoff, hD]
              simp only [run0, run1, run2, run3, run4, noSlot, ownS, ownK, memN, RO.dst, lk, drop, forget, number, Nat.reduceBEq, cut?, splice?, builds, List.length_cons, List.length_nil, List.drop_succ_cons, List.drop_zero, List.take_succ_cons, List.take_zero, List.cons_append, List.nil_append, List.append_nil, List.drop_nil, List.take_nil, Nat.reduceAdd, Nat.reduceLeDiff, Nat.zero_add, Nat.add_zero, ↓reduceIte, Bool.not_true, Bool.not_false, decide_true, decide_false, eq_self, bne_self_eq_false, List.getElem?_cons_zero, List.getElem?_cons_succ, decide_eq_true_eq, Bool.false_eq_true, Bool.true_eq_false, reduceCtorEq, Nat.le_refl, e1, e2, e3, hnb, a1, a2, hgt]
              exact ⟨_, _, _, rfl, o1, ⟨y, _, rfl, rfl, u1⟩, f⟩
            | false =>
              have hoff : c.off r = false := by simp [Client.off, a1, a2, hb]
              cases hi : inR r.code 8 10 with
              | true =>
                rw [hear_again hgd hoff hi, hD]
                simp only [run0, run1, run2, run3, run4, noSlot, ownS, ownK, memN, RO.dst, lk, drop, forget, number, Nat.reduceBEq, cut?, splice?, builds, List.length_cons, List.length_nil, List.drop_succ_cons, List.drop_zero, List.take_succ_cons, List.take_zero, List.cons_append, List.nil_append, List.append_nil, List.drop_nil, List.take_nil, Nat.reduceAdd, Nat.reduceLeDiff, Nat.zero_add, Nat.add_zero, ↓reduceIte, Bool.not_true, Bool.not_false, decide_true, decide_false, eq_self, bne_self_eq_false, List.getElem?_cons_zero, List.getElem?_cons_succ, decide_eq_true_eq, Bool.false_eq_true, Bool.true_eq_false, reduceCtorEq, Nat.le_refl, e1, e2, e3, hnb, a1, a2, hgt, e6, hi]
                exact ⟨_, _, _, rfl, o1, ⟨y, _, rfl, rfl, u1⟩, f⟩
              | false =>
                by_cases k4 : r.code < 0
                · rw [hear_err hgd hoff hi k4, hD]
                  simp only [run0, run1, run2, run3, run4, noSlot, ownS, ownK, memN, RO.dst, lk, drop, forget, number, Nat.reduceBEq, cut?, splice?, builds, List.length_cons, List.length_nil, List.drop_succ_cons, List.drop_zero, List.take_succ_cons, List.take_zero, List.cons_append, List.nil_append, List.append_nil, List.drop_nil, List.take_nil, Nat.reduceAdd, Nat.reduceLeDiff, Nat.zero_add, Nat.add_zero, ↓reduceIte, Bool.not_true, Bool.not_false, decide_true, decide_false, eq_self, bne_self_eq_false, List.getElem?_cons_zero, List.getElem?_cons_succ, decide_eq_true_eq, Bool.false_eq_true, Bool.true_eq_false, reduceCtorEq, Nat.le_refl, e1, e2, e3, hnb, a1, a2, hgt, e6, hi, k4, hfree]
                  exact ⟨_, _, _, rfl, o1, ⟨y, _, rfl, rfl, u1⟩, f⟩
                · rw [hear_done hgd hoff hi k4, hD]
                  simp only [run0, run1, run2, run3, run4, noSlot, ownS, ownK, memN, RO.dst, lk, drop, forget, number, Nat.reduceBEq, cut?, splice?, builds, List.length_cons, List.length_nil, List.drop_succ_cons, List.drop_zero, List.take_succ_cons, List.take_zero, List.cons_append, List.nil_append, List.append_nil, List.drop_nil, List.take_nil, Nat.reduceAdd, Nat.reduceLeDiff, Nat.zero_add, Nat.add_zero, ↓reduceIte, Bool.not_true, Bool.not_false, decide_true, decide_false, eq_self, bne_self_eq_false, List.getElem?_cons_zero, List.getElem?_cons_succ, decide_eq_true_eq, Bool.false_eq_true, Bool.true_eq_false, reduceCtorEq, Nat.le_refl, e1, e2, e3, hnb, a1, a2, hgt, e6, hi, k4, hfree]
                  exact ⟨_, _, _, rfl, o1, ⟨y, _, rfl, rfl, u1⟩, f⟩
      case pos =>
        have hD : c.takes r = { c with chart := r.chart } := by
          have : c.chart.epoch < r.chart.epoch := hgt
          simp [Client.takes, hrg, this]
        obtain ⟨_, h4, q4, e4, o4, ⟨z, _, rfl, rfl, u4⟩, f4⟩ := l12Copy_c (Z := Z) hS12 (o1.le hf) (Chart.okI.on vr o1) smr
        have o4' := o1.trans o4
        have f4' : Fre h q4 := ⟨fun id hid => Nat.le_trans o1.ext.1 (f4.lo id hid), f4.nd⟩
        by_cases hb : c.busy = true
        case neg =>
          replace hb : c.busy = false := by simpa using hb
          have hnb : (!c.busy) = true := by simp [hb]
          have hoff : c.off r = true := by simp [Client.off, hb]
          rw [hear_off hgd hoff, hD]
          cases a1 : (r.client != c.id) <;> (simp only [run0, run1, run2, run3, run4, noSlot, ownS, ownK, memN, RO.dst, lk, drop, forget, number, Nat.reduceBEq, cut?, splice?, builds, List.length_cons, List.length_nil, List.drop_succ_cons, List.drop_zero, List.take_succ_cons, List.take_zero, List.cons_append, List.nil_append, List.append_nil, List.drop_nil, List.take_nil, Nat.reduceAdd, Nat.reduceLeDiff, Nat.zero_add, Nat.add_zero, ↓reduceIte, Bool.not_true, Bool.not_false, decide_true, decide_false, eq_self, bne_self_eq_false, List.getElem?_cons_zero, List.getElem?_cons_succ, decide_eq_true_eq, Bool.false_eq_true, Bool.true_eq_false, reduceCtorEq, Nat.le_refl, e1, e2, e3, hnb, a1, hgt, e4]; exact ⟨_, _, _, rfl, o4', ⟨z, _, rfl, rfl, u4⟩, f4'⟩)
        case pos =>
          have hnb : (!c.busy) = false := by simp [hb]
          cases a1 : (r.client != c.id) with
          | true =>
            have hoff : c.off r = true := by simp [Client.off, a1]
            rw [hear_off hgd hoff, hD]
            simp only [run0, run1, run2, run3, run4, noSlot, ownS, ownK, memN, RO.dst, lk, drop, forget, number, Nat.reduceBEq, cut?, splice?, builds, List.length_cons, List.length_nil, List.drop_succ_cons, List.drop_zero, List.take_succ_cons, List.take_zero, List.cons_append, List.nil_append, List.append_nil, List.drop_nil, List.take_nil, Nat.reduceAdd, Nat.reduceLeDiff, Nat.zero_add, Nat.add_zero, ↓reduceIte, Bool.not_true, Bool.not_false, decide_true, decide_false, eq_self, bne_self_eq_false, List.getElem?_cons_zero, List.getElem?_cons_succ, decide_eq_true_eq, Bool.false_eq_true, Bool.true_eq_false, reduceCtorEq, Nat.le_refl, e1, e2, e3, hnb, a1, hgt, e4]
            exact ⟨_, _, _, rfl, o4', ⟨z, _, rfl, rfl, u4⟩, f4'⟩
          | false =>
            cases a2 : (r.seq != c.seq) with
            | true =>
              have hoff : c.off r = true := by simp [Client.off, a2]
              rw [hear_off hgd hoff, hD]
              simp only [run0, run1, run2, run3, run4, noSlot, ownS, ownK, memN, RO.dst, lk, drop, forget, number, Nat.reduceBEq, cut?, splice?, builds, List.length_cons, List.length_nil, List.drop_succ_cons, List.drop_zero, List.take_succ_cons, List.take_zero, List.cons_append, List.nil_append, List.append_nil, List.drop_nil, List.take_nil, Nat.reduceAdd, Nat.reduceLeDiff, Nat.zero_add, Nat.add_zero, ↓reduceIte, Bool.not_true, Bool.not_false, decide_true, decide_false, eq_self, bne_self_eq_false, List.getElem?_cons_zero, List.getElem?_cons_succ, decide_eq_true_eq, Bool.false_eq_true, Bool.true_eq_false, reduceCtorEq, Nat.le_refl, e1, e2, e3, hnb, a1, a2, hgt, e4]
              exact ⟨_, _, _, rfl, o4', ⟨z, _, rfl, rfl, u4⟩, f4'⟩
            | false =>
              have hoff : c.off r = false := by simp [Client.off, a1, a2, hb]
              cases hi : inR r.code 8 10 with
              | true =>
                rw [hear_again hgd hoff hi, hD]
                simp only [run0, run1, run2, run3, run4, noSlot, ownS, ownK, memN, RO.dst, lk, drop, forget, number, Nat.reduceBEq, cut?, splice?, builds, List.length_cons, List.length_nil, List.drop_succ_cons, List.drop_zero, List.take_succ_cons, List.take_zero, List.cons_append, List.nil_append, List.append_nil, List.drop_nil, List.take_nil, Nat.reduceAdd, Nat.reduceLeDiff, Nat.zero_add, Nat.add_zero, ↓reduceIte, Bool.not_true, Bool.not_false, decide_true, decide_false, eq_self, bne_self_eq_false, List.getElem?_cons_zero, List.getElem?_cons_succ, decide_eq_true_eq, Bool.false_eq_true, Bool.true_eq_false, reduceCtorEq, Nat.le_refl, e1, e2, e3, hnb, a1, a2, hgt, e4, e6, hi]
                exact ⟨_, _, _, rfl, o4', ⟨z, _, rfl, rfl, u4⟩, f4'⟩
              | false =>
                by_cases k4 : r.code < 0
                · rw [hear_err hgd hoff hi k4, hD]
                  simp only [run0, run1, run2, run3, run4, noSlot, ownS, ownK, memN, RO.dst, lk, drop, forget, number, Nat.reduceBEq, cut?, splice?, builds, List.length_cons, List.length_nil, List.drop_succ_cons, List.drop_zero, List.take_succ_cons, List.take_zero, List.cons_append, List.nil_append, List.append_nil, List.drop_nil, List.take_nil, Nat.reduceAdd, Nat.reduceLeDiff, Nat.zero_add, Nat.add_zero, ↓reduceIte, Bool.not_true, Bool.not_false, decide_true, decide_false, eq_self, bne_self_eq_false, List.getElem?_cons_zero, List.getElem?_cons_succ, decide_eq_true_eq, Bool.false_eq_true, Bool.true_eq_false, reduceCtorEq, Nat.le_refl, e1, e2, e3, hnb, a1, a2, hgt, e4, e6, hi, k4, hfree]
                  exact ⟨_, _, _, rfl, o4', ⟨z, _, rfl, rfl, u4⟩, f4'⟩
                · rw [hear_done hgd hoff hi k4, hD]
                  simp only [run0, run1, run2, run3, run4, noSlot, ownS, ownK, memN, RO.dst, lk, drop, forget, number, Nat.reduceBEq, cut?, splice?, builds, List.length_cons, List.length_nil, List.drop_succ_cons, List.drop_zero, List.take_succ_cons, List.take_zero, List.cons_append, List.nil_append, List.append_nil, List.drop_nil, List.take_nil, Nat.reduceAdd, Nat.reduceLeDiff, Nat.zero_add, Nat.add_zero, ↓reduceIte, Bool.not_true, Bool.not_false, decide_true, decide_false, eq_self, bne_self_eq_false, List.getElem?_cons_zero, List.getElem?_cons_succ, decide_eq_true_eq, Bool.false_eq_true, Bool.true_eq_false, reduceCtorEq, Nat.le_refl, e1, e2, e3, hnb, a1, a2, hgt, e4, e6, hi, k4, hfree]
                  exact ⟨_, _, _, rfl, o4', ⟨z, _, rfl, rfl, u4⟩, f4'⟩
end
end Go.Proofs.Ytnedbeicpfdjjaa.A
