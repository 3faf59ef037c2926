/- What the converters of Past compute. -/
import Derived.Test.YtgogajbfiocdbaaCPast
import Derived.Test.YtgogajbfiocdbaaGLPast
import Derived.Test.YtgogajbfiocdbaaS1
namespace Go.Proofs.Ytgogajbfiocdbaa.A
open Go
set_option linter.unusedSimpArgs false
set_option linter.unusedVariables false
section
variable {F : Nat → Option RF} {Z : CallF} {h : Heap} {x y : Cell} {xs ys : List Past} {fp fq : List Nat}
def Past.zero : List Cell := [.int .i64 0, .int .u64 0, .int .u64 0, .int .u64 0, .int .i64 0, .int .i64 0, .int .i64 0, .int .u64 0]
theorem toPast_run' (hL : Has F tLPast) (hLL : Has F tLLedgerCall) (p : Past) (h : Heap) : call F Z 9 [.agg p.enc] h = some (.agg p.enc, h) := toPast_run hL hLL _ _ _ _ _ _ _ _ h
set_option maxHeartbeats 1000000 in
theorem eqPast_run (hL : Has F tLPast) (hLL : Has F tLLedgerCall) (p q : Past) (h : Heap) : call F Z 98 [.agg p.enc, .agg q.enc] h = some (.c (.bool (decide (p = q))), h) := by
  have hc : ∀ (kind a b m kind' a' b' m' : Int) (h : Heap), call F Z 119 [.agg [.int .i64 kind, .int .u64 a, .int .u64 b, .int .u64 m], .agg [.int .i64 kind', .int .u64 a', .int .u64 b', .int .u64 m']] h = some (.c (.bool (decide (kind = kind' ∧ a = a' ∧ b = b' ∧ m = m'))), h) := by
    intro kind a b m kind' a' b' m' h
    rw [call_run F Z (hLL.lk (g := 119) rfl) _ _ rfl]
    simp only [run0, run1, run2, run3, run4, noSlot, memN, RO.dst, lk, drop, forget, number, Nat.reduceBEq, cond_true, cond_false, Option.bind_some, cut?, splice?, builds, List.length_cons, List.length_nil, List.drop_succ_cons, List.drop_zero, List.take_succ_cons, List.take_zero, List.cons_append, List.nil_append, List.append_nil, List.drop_nil, List.take_nil, Nat.reduceAdd, Nat.reduceLeDiff, Nat.zero_add, Nat.add_zero, ↓reduceIte, Bool.not_true, Bool.not_false, decide_true, decide_false, eq_self, bne_self_eq_false, List.getElem?_cons_zero, List.getElem?_cons_succ, decide_eq_true_eq, Bool.false_eq_true, Bool.true_eq_false, reduceCtorEq, Nat.le_refl]
    (repeat' ((first | (rw [gF_if]; split) | (rw [condC_if]; split) | (rw [pickR_if]; split)) <;> (rename_i hh; (try simp only [Bool.not_eq_true, decide_eq_true_eq] at hh); simp only [hh, run0, run1, run2, run3, run4, noSlot, memN, RO.dst, lk, drop, forget, number, Nat.reduceBEq, cond_true, cond_false, Option.bind_some, cut?, splice?, builds, List.length_cons, List.length_nil, List.drop_succ_cons, List.drop_zero, List.take_succ_cons, List.take_zero, List.cons_append, List.nil_append, List.append_nil, List.drop_nil, List.take_nil, Nat.reduceAdd, Nat.reduceLeDiff, Nat.zero_add, Nat.add_zero, ↓reduceIte, Bool.not_true, Bool.not_false, decide_true, decide_false, eq_self, bne_self_eq_false, List.getElem?_cons_zero, List.getElem?_cons_succ, decide_eq_true_eq, Bool.false_eq_true, Bool.true_eq_false, reduceCtorEq, Nat.le_refl]))) <;> refine fin_bool ?_ <;> simp_all
  rw [call_run F Z (hL.lk (g := 98) rfl) _ _ rfl]
  obtain ⟨k, a, b, m, s, e, c, v⟩ := p
  obtain ⟨k', a', b', m', s', e', c', v'⟩ := q
  simp only [Past.enc, run0, run1, run2, run3, run4, noSlot, memN, RO.dst, lk, drop, forget, number, Nat.reduceBEq, cond_true, cond_false, Option.bind_some, cut?, splice?, builds, List.length_cons, List.length_nil, List.drop_succ_cons, List.drop_zero, List.take_succ_cons, List.take_zero, List.cons_append, List.nil_append, List.append_nil, List.drop_nil, List.take_nil, Nat.reduceAdd, Nat.reduceLeDiff, Nat.zero_add, Nat.add_zero, ↓reduceIte, Bool.not_true, Bool.not_false, decide_true, decide_false, eq_self, bne_self_eq_false, List.getElem?_cons_zero, List.getElem?_cons_succ, decide_eq_true_eq, Bool.false_eq_true, Bool.true_eq_false, reduceCtorEq, Nat.le_refl, hc]
  (repeat' ((first | (rw [gF_if]; split) | (rw [condC_if]; split) | (rw [pickR_if]; split)) <;> (rename_i hh; (try simp only [Bool.not_eq_true, decide_eq_true_eq] at hh); simp only [hh, run0, run1, run2, run3, run4, noSlot, memN, RO.dst, lk, drop, forget, number, Nat.reduceBEq, cond_true, cond_false, Option.bind_some, cut?, splice?, builds, List.length_cons, List.length_nil, List.drop_succ_cons, List.drop_zero, List.take_succ_cons, List.take_zero, List.cons_append, List.nil_append, List.append_nil, List.drop_nil, List.take_nil, Nat.reduceAdd, Nat.reduceLeDiff, Nat.zero_add, Nat.add_zero, ↓reduceIte, Bool.not_true, Bool.not_false, decide_true, decide_false, eq_self, bne_self_eq_false, List.getElem?_cons_zero, List.getElem?_cons_succ, decide_eq_true_eq, Bool.false_eq_true, Bool.true_eq_false, reduceCtorEq, Nat.le_refl, hc]))) <;> refine fin_bool ?_ <;> simp_all <;> (try (intros; omega))
theorem szPastS_run (hL : Has F tLPast) (w : SlR 2 (Fl Past.enc) h x xs fp) (left : Int) (h1 : 0 ≤ left) (h2 : left ≤ 1048576) : call F Z 40 [.c x, .c (.int .i64 left)] h = some (.c (.int .i64 (if left - xs.length < 0 then -1 else left - xs.length)), h) := by
  have := w.le2
  rw [call_run F Z (hL.lk (g := 40) rfl) _ _ rfl]
  simp only [run0, run1, run2, run3, run4, noSlot, memN, RO.dst, lk, drop, forget, number, Nat.reduceBEq, cond_true, cond_false, Option.bind_some, cut?, splice?, builds, List.length_cons, List.length_nil, List.drop_succ_cons, List.drop_zero, List.take_succ_cons, List.take_zero, List.cons_append, List.nil_append, List.append_nil, List.drop_nil, List.take_nil, Nat.reduceAdd, Nat.reduceLeDiff, Nat.zero_add, Nat.add_zero, ↓reduceIte, Bool.not_true, Bool.not_false, decide_true, decide_false, eq_self, bne_self_eq_false, List.getElem?_cons_zero, List.getElem?_cons_succ, decide_eq_true_eq, Bool.false_eq_true, Bool.true_eq_false, reduceCtorEq, Nat.le_refl, w.len, wrapI (left - xs.length) (by omega) (by omega)]
  (repeat' ((first | (rw [gF_if]; split) | (rw [condC_if]; split) | (rw [pickR_if]; split)) <;> (rename_i hh; (try simp only [Bool.not_eq_true, decide_eq_true_eq] at hh); simp only [hh, run0, run1, run2, run3, run4, noSlot, memN, RO.dst, lk, drop, forget, number, Nat.reduceBEq, cond_true, cond_false, Option.bind_some, cut?, splice?, builds, List.length_cons, List.length_nil, List.drop_succ_cons, List.drop_zero, List.take_succ_cons, List.take_zero, List.cons_append, List.nil_append, List.append_nil, List.drop_nil, List.take_nil, Nat.reduceAdd, Nat.reduceLeDiff, Nat.zero_add, Nat.add_zero, ↓reduceIte, Bool.not_true, Bool.not_false, decide_true, decide_false, eq_self, bne_self_eq_false, List.getElem?_cons_zero, List.getElem?_cons_succ, decide_eq_true_eq, Bool.false_eq_true, Bool.true_eq_false, reduceCtorEq, Nat.le_refl]))) <;> simp_all
theorem toPastS_run (hL : Has F tLPast) (hLL : Has F tLLedgerCall) (hf : h.floor ≤ h.next) (w : SlR 2 (Fl Past.enc) h x xs fp) (hn : xs.length ≤ 1048576) : call F Z 41 [.c x] h = some (.c (.sl 1 h.next 0 xs.length), h.push (xs.map Past.enc)) := by
  rw [call_run F Z (hL.lk (g := 41) rfl) _ _ rfl]
  simp only [run0, run1, run2, run3, run4, noSlot, memN, RO.dst, lk, drop, forget, number, Nat.reduceBEq, cond_true, cond_false, Option.bind_some, cut?, splice?, builds, List.length_cons, List.length_nil, List.drop_succ_cons, List.drop_zero, List.take_succ_cons, List.take_zero, List.cons_append, List.nil_append, List.append_nil, List.drop_nil, List.take_nil, Nat.reduceAdd, Nat.reduceLeDiff, Nat.zero_add, Nat.add_zero, ↓reduceIte, Bool.not_true, Bool.not_false, decide_true, decide_false, eq_self, bne_self_eq_false, List.getElem?_cons_zero, List.getElem?_cons_succ, decide_eq_true_eq, Bool.false_eq_true, Bool.true_eq_false, reduceCtorEq, Nat.le_refl, w.len]
  rw [if_pos (by omega)]
  simp only [run0, run1, run2, run3, run4, noSlot, memN, RO.dst, lk, drop, forget, number, Nat.reduceBEq, cond_true, cond_false, Option.bind_some, cut?, splice?, builds, List.length_cons, List.length_nil, List.drop_succ_cons, List.drop_zero, List.take_succ_cons, List.take_zero, List.cons_append, List.nil_append, List.append_nil, List.drop_nil, List.take_nil, Nat.reduceAdd, Nat.reduceLeDiff, Nat.zero_add, Nat.add_zero, ↓reduceIte, Bool.not_true, Bool.not_false, decide_true, decide_false, eq_self, bne_self_eq_false, List.getElem?_cons_zero, List.getElem?_cons_succ, decide_eq_true_eq, Bool.false_eq_true, Bool.true_eq_false, reduceCtorEq, Nat.le_refl, Int.toNat_natCast]
  have key : loop F Z [0, 3, 4] r41L0 ⟨[(0, .c x), (3, .c (.sl 1 h.next 0 xs.length)), (4, .c (.int .i64 (0 : Nat)))], [], [], h.push (fillR Past.enc Past.zero xs 0)⟩ = loop F Z [0, 3, 4] r41L0 ⟨[(0, .c x), (3, .c (.sl 1 h.next 0 xs.length)), (4, .c (.int .i64 (xs.length : Nat)))], [], [], h.push (fillR Past.enc Past.zero xs xs.length)⟩ :=
    loop_goesF xs.length (fun i => ⟨[(0, .c x), (3, .c (.sl 1 h.next 0 xs.length)), (4, .c (.int .i64 (i : Nat)))], [], [], h.push (fillR Past.enc Past.zero xs i)⟩) fun i hi => by
      have w' := w.mono (Fl.ok _) (HExt.push h (fillR Past.enc Past.zero xs i))
      have hlt : (i : Int) < xs.length := by omega
      have h0 : (0 : Int) ≤ i := by omega
      rw [loop_run]
      simp only [r41L0, run0, run1, run2, run3, run4, noSlot, memN, RO.dst, lk, drop, forget, number, Nat.reduceBEq, cond_true, cond_false, Option.bind_some, cut?, splice?, builds, List.length_cons, List.length_nil, List.drop_succ_cons, List.drop_zero, List.take_succ_cons, List.take_zero, List.cons_append, List.nil_append, List.append_nil, List.drop_nil, List.take_nil, Nat.reduceAdd, Nat.reduceLeDiff, Nat.zero_add, Nat.add_zero, ↓reduceIte, Bool.not_true, Bool.not_false, decide_true, decide_false, eq_self, bne_self_eq_false, List.getElem?_cons_zero, List.getElem?_cons_succ, decide_eq_true_eq, Bool.false_eq_true, Bool.true_eq_false, reduceCtorEq, Nat.le_refl, w.len, hlt, w.idx hi, w'.load hi, Past.len, Past.tak, toPast_run' hL hLL, h0, and_self, Int.toNat_natCast, storeP_push hf (fillR_get Past.enc Past.zero xs hi) (Past.len xs[i]), wrapS i (by omega)]
      rw [← fillR_set Past.enc Past.zero xs hi]
  rw [fillR_0] at key
  rw [fillR_n] at key
  rw [show ((0 : Nat) : Int) = 0 from rfl] at key
  simp only [Past.zero] at key
  rw [key, loop_run]
  have hlt : ¬ (xs.length : Int) < xs.length := by omega
  simp only [r41L0, run0, run1, run2, run3, run4, noSlot, memN, RO.dst, lk, drop, forget, number, Nat.reduceBEq, cond_true, cond_false, Option.bind_some, cut?, splice?, builds, List.length_cons, List.length_nil, List.drop_succ_cons, List.drop_zero, List.take_succ_cons, List.take_zero, List.cons_append, List.nil_append, List.append_nil, List.drop_nil, List.take_nil, Nat.reduceAdd, Nat.reduceLeDiff, Nat.zero_add, Nat.add_zero, ↓reduceIte, Bool.not_true, Bool.not_false, decide_true, decide_false, eq_self, bne_self_eq_false, List.getElem?_cons_zero, List.getElem?_cons_succ, decide_eq_true_eq, Bool.false_eq_true, Bool.true_eq_false, reduceCtorEq, Nat.le_refl, w.len, hlt]
theorem toPastS_c (hL : Has F tLPast) (hLL : Has F tLLedgerCall) (hf : h.floor ≤ h.next) (w : SlR 2 (Fl Past.enc) h x xs fp) (hn : xs.length ≤ 1048576) : ∃ y h' fq, call F Z 41 [.c x] h = some (.c y, h') ∧ On h h' ∧ SlR 1 (Fl Past.enc) h' y xs fq ∧ Fre h fq :=
  ⟨_, _, _, toPastS_run hL hLL hf w hn, On.push _ _, SlR.ofFlat w.le (push_get _ _) (by rw [push_next]; omega), Fre.one h⟩
theorem eqPastS_run (hL : Has F tLPast) (hLL : Has F tLLedgerCall) (w : SlR 1 (Fl Past.enc) h x xs fp) (v : SlR 1 (Fl Past.enc) h y ys fq) : call F Z 44 [.c x, .c y] h = some (.c (.bool (decide (xs = ys))), h) := by
  have hw := w.le2
  have hv := v.le2
  rw [call_run F Z (hL.lk (g := 44) rfl) _ _ rfl]
  simp only [run0, run1, run2, run3, run4, noSlot, memN, RO.dst, lk, drop, forget, number, Nat.reduceBEq, cond_true, cond_false, Option.bind_some, cut?, splice?, builds, List.length_cons, List.length_nil, List.drop_succ_cons, List.drop_zero, List.take_succ_cons, List.take_zero, List.cons_append, List.nil_append, List.append_nil, List.drop_nil, List.take_nil, Nat.reduceAdd, Nat.reduceLeDiff, Nat.zero_add, Nat.add_zero, ↓reduceIte, Bool.not_true, Bool.not_false, decide_true, decide_false, eq_self, bne_self_eq_false, List.getElem?_cons_zero, List.getElem?_cons_succ, decide_eq_true_eq, Bool.false_eq_true, Bool.true_eq_false, reduceCtorEq, Nat.le_refl, w.len, v.len]
  rw [condC_if]
  split
  · rename_i hne
    have : xs ≠ ys := by rintro rfl; simp at hne
    simp only [run0, run1, run2, run3, run4, noSlot, memN, RO.dst, lk, drop, forget, number, Nat.reduceBEq, cond_true, cond_false, Option.bind_some, cut?, splice?, builds, List.length_cons, List.length_nil, List.drop_succ_cons, List.drop_zero, List.take_succ_cons, List.take_zero, List.cons_append, List.nil_append, List.append_nil, List.drop_nil, List.take_nil, Nat.reduceAdd, Nat.reduceLeDiff, Nat.zero_add, Nat.add_zero, ↓reduceIte, Bool.not_true, Bool.not_false, decide_true, decide_false, eq_self, bne_self_eq_false, List.getElem?_cons_zero, List.getElem?_cons_succ, decide_eq_true_eq, Bool.false_eq_true, Bool.true_eq_false, reduceCtorEq, Nat.le_refl, this]
  · rename_i he
    have he : xs.length = ys.length := by simp at he; omega
    simp only [run0, run1, run2, run3, run4, noSlot, memN, RO.dst, lk, drop, forget, number, Nat.reduceBEq, cond_true, cond_false, Option.bind_some, cut?, splice?, builds, List.length_cons, List.length_nil, List.drop_succ_cons, List.drop_zero, List.take_succ_cons, List.take_zero, List.cons_append, List.nil_append, List.append_nil, List.drop_nil, List.take_nil, Nat.reduceAdd, Nat.reduceLeDiff, Nat.zero_add, Nat.add_zero, ↓reduceIte, Bool.not_true, Bool.not_false, decide_true, decide_false, eq_self, bne_self_eq_false, List.getElem?_cons_zero, List.getElem?_cons_succ, decide_eq_true_eq, Bool.false_eq_true, Bool.true_eq_false, reduceCtorEq, Nat.le_refl]
    have key := loop_allN (F := F) (Z := Z) (live := [0, 1, 5]) (b := r44L0) xs.length (fun i => ⟨[(0, .c x), (1, .c y), (5, .c (.int .i64 (i : Nat)))], [], [], h⟩) (fun i => decide (xs[i]? = ys[i]?)) (fun s => lk s.env 4 = some (.c (.bool false)) ∧ s.hp = h) fun i hi => by
      have hi' : i < ys.length := by omega
      have hlt : (i : Int) < xs.length := by omega
      rw [loop_run]
      simp only [r44L0, run0, run1, run2, run3, run4, noSlot, memN, RO.dst, lk, drop, forget, number, Nat.reduceBEq, cond_true, cond_false, Option.bind_some, cut?, splice?, builds, List.length_cons, List.length_nil, List.drop_succ_cons, List.drop_zero, List.take_succ_cons, List.take_zero, List.cons_append, List.nil_append, List.append_nil, List.drop_nil, List.take_nil, Nat.reduceAdd, Nat.reduceLeDiff, Nat.zero_add, Nat.add_zero, ↓reduceIte, Bool.not_true, Bool.not_false, decide_true, decide_false, eq_self, bne_self_eq_false, List.getElem?_cons_zero, List.getElem?_cons_succ, decide_eq_true_eq, Bool.false_eq_true, Bool.true_eq_false, reduceCtorEq, Nat.le_refl, w.len, hlt, w.idx hi, v.idx hi', w.load hi, v.load hi', Past.len, Past.tak, eqPast_run hL hLL, wrapS i (by omega)]
      rw [List.getElem?_eq_getElem hi, List.getElem?_eq_getElem hi']
      (repeat' ((first | (rw [gF_if]; split) | (rw [condC_if]; split) | (rw [pickR_if]; split)) <;> (rename_i hh; (try simp only [Bool.not_eq_true, decide_eq_true_eq] at hh); simp only [hh, run0, run1, run2, run3, run4, noSlot, memN, RO.dst, lk, drop, forget, number, Nat.reduceBEq, cond_true, cond_false, Option.bind_some, cut?, splice?, builds, List.length_cons, List.length_nil, List.drop_succ_cons, List.drop_zero, List.take_succ_cons, List.take_zero, List.cons_append, List.nil_append, List.append_nil, List.drop_nil, List.take_nil, Nat.reduceAdd, Nat.reduceLeDiff, Nat.zero_add, Nat.add_zero, ↓reduceIte, Bool.not_true, Bool.not_false, decide_true, decide_false, eq_self, bne_self_eq_false, List.getElem?_cons_zero, List.getElem?_cons_succ, decide_eq_true_eq, Bool.false_eq_true, Bool.true_eq_false, reduceCtorEq, Nat.le_refl, wrapS i (by omega)])))
      · exact .inr ⟨by simp_all, _, rfl, rfl, rfl⟩
      · exact .inl ⟨by simp_all, rfl⟩
    rw [all_same he] at key
    rcases key with ⟨k1, k2⟩ | ⟨k1, s, k2, k3, k4⟩
    · simp only [show ((0 : Nat) : Int) = 0 from rfl] at k2
      rw [k2, loop_run]
      have hlt : ¬ (xs.length : Int) < xs.length := by omega
      simp only [r44L0, run0, run1, run2, run3, run4, noSlot, memN, RO.dst, lk, drop, forget, number, Nat.reduceBEq, cond_true, cond_false, Option.bind_some, cut?, splice?, builds, List.length_cons, List.length_nil, List.drop_succ_cons, List.drop_zero, List.take_succ_cons, List.take_zero, List.cons_append, List.nil_append, List.append_nil, List.drop_nil, List.take_nil, Nat.reduceAdd, Nat.reduceLeDiff, Nat.zero_add, Nat.add_zero, ↓reduceIte, Bool.not_true, Bool.not_false, decide_true, decide_false, eq_self, bne_self_eq_false, List.getElem?_cons_zero, List.getElem?_cons_succ, decide_eq_true_eq, Bool.false_eq_true, Bool.true_eq_false, reduceCtorEq, Nat.le_refl, w.len, hlt, k1]
    · simp only [show ((0 : Nat) : Int) = 0 from rfl] at k2
      rw [k2]
      simp only [run0, run1, run2, run3, run4, noSlot, memN, RO.dst, lk, drop, forget, number, Nat.reduceBEq, cond_true, cond_false, Option.bind_some, cut?, splice?, builds, List.length_cons, List.length_nil, List.drop_succ_cons, List.drop_zero, List.take_succ_cons, List.take_zero, List.cons_append, List.nil_append, List.append_nil, List.drop_nil, List.take_nil, Nat.reduceAdd, Nat.reduceLeDiff, Nat.zero_add, Nat.add_zero, ↓reduceIte, Bool.not_true, Bool.not_false, decide_true, decide_false, eq_self, bne_self_eq_false, List.getElem?_cons_zero, List.getElem?_cons_succ, decide_eq_true_eq, Bool.false_eq_true, Bool.true_eq_false, reduceCtorEq, Nat.le_refl, k3, k4, k1]
/-- What is written to mark one. -/
def Past.mk_ (k : Int) : Past := ⟨k, k + 1, k + 1 + 1, k + 1 + 1 + 1, k + 1 + 1 + 1 + 1, k + 1 + 1 + 1 + 1 + 1, k + 1 + 1 + 1 + 1 + 1 + 1, k + 1 + 1 + 1 + 1 + 1 + 1 + 1⟩
def Past.marks (n : Nat) (k : Int) : List Past := (List.range n).map fun i : Nat => Past.mk_ (k + 8 * (i : Int))
theorem Past.marks_len (n : Nat) (k : Int) : (Past.marks n k).length = n := by simp [Past.marks]
set_option maxHeartbeats 1000000 in
theorem markPastS_run (hL : Has F tLPast) (w : SlR 1 (Fl Past.enc) h x xs fp) (hlo : ∀ id, id ∈ fp → h.floor ≤ id) (k : Int) (h1 : 0 ≤ k) (h2 : k + 8 * xs.length ≤ 4611686018427387904) :
    ∃ h', call F Z 54 [.c x, .c (.int .i64 k)] h = some (.c (.int .i64 (k + 8 * xs.length)), h') ∧ Mk h h' fp ∧ SlR 1 (Fl Past.enc) h' x (Past.marks xs.length k) fp := by
  have hle := w.le2
  have hlm := Past.marks_len xs.length k
  rw [call_run F Z (hL.lk (g := 54) rfl) _ _ rfl]
  simp only [run0, run1, run2, run3, run4, noSlot, memN, RO.dst, lk, drop, forget, number, Nat.reduceBEq, cond_true, cond_false, Option.bind_some, cut?, splice?, builds, List.length_cons, List.length_nil, List.drop_succ_cons, List.drop_zero, List.take_succ_cons, List.take_zero, List.cons_append, List.nil_append, List.append_nil, List.drop_nil, List.take_nil, Nat.reduceAdd, Nat.reduceLeDiff, Nat.zero_add, Nat.add_zero, ↓reduceIte, Bool.not_true, Bool.not_false, decide_true, decide_false, eq_self, bne_self_eq_false, List.getElem?_cons_zero, List.getElem?_cons_succ, decide_eq_true_eq, Bool.false_eq_true, Bool.true_eq_false, reduceCtorEq, Nat.le_refl]
  rcases w.flat with ⟨rfl, rfl, rfl⟩ | ⟨hx, hg, hn, rfl⟩
  · rw [loop_run]
    simp only [r54L0, run0, run1, run2, run3, run4, noSlot, memN, RO.dst, lk, drop, forget, number, Nat.reduceBEq, cond_true, cond_false, Option.bind_some, cut?, splice?, builds, List.length_cons, List.length_nil, List.drop_succ_cons, List.drop_zero, List.take_succ_cons, List.take_zero, List.cons_append, List.nil_append, List.append_nil, List.drop_nil, List.take_nil, Nat.reduceAdd, Nat.reduceLeDiff, Nat.zero_add, Nat.add_zero, ↓reduceIte, Bool.not_true, Bool.not_false, decide_true, decide_false, eq_self, bne_self_eq_false, List.getElem?_cons_zero, List.getElem?_cons_succ, decide_eq_true_eq, Bool.false_eq_true, Bool.true_eq_false, reduceCtorEq, Nat.le_refl, show ¬ ((0 : Int) < 0) from by omega]
    exact ⟨h, by simp, Mk.refl _ _, by simpa [Past.marks] using w⟩
  · have hfl : h.floor ≤ x.sid := hlo _ (by simp)
    have key : loop F Z [0, 1, 5] r54L0 ⟨[(0, .c x), (1, .c (.int .i64 (k + 8 * (0 : Nat)))), (5, .c (.int .i64 (0 : Nat)))], [], [], h.put x.sid (mixR Past.enc (Past.marks xs.length k) xs 0)⟩ = loop F Z [0, 1, 5] r54L0 ⟨[(0, .c x), (1, .c (.int .i64 (k + 8 * (xs.length : Nat)))), (5, .c (.int .i64 (xs.length : Nat)))], [], [], h.put x.sid (mixR Past.enc (Past.marks xs.length k) xs xs.length)⟩ :=
      loop_goesF xs.length (fun i => ⟨[(0, .c x), (1, .c (.int .i64 (k + 8 * (i : Nat)))), (5, .c (.int .i64 (i : Nat)))], [], [], h.put x.sid (mixR Past.enc (Past.marks xs.length k) xs i)⟩) fun i hi => by
        have hlt : (i : Int) < xs.length := by omega
        have hi2 : i < (mixR Past.enc (Past.marks xs.length k) xs i).length := by rw [mixR_len _ hlm]; exact hi
        have hms : (Past.marks xs.length k)[i]'(by omega) = Past.mk_ (k + 8 * i) := by simp [Past.marks]
        have hset := mixR_set Past.enc hlm hi
        rw [hms] at hset
        have hput := storeP_put (h := h) hfl hi2
        rw [← mixR_cur Past.enc hlm hi, ← hset, loop_run]
        simp (disch := omega) only [r54L0, run0, run1, run2, run3, run4, noSlot, memN, RO.dst, lk, drop, forget, number, Nat.reduceBEq, cond_true, cond_false, Option.bind_some, cut?, splice?, builds, List.length_cons, List.length_nil, List.drop_succ_cons, List.drop_zero, List.take_succ_cons, List.take_zero, List.cons_append, List.nil_append, List.append_nil, List.drop_nil, List.take_nil, Nat.reduceAdd, Nat.reduceLeDiff, Nat.zero_add, Nat.add_zero, ↓reduceIte, Bool.not_true, Bool.not_false, decide_true, decide_false, eq_self, bne_self_eq_false, List.getElem?_cons_zero, List.getElem?_cons_succ, decide_eq_true_eq, Bool.false_eq_true, Bool.true_eq_false, reduceCtorEq, Nat.le_refl, w.len, hlt, w.idx hi, hput, putM_s, wrapI1, wrapU1, Past.enc, Int.reduceEq, Past.mk_]
        rw [show k + 8 * ((i : Nat) : Int) + 1 + 1 + 1 + 1 + 1 + 1 + 1 + 1 = k + 8 * ((i + 1 : Nat) : Int) from by omega, show ((i : Nat) : Int) + 1 = ((i + 1 : Nat) : Int) from rfl]
    rw [mixR_0, put_same hg, mixR_n _ hlm] at key
    simp only [show ((0 : Nat) : Int) = 0 from rfl, Int.mul_zero, Int.add_zero] at key
    rw [key, loop_run]
    have hlt : ¬ (xs.length : Int) < xs.length := by omega
    simp only [r54L0, run0, run1, run2, run3, run4, noSlot, memN, RO.dst, lk, drop, forget, number, Nat.reduceBEq, cond_true, cond_false, Option.bind_some, cut?, splice?, builds, List.length_cons, List.length_nil, List.drop_succ_cons, List.drop_zero, List.take_succ_cons, List.take_zero, List.cons_append, List.nil_append, List.append_nil, List.drop_nil, List.take_nil, Nat.reduceAdd, Nat.reduceLeDiff, Nat.zero_add, Nat.add_zero, ↓reduceIte, Bool.not_true, Bool.not_false, decide_true, decide_false, eq_self, bne_self_eq_false, List.getElem?_cons_zero, List.getElem?_cons_succ, decide_eq_true_eq, Bool.false_eq_true, Bool.true_eq_false, reduceCtorEq, Nat.le_refl, w.len, hlt]
    refine ⟨_, rfl, Mk.put _ _ _, ?_⟩
    have := SlR.ofFlat (tag := 1) (h := h.put x.sid ((Past.marks xs.length k).map Past.enc)) (enc := Past.enc) (xs := Past.marks xs.length k) (id := x.sid) (by rw [hlm]; exact w.le) (by simp [Heap.put]) hn
    rw [hlm, ← hx] at this
    exact this
set_option maxHeartbeats 1000000 in
theorem heldPastS_run (hL : Has F tLPast) {n : Nat} {k : Int} (w : SlR 1 (Fl Past.enc) h x (Past.marks n k) fp) (h1 : 0 ≤ k) (h2 : k + 8 * n ≤ 4611686018427387904) :
    call F Z 55 [.c x, .c (.int .i64 k)] h = some (.c (.int .i64 (k + 8 * n)), h) := by
  have hle := w.le2
  have hwl := w.len
  rw [Past.marks_len] at hle hwl
  rw [call_run F Z (hL.lk (g := 55) rfl) _ _ rfl]
  simp only [run0, run1, run2, run3, run4, noSlot, memN, RO.dst, lk, drop, forget, number, Nat.reduceBEq, cond_true, cond_false, Option.bind_some, cut?, splice?, builds, List.length_cons, List.length_nil, List.drop_succ_cons, List.drop_zero, List.take_succ_cons, List.take_zero, List.cons_append, List.nil_append, List.append_nil, List.drop_nil, List.take_nil, Nat.reduceAdd, Nat.reduceLeDiff, Nat.zero_add, Nat.add_zero, ↓reduceIte, Bool.not_true, Bool.not_false, decide_true, decide_false, eq_self, bne_self_eq_false, List.getElem?_cons_zero, List.getElem?_cons_succ, decide_eq_true_eq, Bool.false_eq_true, Bool.true_eq_false, reduceCtorEq, Nat.le_refl]
  have key : loop F Z [0, 1, 5] r55L0 ⟨[(0, .c x), (1, .c (.int .i64 (k + 8 * (0 : Nat)))), (5, .c (.int .i64 (0 : Nat)))], [], [], h⟩ = loop F Z [0, 1, 5] r55L0 ⟨[(0, .c x), (1, .c (.int .i64 (k + 8 * (n : Nat)))), (5, .c (.int .i64 (n : Nat)))], [], [], h⟩ :=
    loop_goesF n (fun i => ⟨[(0, .c x), (1, .c (.int .i64 (k + 8 * (i : Nat)))), (5, .c (.int .i64 (i : Nat)))], [], [], h⟩) fun i hi0 => by
      have hi : i < (Past.marks n k).length := by rw [Past.marks_len]; exact hi0
      have hlt : (i : Int) < n := by omega
      have hms : (Past.marks n k)[i] = Past.mk_ (k + 8 * i) := by simp [Past.marks]
      have hld := w.load hi
      rw [hms] at hld
      rw [loop_run]
      simp (disch := omega) only [r55L0, run0, run1, run2, run3, run4, noSlot, memN, RO.dst, lk, drop, forget, number, Nat.reduceBEq, cond_true, cond_false, Option.bind_some, cut?, splice?, builds, List.length_cons, List.length_nil, List.drop_succ_cons, List.drop_zero, List.take_succ_cons, List.take_zero, List.cons_append, List.nil_append, List.append_nil, List.drop_nil, List.take_nil, Nat.reduceAdd, Nat.reduceLeDiff, Nat.zero_add, Nat.add_zero, ↓reduceIte, Bool.not_true, Bool.not_false, decide_true, decide_false, eq_self, bne_self_eq_false, List.getElem?_cons_zero, List.getElem?_cons_succ, decide_eq_true_eq, Bool.false_eq_true, Bool.true_eq_false, reduceCtorEq, Nat.le_refl, hwl, hlt, w.idx hi, hld, wrapI1, wrapU1, Past.enc, Past.mk_, Int.reduceEq]
      rw [show k + 8 * ((i : Nat) : Int) + 1 + 1 + 1 + 1 + 1 + 1 + 1 + 1 = k + 8 * ((i + 1 : Nat) : Int) from by omega, show ((i : Nat) : Int) + 1 = ((i + 1 : Nat) : Int) from rfl]
  simp only [show ((0 : Nat) : Int) = 0 from rfl, Int.mul_zero, Int.add_zero] at key
  rw [key, loop_run]
  have hlt : ¬ (n : Int) < n := by omega
  simp only [r55L0, run0, run1, run2, run3, run4, noSlot, memN, RO.dst, lk, drop, forget, number, Nat.reduceBEq, cond_true, cond_false, Option.bind_some, cut?, splice?, builds, List.length_cons, List.length_nil, List.drop_succ_cons, List.drop_zero, List.take_succ_cons, List.take_zero, List.cons_append, List.nil_append, List.append_nil, List.drop_nil, List.take_nil, Nat.reduceAdd, Nat.reduceLeDiff, Nat.zero_add, Nat.add_zero, ↓reduceIte, Bool.not_true, Bool.not_false, decide_true, decide_false, eq_self, bne_self_eq_false, List.getElem?_cons_zero, List.getElem?_cons_succ, decide_eq_true_eq, Bool.false_eq_true, Bool.true_eq_false, reduceCtorEq, Nat.le_refl, hwl, hlt]
end
end Go.Proofs.Ytgogajbfiocdbaa.A
