/- PlayTx: the law's function, run on any arguments, answers true. -/
import Derived.Test.YtgogajbfiocdbaaCTx6
import Derived.Test.YtgogajbfiocdbaaGWPlayTx
namespace Go.Proofs.Ytgogajbfiocdbaa.A
open Go
set_option linter.unusedSimpArgs false
set_option linter.unusedVariables false
set_option maxHeartbeats 2000000 in
theorem law_ExactPlayTx {F : Nat → Option RF} {Z : CallF} (hI14 : Has F tI14) (hLBool : Has F tLBool) (hLTx : Has F tLTx) (hLTxEvent : Has F tLTxEvent) (hS01d : Has F tS01d) (hS14 : Has F tS14) (hWPlayTx : Has F tWPlayTx) (h : Heap) (avs : List V) (hfl : h.floor = h.next) (w : ArgsWf h 8 [shTx, shTxEventS] avs) : ∃ h', call F Z 56 avs h = some (.c (.bool true), h') := by
  obtain ⟨tc, _, rfl, tw, w1⟩ := ArgsWf.struct w
  obtain ⟨id, a_, b_, m_, ph_, yf_, yt_, af_, at__, r_, rfl⟩ := Wf.tx tw
  generalize ht : (⟨id, a_, b_, m_, ph_, yf_, yt_, af_, at__, r_⟩ : Tx) = t
  have hte : [.int .i64 id, .int .u64 a_, .int .u64 b_, .int .u64 m_, .int .i64 ph_, .bool yf_, .bool yt_, .bool af_, .bool at__, .int .i64 r_] = t.enc := by rw [← ht]; rfl
  rw [hte]
  obtain ⟨esx, _, rfl, esw, w2⟩ := ArgsWf.slice w1
  obtain ⟨es, esp, esv, _⟩ := Wf.isTxEventS esw
  obtain rfl := w2.nil
  have f0 : h.floor ≤ h.next := by omega
  rw [call_run F Z (hWPlayTx.lk (g := 56) rfl) _ _ rfl]
  obtain ⟨l0, s0, s0l, s0k⟩ := szTxEventS_c hLTxEvent (Z := Z) esv 1048576 (by omega) (by omega)
  simp only [run0, run1, run2, run3, run4, noSlot, memN, RO.dst, lk, drop, forget, number, Nat.reduceBEq, cond_true, cond_false, Option.bind_some, cut?, splice?, builds, List.length_cons, List.length_nil, List.drop_succ_cons, List.drop_zero, List.take_succ_cons, List.take_zero, List.cons_append, List.nil_append, List.append_nil, List.drop_nil, List.take_nil, Nat.reduceAdd, Nat.reduceLeDiff, Nat.zero_add, Nat.add_zero, ↓reduceIte, Bool.not_true, Bool.not_false, decide_true, decide_false, eq_self, bne_self_eq_false, List.getElem?_cons_zero, List.getElem?_cons_succ, decide_eq_true_eq, Bool.false_eq_true, Bool.true_eq_false, reduceCtorEq, Nat.le_refl, s0, toTx_e hLTx, Tx.len, Tx.tak, Tx.drp, eqTx_enc hLTx]
  by_cases hn0 : l0 < 0
  · simp only [run0, run1, run2, run3, run4, noSlot, memN, RO.dst, lk, drop, forget, number, Nat.reduceBEq, cond_true, cond_false, Option.bind_some, cut?, splice?, builds, List.length_cons, List.length_nil, List.drop_succ_cons, List.drop_zero, List.take_succ_cons, List.take_zero, List.cons_append, List.nil_append, List.append_nil, List.drop_nil, List.take_nil, Nat.reduceAdd, Nat.reduceLeDiff, Nat.zero_add, Nat.add_zero, ↓reduceIte, Bool.not_true, Bool.not_false, decide_true, decide_false, eq_self, bne_self_eq_false, List.getElem?_cons_zero, List.getElem?_cons_succ, decide_eq_true_eq, Bool.false_eq_true, Bool.true_eq_false, reduceCtorEq, Nat.le_refl, hn0]
    exact ⟨_, rfl⟩
  have sm0 := s0k (by omega)
  have flr : h.floor = h.next := hfl
  have Tesv := esv.lt (Fl.ok _)
  obtain ⟨y1, h1, p1, e1, o1, v1, q1⟩ := toTxEventS_c hLTxEvent (Z := Z) f0 esv sm0
  replace esv := esv.on (Fl.ok _) o1
  have n1 := o1.ext.1
  have g1 := o1.fl
  have f1 := o1.le f0
  obtain ⟨r2_1, h2, p2_1, e2, o2, v2_1, q2_1⟩ := sPlayTx_c hS01d hS14 (Z := Z) f1 t v1
  replace esv := esv.on (Fl.ok _) o2
  replace v1 := v1.on (Fl.ok _) o2
  have n2 := o2.ext.1
  have g2 := o2.fl
  have f2 := o2.le f1
  have Tv2_1 := v2_1.lt (Fl.ok _)
  obtain ⟨y3, h3, p3, e3, o3, v3, q3⟩ := toTxEventS_c hLTxEvent (Z := Z) f2 esv sm0
  replace esv := esv.on (Fl.ok _) o3
  replace v1 := v1.on (Fl.ok _) o3
  replace v2_1 := v2_1.on (Fl.ok _) o3
  have n3 := o3.ext.1
  have g3 := o3.fl
  have f3 := o3.le f2
  have Tv3 := v3.lt (Fl.ok _)
  obtain ⟨r4_1, h4, p4_1, e4, o4, v4_1, q4_1⟩ := PlayTx_c hI14 (Z := Z) f3 t v3
  replace esv := esv.on (Fl.ok _) o4
  replace v1 := v1.on (Fl.ok _) o4
  replace v2_1 := v2_1.on (Fl.ok _) o4
  replace v3 := v3.on (Fl.ok _) o4
  have n4 := o4.ext.1
  have g4 := o4.fl
  have f4 := o4.le f3
  have c1 := eqBoolS_run hLBool (Z := Z) v4_1 v2_1
  obtain ⟨y5, h5, p5, e5, o5, v5, q5⟩ := toTxEventS_c hLTxEvent (Z := Z) f4 esv sm0
  replace esv := esv.on (Fl.ok _) o5
  replace v1 := v1.on (Fl.ok _) o5
  replace v2_1 := v2_1.on (Fl.ok _) o5
  replace v3 := v3.on (Fl.ok _) o5
  replace v4_1 := v4_1.on (Fl.ok _) o5
  have n5 := o5.ext.1
  have g5 := o5.fl
  have f5 := o5.le f4
  have c2 := eqTxEventS_run hLTxEvent (Z := Z) v3 v5
  have hb := Tx.play_len t es
  have lo6 : ∀ id, id ∈ p3 → h5.floor ≤ id := fun id hid => by have := q3.lo id hid; omega
  obtain ⟨h6, m6, k6, u6⟩ := markTxEventS_run hLTxEvent (Z := Z) v3 lo6 (1) (by omega) (by omega)
  replace esv := esv.mk (Fl.ok _) k6 fun id h1 h2 => by have a1 := q3.lo id h2; have a2 := Tesv id h1; omega
  replace v2_1 := v2_1.mk (Fl.ok _) k6 fun id h1 h2 => by have a1 := q3.lo id h2; have a2 := Tv2_1 id h1; omega
  replace v4_1 := v4_1.mk (Fl.ok _) k6 fun id h1 h2 => by have a1 := q3.lo id h2; have a2 := Tv3 id h2; have a3 := q4_1.lo id h1; omega
  have n6 := k6.next
  have g6 := k6.fl
  have f6 : h6.floor ≤ h6.next := by omega
  replace v3 := u6
  have hk6 : ¬ (1 + 3 * ((es.length : Nat) : Int) : Int) < 0 := by omega
  have c3 := eqBoolS_run hLBool (Z := Z) v4_1 v2_1
  have lo7 : ∀ id, id ∈ p4_1 → h6.floor ≤ id := fun id hid => by have := q4_1.lo id hid; omega
  obtain ⟨h7, m7, k7, u7⟩ := markBoolS_run hLBool (Z := Z) v4_1 lo7 (1) (by omega) (by omega)
  replace esv := esv.mk (Fl.ok _) k7 fun id h1 h2 => by have a1 := q4_1.lo id h2; have a2 := Tesv id h1; omega
  replace v2_1 := v2_1.mk (Fl.ok _) k7 fun id h1 h2 => by have a1 := q4_1.lo id h2; have a2 := Tv2_1 id h1; omega
  have n7 := k7.next
  have g7 := k7.fl
  have f7 : h7.floor ≤ h7.next := by omega
  replace v4_1 := u7
  have hkk : ¬ (1 + 1 * (((t.play es).2.length : Nat) : Int) : Int) < 0 := by omega
  have d4 := heldBoolS_run hLBool (Z := Z) v4_1 (by omega) (by omega)
  have hh5 : ¬ (1 + 1 * (((t.play es).2.length : Nat) : Int) : Int) < 0 := by omega
  obtain ⟨y8, h8, p8, e8, o8, v8, q8⟩ := toTxEventS_c hLTxEvent (Z := Z) f7 esv sm0
  replace esv := esv.on (Fl.ok _) o8
  replace v2_1 := v2_1.on (Fl.ok _) o8
  replace v4_1 := v4_1.on (Fl.ok _) o8
  have n8 := o8.ext.1
  have g8 := o8.fl
  have f8 := o8.le f7
  obtain ⟨r9_1, h9, p9_1, e9, o9, v9_1, q9_1⟩ := PlayTx_c hI14 (Z := Z) f8 t v8
  replace esv := esv.on (Fl.ok _) o9
  replace v2_1 := v2_1.on (Fl.ok _) o9
  replace v4_1 := v4_1.on (Fl.ok _) o9
  replace v8 := v8.on (Fl.ok _) o9
  have n9 := o9.ext.1
  have g9 := o9.fl
  have f9 := o9.le f8
  have c6 := eqBoolS_run hLBool (Z := Z) v9_1 v2_1
  have d7 := heldBoolS_run hLBool (Z := Z) v4_1 (by omega) (by omega)
  have hh8 : ¬ (1 + 1 * (((t.play es).2.length : Nat) : Int) : Int) < 0 := by omega
  simp only [run0, run1, run2, run3, run4, noSlot, memN, RO.dst, lk, drop, forget, number, Nat.reduceBEq, cond_true, cond_false, Option.bind_some, cut?, splice?, builds, List.length_cons, List.length_nil, List.drop_succ_cons, List.drop_zero, List.take_succ_cons, List.take_zero, List.cons_append, List.nil_append, List.append_nil, List.drop_nil, List.take_nil, Nat.reduceAdd, Nat.reduceLeDiff, Nat.zero_add, Nat.add_zero, ↓reduceIte, Bool.not_true, Bool.not_false, decide_true, decide_false, eq_self, bne_self_eq_false, List.getElem?_cons_zero, List.getElem?_cons_succ, decide_eq_true_eq, Bool.false_eq_true, Bool.true_eq_false, reduceCtorEq, Nat.le_refl, hn0, toTx_e hLTx, Tx.len, Tx.tak, Tx.drp, eqTx_enc hLTx, e1, e2, e3, e4, c1, e5, c2, m6, hk6, c3, m7, hkk, d4, hh5, e8, e9, c6, d7, hh8]
  exact ⟨_, rfl⟩
end Go.Proofs.Ytgogajbfiocdbaa.A
