/- HandDone: the law's function, run on any arguments, answers true. -/
import Derived.Test.YtgogajbfiocdbaaCHand2
import Derived.Test.YtgogajbfiocdbaaS4
import Derived.Test.YtgogajbfiocdbaaGWHandDone
namespace Go.Proofs.Ytgogajbfiocdbaa.A
open Go
set_option linter.unusedSimpArgs false
set_option linter.unusedVariables false
set_option maxHeartbeats 2000000 in
theorem law_ExactHandDone {F : Nat → Option RF} {Z : CallF} (hI11 : Has F tI11) (hI15 : Has F tI15) (hLAccount : Has F tLAccount) (hLBook : Has F tLBook) (hLFin : Has F tLFin) (hLHand : Has F tLHand) (hLHandMsg : Has F tLHandMsg) (hLShard : Has F tLShard) (hS01d : Has F tS01d) (hS15 : Has F tS15) (hWHandDone : Has F tWHandDone) (h : Heap) (avs : List V) (hfl : h.floor = h.next) (w : ArgsWf h 8 [shHand, shHandMsg] avs) : ∃ h', call F Z 81 avs h = some (.c (.bool true), h') := by
  obtain ⟨hdc, _, rfl, hdw, w1⟩ := ArgsWf.struct w
  obtain ⟨hd, rfl, hdok⟩ := Wf.isHand hdw
  obtain ⟨mc, _, rfl, mw, w2⟩ := ArgsWf.struct w1
  obtain ⟨m, mp, mv, mok⟩ := Wf.isHandMsg mw
  obtain ⟨ml1, ml2, ml3⟩ := HandMsg.lenL mv
  obtain rfl := w2.nil
  have f0 : h.floor ≤ h.next := by omega
  rw [call_run F Z (hWHandDone.lk (g := 81) rfl) _ _ rfl]
  obtain ⟨l0, s0, s0l, s0k⟩ := szHandMsg_c hLHandMsg hLShard hLBook hLAccount hLFin (Z := Z) mv 1048576 (by omega) (by omega)
  simp only [run0, run1, run2, run3, run4, noSlot, memN, RO.dst, lk, drop, forget, number, Nat.reduceBEq, cut?, splice?, builds, List.length_cons, List.length_nil, List.drop_succ_cons, List.drop_zero, List.take_succ_cons, List.take_zero, List.cons_append, List.nil_append, List.append_nil, List.drop_nil, List.take_nil, Nat.reduceAdd, Nat.reduceLeDiff, Nat.zero_add, Nat.add_zero, ↓reduceIte, Bool.not_true, Bool.not_false, decide_true, decide_false, eq_self, bne_self_eq_false, List.getElem?_cons_zero, List.getElem?_cons_succ, decide_eq_true_eq, Bool.false_eq_true, Bool.true_eq_false, reduceCtorEq, Nat.le_refl, s0, toHand_e hLHand, Hand.len, Hand.tak, Hand.drp, eqHand_run hLHand, ml1, ml2, ml3]
  by_cases hn0 : l0 < 0
  · simp only [run0, run1, run2, run3, run4, noSlot, memN, RO.dst, lk, drop, forget, number, Nat.reduceBEq, cut?, splice?, builds, List.length_cons, List.length_nil, List.drop_succ_cons, List.drop_zero, List.take_succ_cons, List.take_zero, List.cons_append, List.nil_append, List.append_nil, List.drop_nil, List.take_nil, Nat.reduceAdd, Nat.reduceLeDiff, Nat.zero_add, Nat.add_zero, ↓reduceIte, Bool.not_true, Bool.not_false, decide_true, decide_false, eq_self, bne_self_eq_false, List.getElem?_cons_zero, List.getElem?_cons_succ, decide_eq_true_eq, Bool.false_eq_true, Bool.true_eq_false, reduceCtorEq, Nat.le_refl, hn0]
    exact ⟨_, rfl⟩
  have sm0 := s0k (by omega)
  have flr : h.floor = h.next := hfl
  obtain ⟨y1, hq1, p1, e1, oq1, vq1, qq1⟩ := toHandMsg_c hLHandMsg hLShard hLBook hLAccount hLFin (Z := Z) (h := ⟨h.next, h.next, h.get⟩) (Nat.le_refl _) (HandMsg.okL.up mv _) sm0
  obtain ⟨h1, mq1⟩ : ∃ g, Heap.mk hq1.next h.floor hq1.get = g := ⟨_, rfl⟩
  have o1 : On h h1 := by rw [← mq1]; exact ⟨⟨oq1.ext.1, oq1.ext.2⟩, rfl⟩
  have v1 := HandMsg.okI.up vq1 h.floor
  rw [mq1] at v1
  have q1 : Fre h p1 := ⟨qq1.lo, qq1.nd⟩
  replace mv := HandMsg.okL.on mv o1
  have n1 := o1.ext.1
  have g1 := o1.fl
  have f1 := o1.le f0
  obtain ⟨vl1, vt1, vd1⟩ := HandMsg.lenI v1
  obtain ⟨hq2, e2, oq2⟩ := sHandDone_c hS01d hS15 (Z := Z) (h := ⟨h1.next, h1.next, h1.get⟩) (Nat.le_refl _) hd (HandMsg.okI.up v1 _)
  obtain ⟨h2, mq2⟩ : ∃ g, Heap.mk hq2.next h1.floor hq2.get = g := ⟨_, rfl⟩
  have o2 : On h1 h2 := by rw [← mq2]; exact ⟨⟨oq2.ext.1, oq2.ext.2⟩, rfl⟩
  replace mv := HandMsg.okL.on mv o2
  replace v1 := HandMsg.okI.on v1 o2
  have n2 := o2.ext.1
  have g2 := o2.fl
  have f2 := o2.le f1
  obtain ⟨y3, h3, p3, e3, o3, v3, q3⟩ := toHandMsg_c hLHandMsg hLShard hLBook hLAccount hLFin (Z := Z) f2 mv sm0
  replace mv := HandMsg.okL.on mv o3
  replace v1 := HandMsg.okI.on v1 o3
  have n3 := o3.ext.1
  have g3 := o3.fl
  have f3 := o3.le f2
  obtain ⟨vl3, vt3, vd3⟩ := HandMsg.lenI v3
  obtain ⟨hq4, e4, oq4⟩ := HandDone_c hI11 hI15 (Z := Z) (h := ⟨h3.next, h3.next, h3.get⟩) (Nat.le_refl _) hd (HandMsg.okI.up v3 _)
  obtain ⟨h4, mq4⟩ : ∃ g, Heap.mk hq4.next h3.floor hq4.get = g := ⟨_, rfl⟩
  have o4 : On h3 h4 := by rw [← mq4]; exact ⟨⟨oq4.ext.1, oq4.ext.2⟩, rfl⟩
  replace mv := HandMsg.okL.on mv o4
  replace v1 := HandMsg.okI.on v1 o4
  replace v3 := HandMsg.okI.on v3 o4
  have n4 := o4.ext.1
  have g4 := o4.fl
  have f4 := o4.le f3
  obtain ⟨y5, hq5, p5, e5, oq5, vq5, qq5⟩ := toHandMsg_c hLHandMsg hLShard hLBook hLAccount hLFin (Z := Z) (h := ⟨h4.next, h4.next, h4.get⟩) (Nat.le_refl _) (HandMsg.okL.up mv _) sm0
  obtain ⟨h5, mq5⟩ : ∃ g, Heap.mk hq5.next h4.floor hq5.get = g := ⟨_, rfl⟩
  have o5 : On h4 h5 := by rw [← mq5]; exact ⟨⟨oq5.ext.1, oq5.ext.2⟩, rfl⟩
  have v5 := HandMsg.okI.up vq5 h4.floor
  rw [mq5] at v5
  have q5 : Fre h4 p5 := ⟨qq5.lo, qq5.nd⟩
  replace mv := HandMsg.okL.on mv o5
  replace v1 := HandMsg.okI.on v1 o5
  replace v3 := HandMsg.okI.on v3 o5
  have n5 := o5.ext.1
  have g5 := o5.fl
  have f5 := o5.le f4
  obtain ⟨vl5, vt5, vd5⟩ := HandMsg.lenI v5
  have c1 := eqHandMsg_r hLHandMsg hLShard hLBook hLAccount hLFin (Z := Z) (h := ⟨h5.next, h5.next, h5.get⟩) (HandMsg.okI.up v3 _) (HandMsg.okI.up v5 _)
  simp only [run0, run1, run2, run3, run4, noSlot, memN, RO.dst, lk, drop, forget, number, Nat.reduceBEq, cut?, splice?, builds, List.length_cons, List.length_nil, List.drop_succ_cons, List.drop_zero, List.take_succ_cons, List.take_zero, List.cons_append, List.nil_append, List.append_nil, List.drop_nil, List.take_nil, Nat.reduceAdd, Nat.reduceLeDiff, Nat.zero_add, Nat.add_zero, ↓reduceIte, Bool.not_true, Bool.not_false, decide_true, decide_false, eq_self, bne_self_eq_false, List.getElem?_cons_zero, List.getElem?_cons_succ, decide_eq_true_eq, Bool.false_eq_true, Bool.true_eq_false, reduceCtorEq, Nat.le_refl, hn0, toHand_e hLHand, Hand.len, Hand.tak, Hand.drp, eqHand_run hLHand, ml1, ml2, ml3, mq1, e1, vl1, vt1, vd1, mq2, e2, e3, vl3, vt3, vd3, mq4, e4, mq5, e5, vl5, vt5, vd5, c1]
  exact ⟨_, rfl⟩
end Go.Proofs.Ytgogajbfiocdbaa.A
