/- MovedBetween: the law's function, run on any arguments, answers true. -/
import Derived.Test.YtgogajbfiocdbaaCChart4
import Derived.Test.YtgogajbfiocdbaaGWMovedBetween
namespace Go.Proofs.Ytgogajbfiocdbaa.A
open Go
set_option linter.unusedSimpArgs false
set_option linter.unusedVariables false
set_option maxHeartbeats 2000000 in
theorem law_ExactMovedBetween {F : Nat → Option RF} {Z : CallF} (hI11 : Has F tI11) (hI12 : Has F tI12) (hLChart : Has F tLChart) (hLRange : Has F tLRange) (hLibslicesIndexFuncimplRangeimplRange : Has F tLibslicesIndexFuncimplRangeimplRange) (hS01d : Has F tS01d) (hS11 : Has F tS11) (hS12 : Has F tS12) (hWMovedBetween : Has F tWMovedBetween) (h : Heap) (avs : List V) (hfl : h.floor = h.next) (w : ArgsWf h 8 [shChart, shChart, .int .u64] avs) : ∃ h', call F Z 72 avs h = some (.c (.bool true), h') := by
  obtain ⟨cc, _, rfl, cw, w1⟩ := ArgsWf.struct w
  obtain ⟨c, cp, cv, cok⟩ := Wf.isChart cw
  obtain ⟨cl1, cl2, cl3⟩ := Chart.lenL cv
  obtain ⟨dc, _, rfl, dw, w2⟩ := ArgsWf.struct w1
  obtain ⟨d, dp, dv, dok⟩ := Wf.isChart dw
  obtain ⟨dl1, dl2, dl3⟩ := Chart.lenL dv
  obtain ⟨id, _, rfl, idw, w3⟩ := ArgsWf.int w2
  obtain rfl := w3.nil
  have f0 : h.floor ≤ h.next := by omega
  rw [call_run F Z (hWMovedBetween.lk (g := 72) rfl) _ _ rfl]
  obtain ⟨l0, s0, s0l, s0k⟩ := szChart_c hLChart hLRange (Z := Z) cv 1048576 (by omega) (by omega)
  simp only [run0, run1, run2, run3, run4, noSlot, memN, RO.dst, lk, drop, forget, number, Nat.reduceBEq, cut?, splice?, builds, List.length_cons, List.length_nil, List.drop_succ_cons, List.drop_zero, List.take_succ_cons, List.take_zero, List.cons_append, List.nil_append, List.append_nil, List.drop_nil, List.take_nil, Nat.reduceAdd, Nat.reduceLeDiff, Nat.zero_add, Nat.add_zero, ↓reduceIte, Bool.not_true, Bool.not_false, decide_true, decide_false, eq_self, bne_self_eq_false, List.getElem?_cons_zero, List.getElem?_cons_succ, decide_eq_true_eq, Bool.false_eq_true, Bool.true_eq_false, reduceCtorEq, Nat.le_refl, s0, cl1, cl2, cl3, dl1, dl2, dl3]
  by_cases hn0 : l0 < 0
  · simp only [run0, run1, run2, run3, run4, noSlot, memN, RO.dst, lk, drop, forget, number, Nat.reduceBEq, cut?, splice?, builds, List.length_cons, List.length_nil, List.drop_succ_cons, List.drop_zero, List.take_succ_cons, List.take_zero, List.cons_append, List.nil_append, List.append_nil, List.drop_nil, List.take_nil, Nat.reduceAdd, Nat.reduceLeDiff, Nat.zero_add, Nat.add_zero, ↓reduceIte, Bool.not_true, Bool.not_false, decide_true, decide_false, eq_self, bne_self_eq_false, List.getElem?_cons_zero, List.getElem?_cons_succ, decide_eq_true_eq, Bool.false_eq_true, Bool.true_eq_false, reduceCtorEq, Nat.le_refl, hn0]
    exact ⟨_, rfl⟩
  have sm0 := s0k (by omega)
  obtain ⟨l1, s1, s1l, s1k⟩ := szChart_c hLChart hLRange (Z := Z) dv l0 (by omega) (by omega)
  simp only [run0, run1, run2, run3, run4, noSlot, memN, RO.dst, lk, drop, forget, number, Nat.reduceBEq, cut?, splice?, builds, List.length_cons, List.length_nil, List.drop_succ_cons, List.drop_zero, List.take_succ_cons, List.take_zero, List.cons_append, List.nil_append, List.append_nil, List.drop_nil, List.take_nil, Nat.reduceAdd, Nat.reduceLeDiff, Nat.zero_add, Nat.add_zero, ↓reduceIte, Bool.not_true, Bool.not_false, decide_true, decide_false, eq_self, bne_self_eq_false, List.getElem?_cons_zero, List.getElem?_cons_succ, decide_eq_true_eq, Bool.false_eq_true, Bool.true_eq_false, reduceCtorEq, Nat.le_refl, s1, hn0, cl1, cl2, cl3, dl1, dl2, dl3]
  by_cases hn1 : l1 < 0
  · simp only [run0, run1, run2, run3, run4, noSlot, memN, RO.dst, lk, drop, forget, number, Nat.reduceBEq, cut?, splice?, builds, List.length_cons, List.length_nil, List.drop_succ_cons, List.drop_zero, List.take_succ_cons, List.take_zero, List.cons_append, List.nil_append, List.append_nil, List.drop_nil, List.take_nil, Nat.reduceAdd, Nat.reduceLeDiff, Nat.zero_add, Nat.add_zero, ↓reduceIte, Bool.not_true, Bool.not_false, decide_true, decide_false, eq_self, bne_self_eq_false, List.getElem?_cons_zero, List.getElem?_cons_succ, decide_eq_true_eq, Bool.false_eq_true, Bool.true_eq_false, reduceCtorEq, Nat.le_refl, hn1]
    exact ⟨_, rfl⟩
  have sm1 := s1k (by omega)
  have flr : h.floor = h.next := hfl
  obtain ⟨y1, hq1, p1, e1, oq1, vq1, qq1⟩ := toChart_c hLChart hLRange (Z := Z) (h := ⟨h.next, h.next, h.get⟩) (Nat.le_refl _) (Chart.okL.up cv _) sm0
  obtain ⟨h1, mq1⟩ : ∃ g, Heap.mk hq1.next h.floor hq1.get = g := ⟨_, rfl⟩
  have o1 : On h h1 := by rw [← mq1]; exact ⟨⟨oq1.ext.1, oq1.ext.2⟩, rfl⟩
  have v1 := Chart.okI.up vq1 h.floor
  rw [mq1] at v1
  have q1 : Fre h p1 := ⟨qq1.lo, qq1.nd⟩
  replace cv := Chart.okL.on cv o1
  replace dv := Chart.okL.on dv o1
  have n1 := o1.ext.1
  have g1 := o1.fl
  have f1 := o1.le f0
  obtain ⟨vl1, vt1, vd1⟩ := Chart.lenI v1
  obtain ⟨y2, hq2, p2, e2, oq2, vq2, qq2⟩ := toChart_c hLChart hLRange (Z := Z) (h := ⟨h1.next, h1.next, h1.get⟩) (Nat.le_refl _) (Chart.okL.up dv _) sm1
  obtain ⟨h2, mq2⟩ : ∃ g, Heap.mk hq2.next h1.floor hq2.get = g := ⟨_, rfl⟩
  have o2 : On h1 h2 := by rw [← mq2]; exact ⟨⟨oq2.ext.1, oq2.ext.2⟩, rfl⟩
  have v2 := Chart.okI.up vq2 h1.floor
  rw [mq2] at v2
  have q2 : Fre h1 p2 := ⟨qq2.lo, qq2.nd⟩
  replace cv := Chart.okL.on cv o2
  replace dv := Chart.okL.on dv o2
  replace v1 := Chart.okI.on v1 o2
  have n2 := o2.ext.1
  have g2 := o2.fl
  have f2 := o2.le f1
  obtain ⟨vl2, vt2, vd2⟩ := Chart.lenI v2
  obtain ⟨hq3, e3, oq3⟩ := sMovedBetween_c hS01d hS11 hS12 (Z := Z) (h := ⟨h2.next, h2.next, h2.get⟩) (Nat.le_refl _) (Chart.okI.up v1 _) (Chart.okI.up v2 _) id cok dok (wfU idw)
  obtain ⟨h3, mq3⟩ : ∃ g, Heap.mk hq3.next h2.floor hq3.get = g := ⟨_, rfl⟩
  have o3 : On h2 h3 := by rw [← mq3]; exact ⟨⟨oq3.ext.1, oq3.ext.2⟩, rfl⟩
  replace cv := Chart.okL.on cv o3
  replace dv := Chart.okL.on dv o3
  replace v1 := Chart.okI.on v1 o3
  replace v2 := Chart.okI.on v2 o3
  have n3 := o3.ext.1
  have g3 := o3.fl
  have f3 := o3.le f2
  obtain ⟨y4, h4, p4, e4, o4, v4, q4⟩ := toChart_c hLChart hLRange (Z := Z) f3 cv sm0
  replace cv := Chart.okL.on cv o4
  replace dv := Chart.okL.on dv o4
  replace v1 := Chart.okI.on v1 o4
  replace v2 := Chart.okI.on v2 o4
  have n4 := o4.ext.1
  have g4 := o4.fl
  have f4 := o4.le f3
  obtain ⟨vl4, vt4, vd4⟩ := Chart.lenI v4
  obtain ⟨y5, h5, p5, e5, o5, v5, q5⟩ := toChart_c hLChart hLRange (Z := Z) f4 dv sm1
  replace cv := Chart.okL.on cv o5
  replace dv := Chart.okL.on dv o5
  replace v1 := Chart.okI.on v1 o5
  replace v2 := Chart.okI.on v2 o5
  replace v4 := Chart.okI.on v4 o5
  have n5 := o5.ext.1
  have g5 := o5.fl
  have f5 := o5.le f4
  obtain ⟨vl5, vt5, vd5⟩ := Chart.lenI v5
  obtain ⟨h6, e6, o6⟩ := MovedBetween_c hI11 hI12 hLibslicesIndexFuncimplRangeimplRange (Z := Z) f5 v4 v5 id cok dok (wfU idw)
  replace cv := Chart.okL.on cv o6
  replace dv := Chart.okL.on dv o6
  replace v1 := Chart.okI.on v1 o6
  replace v2 := Chart.okI.on v2 o6
  replace v4 := Chart.okI.on v4 o6
  replace v5 := Chart.okI.on v5 o6
  have n6 := o6.ext.1
  have g6 := o6.fl
  have f6 := o6.le f5
  obtain ⟨y7, hq7, p7, e7, oq7, vq7, qq7⟩ := toChart_c hLChart hLRange (Z := Z) (h := ⟨h6.next, h6.next, h6.get⟩) (Nat.le_refl _) (Chart.okL.up cv _) sm0
  obtain ⟨h7, mq7⟩ : ∃ g, Heap.mk hq7.next h6.floor hq7.get = g := ⟨_, rfl⟩
  have o7 : On h6 h7 := by rw [← mq7]; exact ⟨⟨oq7.ext.1, oq7.ext.2⟩, rfl⟩
  have v7 := Chart.okI.up vq7 h6.floor
  rw [mq7] at v7
  have q7 : Fre h6 p7 := ⟨qq7.lo, qq7.nd⟩
  replace cv := Chart.okL.on cv o7
  replace dv := Chart.okL.on dv o7
  replace v1 := Chart.okI.on v1 o7
  replace v2 := Chart.okI.on v2 o7
  replace v4 := Chart.okI.on v4 o7
  replace v5 := Chart.okI.on v5 o7
  have n7 := o7.ext.1
  have g7 := o7.fl
  have f7 := o7.le f6
  obtain ⟨vl7, vt7, vd7⟩ := Chart.lenI v7
  have c1 := eqChart_r hLChart hLRange (Z := Z) (h := ⟨h7.next, h7.next, h7.get⟩) (Chart.okI.up v4 _) (Chart.okI.up v7 _)
  obtain ⟨y8, hq8, p8, e8, oq8, vq8, qq8⟩ := toChart_c hLChart hLRange (Z := Z) (h := ⟨h7.next, h7.next, h7.get⟩) (Nat.le_refl _) (Chart.okL.up dv _) sm1
  obtain ⟨h8, mq8⟩ : ∃ g, Heap.mk hq8.next h7.floor hq8.get = g := ⟨_, rfl⟩
  have o8 : On h7 h8 := by rw [← mq8]; exact ⟨⟨oq8.ext.1, oq8.ext.2⟩, rfl⟩
  have v8 := Chart.okI.up vq8 h7.floor
  rw [mq8] at v8
  have q8 : Fre h7 p8 := ⟨qq8.lo, qq8.nd⟩
  replace cv := Chart.okL.on cv o8
  replace dv := Chart.okL.on dv o8
  replace v1 := Chart.okI.on v1 o8
  replace v2 := Chart.okI.on v2 o8
  replace v4 := Chart.okI.on v4 o8
  replace v5 := Chart.okI.on v5 o8
  have n8 := o8.ext.1
  have g8 := o8.fl
  have f8 := o8.le f7
  obtain ⟨vl8, vt8, vd8⟩ := Chart.lenI v8
  have c2 := eqChart_r hLChart hLRange (Z := Z) (h := ⟨h8.next, h8.next, h8.get⟩) (Chart.okI.up v5 _) (Chart.okI.up v8 _)
  simp only [run0, run1, run2, run3, run4, noSlot, memN, RO.dst, lk, drop, forget, number, Nat.reduceBEq, cut?, splice?, builds, List.length_cons, List.length_nil, List.drop_succ_cons, List.drop_zero, List.take_succ_cons, List.take_zero, List.cons_append, List.nil_append, List.append_nil, List.drop_nil, List.take_nil, Nat.reduceAdd, Nat.reduceLeDiff, Nat.zero_add, Nat.add_zero, ↓reduceIte, Bool.not_true, Bool.not_false, decide_true, decide_false, eq_self, bne_self_eq_false, List.getElem?_cons_zero, List.getElem?_cons_succ, decide_eq_true_eq, Bool.false_eq_true, Bool.true_eq_false, reduceCtorEq, Nat.le_refl, hn0, hn1, cl1, cl2, cl3, dl1, dl2, dl3, mq1, e1, vl1, vt1, vd1, mq2, e2, vl2, vt2, vd2, mq3, e3, e4, vl4, vt4, vd4, e5, vl5, vt5, vd5, e6, mq7, e7, vl7, vt7, vd7, c1, mq8, e8, vl8, vt8, vd8, c2]
  exact ⟨_, rfl⟩
end Go.Proofs.Ytgogajbfiocdbaa.A
