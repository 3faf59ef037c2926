/- RouteOf: the law's function, run on any arguments, answers true. -/
import Derived.Test.YtgogajbfiocdbaaCChart4
import Derived.Test.YtgogajbfiocdbaaGWRouteOf
namespace Go.Proofs.Ytgogajbfiocdbaa.A
open Go
set_option linter.unusedSimpArgs false
set_option linter.unusedVariables false
set_option maxHeartbeats 2000000 in
theorem law_ExactRouteOf {F : Nat → Option RF} {Z : CallF} (hI11 : Has F tI11) (hI12 : Has F tI12) (hLChart : Has F tLChart) (hLRange : Has F tLRange) (hLibslicesIndexFuncimplRangeimplRange : Has F tLibslicesIndexFuncimplRangeimplRange) (hS01d : Has F tS01d) (hS11 : Has F tS11) (hS12 : Has F tS12) (hWRouteOf : Has F tWRouteOf) (h : Heap) (avs : List V) (hfl : h.floor = h.next) (w : ArgsWf h 8 [shChart, .int .u64] avs) : ∃ h', call F Z 66 avs h = some (.c (.bool true), h') := by
  obtain ⟨cc, _, rfl, cw, w1⟩ := ArgsWf.struct w
  obtain ⟨c, cp, cv, cok⟩ := Wf.isChart cw
  obtain ⟨cl1, cl2, cl3⟩ := Chart.lenL cv
  obtain ⟨id, _, rfl, idw, w2⟩ := ArgsWf.int w1
  obtain rfl := w2.nil
  have f0 : h.floor ≤ h.next := by omega
  rw [call_run F Z (hWRouteOf.lk (g := 66) rfl) _ _ rfl]
  obtain ⟨l0, s0, s0l, s0k⟩ := szChart_c hLChart hLRange (Z := Z) cv 1048576 (by omega) (by omega)
  simp only [run0, run1, run2, run3, run4, noSlot, memN, RO.dst, lk, drop, forget, number, Nat.reduceBEq, cut?, splice?, builds, List.length_cons, List.length_nil, List.drop_succ_cons, List.drop_zero, List.take_succ_cons, List.take_zero, List.cons_append, List.nil_append, List.append_nil, List.drop_nil, List.take_nil, Nat.reduceAdd, Nat.reduceLeDiff, Nat.zero_add, Nat.add_zero, ↓reduceIte, Bool.not_true, Bool.not_false, decide_true, decide_false, eq_self, bne_self_eq_false, List.getElem?_cons_zero, List.getElem?_cons_succ, decide_eq_true_eq, Bool.false_eq_true, Bool.true_eq_false, reduceCtorEq, Nat.le_refl, s0, cl1, cl2, cl3]
  by_cases hn0 : l0 < 0
  · simp only [run0, run1, run2, run3, run4, noSlot, memN, RO.dst, lk, drop, forget, number, Nat.reduceBEq, cut?, splice?, builds, List.length_cons, List.length_nil, List.drop_succ_cons, List.drop_zero, List.take_succ_cons, List.take_zero, List.cons_append, List.nil_append, List.append_nil, List.drop_nil, List.take_nil, Nat.reduceAdd, Nat.reduceLeDiff, Nat.zero_add, Nat.add_zero, ↓reduceIte, Bool.not_true, Bool.not_false, decide_true, decide_false, eq_self, bne_self_eq_false, List.getElem?_cons_zero, List.getElem?_cons_succ, decide_eq_true_eq, Bool.false_eq_true, Bool.true_eq_false, reduceCtorEq, Nat.le_refl, hn0]
    exact ⟨_, rfl⟩
  have sm0 := s0k (by omega)
  have flr : h.floor = h.next := hfl
  obtain ⟨y1, h1, p1, e1, o1, v1, q1⟩ := toChart_c hLChart hLRange (Z := Z) f0 cv sm0
  replace cv := Chart.okL.on cv o1
  have n1 := o1.ext.1
  have g1 := o1.fl
  have f1 := o1.le f0
  obtain ⟨vl1, vt1, vd1⟩ := Chart.lenI v1
  obtain ⟨h2, e2, o2⟩ := sRouteOf_c hS01d hS11 hS12 (Z := Z) f1 v1 id cok (wfU idw)
  replace cv := Chart.okL.on cv o2
  replace v1 := Chart.okI.on v1 o2
  have n2 := o2.ext.1
  have g2 := o2.fl
  have f2 := o2.le f1
  obtain ⟨y3, h3, p3, e3, o3, v3, q3⟩ := toChart_c hLChart hLRange (Z := Z) f2 cv sm0
  replace cv := Chart.okL.on cv o3
  replace v1 := Chart.okI.on v1 o3
  have n3 := o3.ext.1
  have g3 := o3.fl
  have f3 := o3.le f2
  obtain ⟨vl3, vt3, vd3⟩ := Chart.lenI v3
  obtain ⟨h4, e4, o4⟩ := RouteOf_c hI11 hI12 hLibslicesIndexFuncimplRangeimplRange (Z := Z) f3 v3 id cok (wfU idw)
  replace cv := Chart.okL.on cv o4
  replace v1 := Chart.okI.on v1 o4
  replace v3 := Chart.okI.on v3 o4
  have n4 := o4.ext.1
  have g4 := o4.fl
  have f4 := o4.le f3
  obtain ⟨y5, hq5, p5, e5, oq5, vq5, qq5⟩ := toChart_c hLChart hLRange (Z := Z) (h := ⟨h4.next, h4.next, h4.get⟩) (Nat.le_refl _) (Chart.okL.up cv _) sm0
  obtain ⟨h5, mq5⟩ : ∃ g, Heap.mk hq5.next h4.floor hq5.get = g := ⟨_, rfl⟩
  have o5 : On h4 h5 := by rw [← mq5]; exact ⟨⟨oq5.ext.1, oq5.ext.2⟩, rfl⟩
  have v5 := Chart.okI.up vq5 h4.floor
  rw [mq5] at v5
  have q5 : Fre h4 p5 := ⟨qq5.lo, qq5.nd⟩
  replace cv := Chart.okL.on cv o5
  replace v1 := Chart.okI.on v1 o5
  replace v3 := Chart.okI.on v3 o5
  have n5 := o5.ext.1
  have g5 := o5.fl
  have f5 := o5.le f4
  obtain ⟨vl5, vt5, vd5⟩ := Chart.lenI v5
  have c1 := eqChart_r hLChart hLRange (Z := Z) (h := ⟨h5.next, h5.next, h5.get⟩) (Chart.okI.up v3 _) (Chart.okI.up v5 _)
  simp only [run0, run1, run2, run3, run4, noSlot, memN, RO.dst, lk, drop, forget, number, Nat.reduceBEq, cut?, splice?, builds, List.length_cons, List.length_nil, List.drop_succ_cons, List.drop_zero, List.take_succ_cons, List.take_zero, List.cons_append, List.nil_append, List.append_nil, List.drop_nil, List.take_nil, Nat.reduceAdd, Nat.reduceLeDiff, Nat.zero_add, Nat.add_zero, ↓reduceIte, Bool.not_true, Bool.not_false, decide_true, decide_false, eq_self, bne_self_eq_false, List.getElem?_cons_zero, List.getElem?_cons_succ, decide_eq_true_eq, Bool.false_eq_true, Bool.true_eq_false, reduceCtorEq, Nat.le_refl, hn0, cl1, cl2, cl3, e1, vl1, vt1, vd1, e2, e3, vl3, vt3, vd3, e4, mq5, e5, vl5, vt5, vd5, c1]
  exact ⟨_, rfl⟩
end Go.Proofs.Ytgogajbfiocdbaa.A
