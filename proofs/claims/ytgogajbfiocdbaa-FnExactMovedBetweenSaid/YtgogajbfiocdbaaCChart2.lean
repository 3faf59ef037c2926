/- Routes by a chart, and whether an id has moved. -/
import Derived.Test.YtgogajbfiocdbaaCChart
namespace Go.Proofs.Ytgogajbfiocdbaa.A
open Go
set_option linter.unusedSimpArgs false
set_option linter.unusedVariables false
def Chart.moved (c d : Chart) (id : Int) : Bool := c.good && (d.good && (c.of_ id).group != (d.of_ id).group)
section
variable {F : Nat → Option RF} {Z : CallF} {h : Heap} {cs cs' : List Cell} {c d : Chart} {fp fq : List Nat}
theorem isChart_q (hI11 : Has F tI11) (hI12 : Has F tI12) (hLi : Has F tLibslicesIndexFuncimplRangeimplRange) (v : Chart.RI h cs c fp) (ok : c.Ok) :
    ∃ h' g, call F Z 106 [.agg cs] ⟨h.next, h.next, h.get⟩ = some (.c (.bool c.good), h') ∧ Heap.mk h'.next h.floor h'.get = g ∧ On h g := by
  obtain ⟨h1, e1, o1⟩ := isChart_run (Z := Z) hI11 hI12 hLi (Chart.okI.up v h.next) ok
  exact quietly e1 o1
theorem RouteOf_run (hI11 : Has F tI11) (hI12 : Has F tI12) (hLi : Has F tLibslicesIndexFuncimplRangeimplRange) (v : Chart.RI h cs c fp) (ok : c.Ok) {id : Int} (g0 : 0 ≤ id) (g1 : id ≤ 18446744073709551615) :
    ∃ h', call F Z 70 [.agg cs, .c (.int .u64 id)] h = some (.tup [.c (.int .i64 (c.route id).1), .c (.int .i64 (c.route id).2)], h') ∧ On h h' := by
  obtain ⟨h1, e1, o1⟩ := isChart_run (Z := Z) hI11 hI12 hLi v ok
  obtain ⟨x, p, rfl, rfl, w⟩ := v
  rw [call_run F Z (hI12.lk (g := 70) rfl) _ _ rfl]
  cases hg : c.good with
  | false =>
    rw [hg] at e1
    simp only [run0, run1, run2, run3, run4, noSlot, memN, RO.dst, lk, drop, forget, number, Nat.reduceBEq, cut?, splice?, builds, List.length_cons, List.length_nil, List.drop_succ_cons, List.drop_zero, List.take_succ_cons, List.take_zero, List.cons_append, List.nil_append, List.append_nil, List.drop_nil, List.take_nil, Nat.reduceAdd, Nat.reduceLeDiff, Nat.zero_add, Nat.add_zero, ↓reduceIte, Bool.not_true, Bool.not_false, decide_true, decide_false, eq_self, bne_self_eq_false, List.getElem?_cons_zero, List.getElem?_cons_succ, decide_eq_true_eq, Bool.false_eq_true, Bool.true_eq_false, reduceCtorEq, Nat.le_refl, e1]
    exact ⟨_, by simp [Chart.route, hg], o1⟩
  | true =>
    rw [hg] at e1
    obtain ⟨i, hi, q1, _, q2, _, _⟩ := Chart.has (c := c) (Chart.good_ranges hg) g0 g1
    have w1 := w.on (Fl.ok _) o1
    obtain ⟨hq, g, fr, hgq, on2⟩ := findRange_q (Z := Z) hI11 hLi w1 id
    rw [q1] at fr
    have hld : ∀ j n, loadP g x.sid i j n = cut? (Range.at_ c.ranges i).enc j n := (w1.on (Fl.ok _) on2).loadD Range.none_ hi
    simp only [run0, run1, run2, run3, run4, noSlot, memN, RO.dst, lk, drop, forget, number, Nat.reduceBEq, cut?, splice?, builds, List.length_cons, List.length_nil, List.drop_succ_cons, List.drop_zero, List.take_succ_cons, List.take_zero, List.cons_append, List.nil_append, List.append_nil, List.drop_nil, List.take_nil, Nat.reduceAdd, Nat.reduceLeDiff, Nat.zero_add, Nat.add_zero, ↓reduceIte, Bool.not_true, Bool.not_false, decide_true, decide_false, eq_self, bne_self_eq_false, List.getElem?_cons_zero, List.getElem?_cons_succ, decide_eq_true_eq, Bool.false_eq_true, Bool.true_eq_false, reduceCtorEq, Nat.le_refl, e1, fr, hgq, hld, w.idx hi, Range.enc]
    exact ⟨_, by simp [Chart.route, hg, q2], o1.trans on2⟩
theorem sRouteOf_run (hS : Has F tS01d) (hS11 : Has F tS11) (hS12 : Has F tS12) (v : Chart.RI h cs c fp) (ok : c.Ok) {id : Int} (g0 : 0 ≤ id) (g1 : id ≤ 18446744073709551615) :
    ∃ h', call F Z 69 [.agg cs, .c (.int .u64 id)] h = some (.tup [.c (.int .i64 (c.route id).1), .c (.int .i64 (c.route id).2)], h') ∧ On h h' := by
  have e1 := sChartOk_run (Z := Z) hS hS11 hS12 v ok
  obtain ⟨x, p, rfl, rfl, w⟩ := v
  rw [call_run F Z (hS12.lk (g := 69) rfl) _ _ rfl]
  cases hg : c.good with
  | false =>
    rw [hg] at e1
    simp only [run0, run1, run2, run3, run4, noSlot, memN, RO.dst, lk, drop, forget, number, Nat.reduceBEq, cut?, splice?, builds, List.length_cons, List.length_nil, List.drop_succ_cons, List.drop_zero, List.take_succ_cons, List.take_zero, List.cons_append, List.nil_append, List.append_nil, List.drop_nil, List.take_nil, Nat.reduceAdd, Nat.reduceLeDiff, Nat.zero_add, Nat.add_zero, ↓reduceIte, Bool.not_true, Bool.not_false, decide_true, decide_false, eq_self, bne_self_eq_false, List.getElem?_cons_zero, List.getElem?_cons_succ, decide_eq_true_eq, Bool.false_eq_true, Bool.true_eq_false, reduceCtorEq, Nat.le_refl, e1]
    exact ⟨_, by simp [Chart.route, hg], On.refl h⟩
  | true =>
    rw [hg] at e1
    obtain ⟨i, hi, q1, q5, q2, _, _⟩ := Chart.has (c := c) (Chart.good_ranges hg) g0 g1
    obtain ⟨hq, g, fr, hgq, on2⟩ := quietly (sFindRange_run (Z := Z) hS hS11 (w.up (Fl.ok _) h.next) ok.ranges id) (On.refl _)
    rw [Chart.good_ranges hg, q5] at fr
    simp only [cond_true] at fr
    have hld : ∀ j n, loadP g x.sid i j n = cut? (Range.at_ c.ranges i).enc j n := (w.on (Fl.ok _) on2).loadD Range.none_ hi
    simp only [run0, run1, run2, run3, run4, noSlot, memN, RO.dst, lk, drop, forget, number, Nat.reduceBEq, cut?, splice?, builds, List.length_cons, List.length_nil, List.drop_succ_cons, List.drop_zero, List.take_succ_cons, List.take_zero, List.cons_append, List.nil_append, List.append_nil, List.drop_nil, List.take_nil, Nat.reduceAdd, Nat.reduceLeDiff, Nat.zero_add, Nat.add_zero, ↓reduceIte, Bool.not_true, Bool.not_false, decide_true, decide_false, eq_self, bne_self_eq_false, List.getElem?_cons_zero, List.getElem?_cons_succ, decide_eq_true_eq, Bool.false_eq_true, Bool.true_eq_false, reduceCtorEq, Nat.le_refl, e1, fr, hgq, hld, w.idx hi, Range.enc]
    exact ⟨_, by simp [Chart.route, hg, q2], on2⟩
theorem sMovedBetween_run (hS : Has F tS01d) (hS11 : Has F tS11) (hS12 : Has F tS12) (v : Chart.RI h cs c fp) (u : Chart.RI h cs' d fq) (ok : c.Ok) (ok' : d.Ok) {id : Int} (g0 : 0 ≤ id) (g1 : id ≤ 18446744073709551615) :
    ∃ h', call F Z 73 [.agg cs, .agg cs', .c (.int .u64 id)] h = some (.c (.bool (c.moved d id)), h') ∧ On h h' := by
  obtain ⟨h1, e1, o1⟩ := sRouteOf_run (Z := Z) hS hS11 hS12 v ok g0 g1
  obtain ⟨h2, e2, o2⟩ := sRouteOf_run (Z := Z) hS hS11 hS12 (Chart.okI.mono u o1.ext) ok' g0 g1
  have r1 : (0 ≤ (c.route id).1) ↔ c.good = true := by
    unfold Chart.route
    cases hg : c.good with
    | false => simp
    | true =>
      obtain ⟨i, hi, q1, _, q2, _, _⟩ := Chart.has (c := c) (Chart.good_ranges hg) g0 g1
      have := ((rangesOk_fit (Chart.good_ranges hg)).grp i hi).1
      simp only [cond_true, q2]
      simp [this]
  have r2 : (0 ≤ (d.route id).1) ↔ d.good = true := by
    unfold Chart.route
    cases hg : d.good with
    | false => simp
    | true =>
      obtain ⟨i, hi, q1, _, q2, _, _⟩ := Chart.has (c := d) (Chart.good_ranges hg) g0 g1
      have := ((rangesOk_fit (Chart.good_ranges hg)).grp i hi).1
      simp only [cond_true, q2]
      simp [this]
  obtain ⟨x, p, rfl, rfl, w⟩ := v
  obtain ⟨x', p', rfl, rfl, w'⟩ := u
  rw [call_run F Z (hS12.lk (g := 73) rfl) _ _ rfl]
  simp only [run0, run1, run2, run3, run4, noSlot, memN, RO.dst, lk, drop, forget, number, Nat.reduceBEq, cut?, splice?, builds, List.length_cons, List.length_nil, List.drop_succ_cons, List.drop_zero, List.take_succ_cons, List.take_zero, List.cons_append, List.nil_append, List.append_nil, List.drop_nil, List.take_nil, Nat.reduceAdd, Nat.reduceLeDiff, Nat.zero_add, Nat.add_zero, ↓reduceIte, Bool.not_true, Bool.not_false, decide_true, decide_false, eq_self, bne_self_eq_false, List.getElem?_cons_zero, List.getElem?_cons_succ, decide_eq_true_eq, Bool.false_eq_true, Bool.true_eq_false, reduceCtorEq, Nat.le_refl, e1, e2]
  refine ⟨h2, ?_, o1.trans o2⟩
  clear e1 e2 w w'
  (repeat' ((first | (rw [gF_if]; split) | (rw [condC_if]; split) | (rw [pickR_if]; split)) <;> (rename_i hh; (try simp only [Bool.not_eq_true, decide_eq_true_eq] at hh); simp only [hh, run0, run1, run2, run3, run4, noSlot, memN, RO.dst, lk, drop, forget, number, Nat.reduceBEq, cut?, splice?, builds, List.length_cons, List.length_nil, List.drop_succ_cons, List.drop_zero, List.take_succ_cons, List.take_zero, List.cons_append, List.nil_append, List.append_nil, List.drop_nil, List.take_nil, Nat.reduceAdd, Nat.reduceLeDiff, Nat.zero_add, Nat.add_zero, ↓reduceIte, Bool.not_true, Bool.not_false, decide_true, decide_false, eq_self, bne_self_eq_false, List.getElem?_cons_zero, List.getElem?_cons_succ, decide_eq_true_eq, Bool.false_eq_true, Bool.true_eq_false, reduceCtorEq, Nat.le_refl]))) <;> refine fin_bool ?_ <;> simp_all [Chart.moved, Chart.route]
end
end Go.Proofs.Ytgogajbfiocdbaa.A
