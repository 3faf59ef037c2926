/- Whether an id has moved, by the program. -/
import Derived.Test.YtgogajbfiocdbaaCChart2
namespace Go.Proofs.Ytgogajbfiocdbaa.A
open Go
set_option linter.unusedSimpArgs false
set_option linter.unusedVariables false
section
variable {F : Nat → Option RF} {Z : CallF} {h : Heap} {cs cs' : List Cell} {c d : Chart} {fp fq : List Nat}
theorem MovedBetween_run (hI11 : Has F tI11) (hI12 : Has F tI12) (hLi : Has F tLibslicesIndexFuncimplRangeimplRange) (v : Chart.RI h cs c fp) (u : Chart.RI h cs' d fq) (ok : c.Ok) (ok' : d.Ok) {id : Int} (g0 : 0 ≤ id) (g1 : id ≤ 18446744073709551615) :
    ∃ h', call F Z 74 [.agg cs, .agg cs', .c (.int .u64 id)] h = some (.c (.bool (c.moved d id)), h') ∧ On h h' := by
  obtain ⟨_, k1, e1, m1, o1⟩ := isChart_q (Z := Z) hI11 hI12 hLi v ok
  obtain ⟨_, k2, e2, m2, o2⟩ := isChart_q (Z := Z) hI11 hI12 hLi (Chart.okI.mono u o1.ext) ok'
  rw [o1.fl] at m2
  obtain ⟨x, p, rfl, rfl, w⟩ := v
  obtain ⟨x', p', rfl, rfl, w'⟩ := u
  rw [call_run F Z (hI12.lk (g := 74) rfl) _ _ rfl]
  have o12 := o1.trans o2
  cases hg : c.good with
  | false =>
    rw [hg] at e1
    simp only [run0, run1, run2, run3, run4, noSlot, memN, RO.dst, lk, drop, forget, number, Nat.reduceBEq, cut?, splice?, builds, List.length_cons, List.length_nil, List.drop_succ_cons, List.drop_zero, List.take_succ_cons, List.take_zero, List.cons_append, List.nil_append, List.append_nil, List.drop_nil, List.take_nil, Nat.reduceAdd, Nat.reduceLeDiff, Nat.zero_add, Nat.add_zero, ↓reduceIte, Bool.not_true, Bool.not_false, decide_true, decide_false, eq_self, bne_self_eq_false, List.getElem?_cons_zero, List.getElem?_cons_succ, decide_eq_true_eq, Bool.false_eq_true, Bool.true_eq_false, reduceCtorEq, Nat.le_refl, e1, m1]
    exact ⟨_, by simp [Chart.moved, hg], o1⟩
  | true =>
    rw [hg] at e1
    cases hg' : d.good with
    | false =>
      rw [hg'] at e2
      have f1 := o1.fl
      simp only [run0, run1, run2, run3, run4, noSlot, memN, RO.dst, lk, drop, forget, number, Nat.reduceBEq, cut?, splice?, builds, List.length_cons, List.length_nil, List.drop_succ_cons, List.drop_zero, List.take_succ_cons, List.take_zero, List.cons_append, List.nil_append, List.append_nil, List.drop_nil, List.take_nil, Nat.reduceAdd, Nat.reduceLeDiff, Nat.zero_add, Nat.add_zero, ↓reduceIte, Bool.not_true, Bool.not_false, decide_true, decide_false, eq_self, bne_self_eq_false, List.getElem?_cons_zero, List.getElem?_cons_succ, decide_eq_true_eq, Bool.false_eq_true, Bool.true_eq_false, reduceCtorEq, Nat.le_refl, e1, m1, e2, f1, m2]
      exact ⟨_, by simp [Chart.moved, hg, hg'], o12⟩
    | true =>
      rw [hg'] at e2
      obtain ⟨i, hi, q1, _, q2, _, _⟩ := Chart.has (c := c) (Chart.good_ranges hg) g0 g1
      obtain ⟨i', hi', q1', _, q2', _, _⟩ := Chart.has (c := d) (Chart.good_ranges hg') g0 g1
      obtain ⟨_, k3, e3, m3, o3⟩ := findRange_q (Z := Z) hI11 hLi (w.on (Fl.ok _) o12) id
      have o13 := o12.trans o3
      obtain ⟨_, k4, e4, m4, o4⟩ := findRange_q (Z := Z) hI11 hLi (w'.on (Fl.ok _) o13) id
      rw [o12.fl] at m3
      rw [o13.fl] at m4
      rw [q1] at e3
      rw [q1'] at e4
      have f1 := o1.fl
      have f2 := o12.fl
      have f3 := o13.fl
      have l3 : ∀ j n, loadP k3 x.sid i j n = cut? (Range.at_ c.ranges i).enc j n := (w.on (Fl.ok _) o13).loadD Range.none_ hi
      have l4 : ∀ j n, loadP k4 x'.sid i' j n = cut? (Range.at_ d.ranges i').enc j n := (w'.on (Fl.ok _) (o13.trans o4)).loadD Range.none_ hi'
      simp only [run0, run1, run2, run3, run4, noSlot, memN, RO.dst, lk, drop, forget, number, Nat.reduceBEq, cut?, splice?, builds, List.length_cons, List.length_nil, List.drop_succ_cons, List.drop_zero, List.take_succ_cons, List.take_zero, List.cons_append, List.nil_append, List.append_nil, List.drop_nil, List.take_nil, Nat.reduceAdd, Nat.reduceLeDiff, Nat.zero_add, Nat.add_zero, ↓reduceIte, Bool.not_true, Bool.not_false, decide_true, decide_false, eq_self, bne_self_eq_false, List.getElem?_cons_zero, List.getElem?_cons_succ, decide_eq_true_eq, Bool.false_eq_true, Bool.true_eq_false, reduceCtorEq, Nat.le_refl, e1, m1, e2, f1, m2, e3, f2, m3, e4, f3, m4, l3, l4, w.idx hi, w'.idx hi', Range.enc]
      exact ⟨_, by simp [Chart.moved, hg, hg', q2, q2'], o13.trans o4⟩
end
end Go.Proofs.Ytgogajbfiocdbaa.A
