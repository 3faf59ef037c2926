/- PastOk: the law's function, run on any arguments, answers true. -/
import Derived.Test.YtgogajbfiocdbaaCPast2
import Derived.Test.YtgogajbfiocdbaaGWPastOk
namespace Go.Proofs.Ytgogajbfiocdbaa.A
open Go
set_option linter.unusedSimpArgs false
set_option linter.unusedVariables false
theorem law_ExactPastOk {F : Nat → Option RF} {Z : CallF} (hI17 : Has F tI17) (hLLedgerCall : Has F tLLedgerCall) (hLPast : Has F tLPast) (hS01d : Has F tS01d) (hS17 : Has F tS17) (hWPastOk : Has F tWPastOk) (h : Heap) (avs : List V) (hfl : h.floor = h.next) (w : ArgsWf h 8 [shPastS] avs) : ∃ h', call F Z 39 avs h = some (.c (.bool true), h') := by
  obtain ⟨x, rest, rfl, w1, w2⟩ := ArgsWf.slice w
  obtain rfl := w2.nil
  obtain ⟨xs, fp, v, _⟩ := SlR.ofWf (R := Fl Past.enc) (A := fun _ => True) (fun r hr => by obtain ⟨k, a, b, m, s, e, c, v, rfl⟩ := Wf.past hr.2; exact ⟨⟨k, a, b, m, s, e, c, v⟩, [], ⟨rfl, rfl⟩, trivial⟩) w1
  rw [call_run F Z (hWPastOk.lk (g := 39) rfl) _ _ rfl]
  simp only [run0, run1, run2, run3, run4, noSlot, memN, RO.dst, lk, drop, forget, number, Nat.reduceBEq, cond_true, cond_false, Option.bind_some, cut?, splice?, builds, List.length_cons, List.length_nil, List.drop_succ_cons, List.drop_zero, List.take_succ_cons, List.take_zero, List.cons_append, List.nil_append, List.append_nil, List.drop_nil, List.take_nil, Nat.reduceAdd, Nat.reduceLeDiff, Nat.zero_add, Nat.add_zero, ↓reduceIte, Bool.not_true, Bool.not_false, decide_true, decide_false, eq_self, bne_self_eq_false, List.getElem?_cons_zero, List.getElem?_cons_succ, decide_eq_true_eq, Bool.false_eq_true, Bool.true_eq_false, reduceCtorEq, Nat.le_refl, szPastS_run hLPast v 1048576 (by omega) (by omega)]
  by_cases hn : (1048576 : Int) - xs.length < 0
  · simp only [run0, run1, run2, run3, run4, noSlot, memN, RO.dst, lk, drop, forget, number, Nat.reduceBEq, cond_true, cond_false, Option.bind_some, cut?, splice?, builds, List.length_cons, List.length_nil, List.drop_succ_cons, List.drop_zero, List.take_succ_cons, List.take_zero, List.cons_append, List.nil_append, List.append_nil, List.drop_nil, List.take_nil, Nat.reduceAdd, Nat.reduceLeDiff, Nat.zero_add, Nat.add_zero, ↓reduceIte, Bool.not_true, Bool.not_false, decide_true, decide_false, eq_self, bne_self_eq_false, List.getElem?_cons_zero, List.getElem?_cons_succ, decide_eq_true_eq, Bool.false_eq_true, Bool.true_eq_false, reduceCtorEq, Nat.le_refl, hn, show ((-1 : Int) < 0) from by omega]
    exact ⟨_, rfl⟩
  · have hl : xs.length ≤ 1048576 := by omega
    have f0 : h.floor ≤ h.next := by omega
    obtain ⟨y1, h1, p1, e1, o1, v1, _⟩ := toPastS_c (Z := Z) hLPast hLLedgerCall f0 v hl
    have f1 := o1.le f0
    obtain ⟨y2, h2, p2, e2, o2, v2, _⟩ := toPastS_c (Z := Z) hLPast hLLedgerCall f1 (v.on (Fl.ok _) o1) hl
    have f2 := o2.le f1
    obtain ⟨y3, h3, p3, e3, o3, v3, _⟩ := toPastS_c (Z := Z) hLPast hLLedgerCall f2 (v.on (Fl.ok _) (o1.trans o2)) hl
    simp only [run0, run1, run2, run3, run4, noSlot, memN, RO.dst, lk, drop, forget, number, Nat.reduceBEq, cond_true, cond_false, Option.bind_some, cut?, splice?, builds, List.length_cons, List.length_nil, List.drop_succ_cons, List.drop_zero, List.take_succ_cons, List.take_zero, List.cons_append, List.nil_append, List.append_nil, List.drop_nil, List.take_nil, Nat.reduceAdd, Nat.reduceLeDiff, Nat.zero_add, Nat.add_zero, ↓reduceIte, Bool.not_true, Bool.not_false, decide_true, decide_false, eq_self, bne_self_eq_false, List.getElem?_cons_zero, List.getElem?_cons_succ, decide_eq_true_eq, Bool.false_eq_true, Bool.true_eq_false, reduceCtorEq, Nat.le_refl, hn, e1, sPastOk_run hS17 hS01d v1, e2, PastOk_run hI17 v2, e3, eqPastS_run hLPast hLLedgerCall (v2.on (Fl.ok _) o3) v3]
    exact ⟨_, rfl⟩
end Go.Proofs.Ytgogajbfiocdbaa.A
