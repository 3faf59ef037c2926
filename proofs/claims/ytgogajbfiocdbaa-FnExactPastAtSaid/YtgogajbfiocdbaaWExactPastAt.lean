/- PastAt: the law's function, run on any arguments, answers true. -/
import Derived.Test.YtgogajbfiocdbaaCPast3
import Derived.Test.YtgogajbfiocdbaaGWPastAt
namespace Go.Proofs.Ytgogajbfiocdbaa.A
open Go
set_option linter.unusedSimpArgs false
set_option linter.unusedVariables false
set_option maxHeartbeats 1000000 in
theorem law_ExactPastAt {F : Nat → Option RF} {Z : CallF} (hI17 : Has F tI17) (hLLedgerCall : Has F tLLedgerCall) (hLPast : Has F tLPast) (hS01d : Has F tS01d) (hS17 : Has F tS17) (hWPastAt : Has F tWPastAt) (h : Heap) (avs : List V) (hfl : h.floor = h.next) (w : ArgsWf h 8 [shPastS, .int .i64] avs) : ∃ h', call F Z 51 avs h = some (.c (.bool true), h') := by
  obtain ⟨x, rest, rfl, w1, w2⟩ := ArgsWf.slice w
  obtain ⟨t, _, rfl, _, w3⟩ := ArgsWf.int w2
  obtain rfl := w3.nil
  obtain ⟨xs, fp, v, _⟩ := SlR.ofWf (R := Fl Past.enc) (A := fun _ => True) (fun r hr => by obtain ⟨k, a, b, m, s, e, c, v, rfl⟩ := Wf.past hr.2; exact ⟨⟨k, a, b, m, s, e, c, v⟩, [], ⟨rfl, rfl⟩, trivial⟩) w1
  rw [call_run F Z (hWPastAt.lk (g := 51) rfl) _ _ rfl]
  simp only [run0, run1, run2, run3, run4, noSlot, memN, RO.dst, lk, drop, forget, number, Nat.reduceBEq, cond_true, cond_false, Option.bind_some, cut?, splice?, builds, List.length_cons, List.length_nil, List.drop_succ_cons, List.drop_zero, List.take_succ_cons, List.take_zero, List.cons_append, List.nil_append, List.append_nil, List.drop_nil, List.take_nil, Nat.reduceAdd, Nat.reduceLeDiff, Nat.zero_add, Nat.add_zero, ↓reduceIte, Bool.not_true, Bool.not_false, decide_true, decide_false, eq_self, bne_self_eq_false, List.getElem?_cons_zero, List.getElem?_cons_succ, decide_eq_true_eq, Bool.false_eq_true, Bool.true_eq_false, reduceCtorEq, Nat.le_refl, szPastS_run hLPast v 1048576 (by omega) (by omega)]
  by_cases hn : (1048576 : Int) - xs.length < 0
  · simp only [run0, run1, run2, run3, run4, noSlot, memN, RO.dst, lk, drop, forget, number, Nat.reduceBEq, cond_true, cond_false, Option.bind_some, cut?, splice?, builds, List.length_cons, List.length_nil, List.drop_succ_cons, List.drop_zero, List.take_succ_cons, List.take_zero, List.cons_append, List.nil_append, List.append_nil, List.drop_nil, List.take_nil, Nat.reduceAdd, Nat.reduceLeDiff, Nat.zero_add, Nat.add_zero, ↓reduceIte, Bool.not_true, Bool.not_false, decide_true, decide_false, eq_self, bne_self_eq_false, List.getElem?_cons_zero, List.getElem?_cons_succ, decide_eq_true_eq, Bool.false_eq_true, Bool.true_eq_false, reduceCtorEq, Nat.le_refl, hn, show ((-1 : Int) < 0) from by omega]
    exact ⟨_, rfl⟩
  · have hl : xs.length ≤ 1048576 := by omega
    have hp : (pastAt xs t).length ≤ 1048576 := by
      unfold pastAt
      cases goodPast xs with
      | false => simp
      | true =>
        simp only [cond_true]
        have := flatMap_le (Past.cutAt t) (Past.cutAt_len t) xs
        omega
    have f0 : h.floor ≤ h.next := by omega
    -- the reference
    obtain ⟨y1, h1, p1, e1, o1, v1, _⟩ := toPastS_c (Z := Z) hLPast hLLedgerCall f0 v hl
    have f1 := o1.le f0
    obtain ⟨w0, h2, e2, a2⟩ := sPastAt_run (Z := Z) hS17 hS01d f1 v1 hl t
    obtain ⟨o2, p2, v2, q2⟩ := a2.flat
    have f2 := o2.le f1
    -- the program
    obtain ⟨x0, h3, p3, e3, o3, v3, q3⟩ := toPastS_c (Z := Z) hLPast hLLedgerCall f2 (v.on (Fl.ok _) (o1.trans o2)) hl
    have f3 := o3.le f2
    obtain ⟨g0, h4, e4, a4⟩ := PastAt_run (Z := Z) hI17 f3 v3 hl t
    obtain ⟨o4, p4, v4, q4⟩ := a4.flat
    have f4 := o4.le f3
    have c1 := eqPastS_run (Z := Z) hLPast hLLedgerCall v4 (v2.on (Fl.ok _) (o3.trans o4))
    -- the argument is what it was
    obtain ⟨y5, h5, p5, e5, o5, v5, _⟩ := toPastS_c (Z := Z) hLPast hLLedgerCall f4 (v.on (Fl.ok _) (((o1.trans o2).trans o3).trans o4)) hl
    have f5 := o5.le f4
    have x05 := v3.on (Fl.ok _) (o4.trans o5)
    have c2 := eqPastS_run (Z := Z) hLPast hLLedgerCall x05 v5
    have g05 := v4.on (Fl.ok _) o5
    have w05 := v2.on (Fl.ok _) ((o3.trans o4).trans o5)
    -- it is marked
    have n1 := o1.ext.1
    have n2 := o2.ext.1
    have n3 := o3.ext.1
    have n4 := o4.ext.1
    have n5 := o5.ext.1
    have fl : h5.floor = h.floor := by rw [o5.fl, o4.fl, o3.fl, o2.fl, o1.fl]
    obtain ⟨h6, m6, k6, v6⟩ := markPastS_run (Z := Z) hLPast x05 (fun i hi => by have := q3.lo i hi; omega) 1 (by omega) (by omega)
    have g06 := g05.mk (Fl.ok _) k6 fun i hi hi2 => by have := q4.lo i hi; have := v3.lt (Fl.ok _) i hi2; omega
    have w06 := w05.mk (Fl.ok _) k6 fun i hi hi2 => by have := q3.lo i hi2; have := v2.lt (Fl.ok _) i hi; omega
    have c3 := eqPastS_run (Z := Z) hLPast hLLedgerCall g06 w06
    -- the answer is marked
    obtain ⟨h7, m7, k7, v7⟩ := markPastS_run (Z := Z) hLPast g06 (fun i hi => by have := q4.lo i hi; have := k6.fl; omega) 1 (by omega) (by omega)
    have d7 := heldPastS_run (Z := Z) hLPast v7 (by omega) (by omega)
    have w07 := w06.mk (Fl.ok _) k7 fun i hi hi2 => by have := q4.lo i hi2; have := v2.lt (Fl.ok _) i hi; omega
    have f7 : h7.floor ≤ h7.next := by have := k6.fl; have := k7.fl; have := k6.next; have := k7.next; omega
    have v07 : SlR 2 (Fl Past.enc) h7 x xs fp := ((v.on (Fl.ok _) ((((o1.trans o2).trans o3).trans o4).trans o5)).mk (Fl.ok _) k6 fun i hi hi2 => by have := q3.lo i hi2; have := v.lt (Fl.ok _) i hi; omega).mk (Fl.ok _) k7 fun i hi hi2 => by have := q4.lo i hi2; have := v.lt (Fl.ok _) i hi; omega
    obtain ⟨y8, h8, p8, e8, o8, v8, _⟩ := toPastS_c (Z := Z) hLPast hLLedgerCall f7 v07 hl
    have f8 := o8.le f7
    obtain ⟨z0, h9, e9, a9⟩ := PastAt_run (Z := Z) hI17 f8 v8 hl t
    obtain ⟨o9, p9, v9, q9⟩ := a9.flat
    have c4 := eqPastS_run (Z := Z) hLPast hLLedgerCall v9 (w07.on (Fl.ok _) (o8.trans o9))
    have d9 := heldPastS_run (Z := Z) hLPast (v7.on (Fl.ok _) (o8.trans o9)) (by omega) (by omega)
    have hk : ¬ ((1 : Int) + 8 * ((pastAt xs t).length : Nat) < 0) := by omega
    have hk2 : ¬ ((1 : Int) + 8 * (xs.length : Nat) < 0) := by omega
    simp only [run0, run1, run2, run3, run4, noSlot, memN, RO.dst, lk, drop, forget, number, Nat.reduceBEq, cond_true, cond_false, Option.bind_some, cut?, splice?, builds, List.length_cons, List.length_nil, List.drop_succ_cons, List.drop_zero, List.take_succ_cons, List.take_zero, List.cons_append, List.nil_append, List.append_nil, List.drop_nil, List.take_nil, Nat.reduceAdd, Nat.reduceLeDiff, Nat.zero_add, Nat.add_zero, ↓reduceIte, Bool.not_true, Bool.not_false, decide_true, decide_false, eq_self, bne_self_eq_false, List.getElem?_cons_zero, List.getElem?_cons_succ, decide_eq_true_eq, Bool.false_eq_true, Bool.true_eq_false, reduceCtorEq, Nat.le_refl, hn, e1, e2, e3, e4, c1, e5, c2, m6, hk2, c3, m7, d7, hk, e8, e9, c4, d9]
    exact ⟨_, rfl⟩
end Go.Proofs.Ytgogajbfiocdbaa.A
