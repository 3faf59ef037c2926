/- TxSends: the law's function, run on any arguments, answers true. -/
import Derived.Test.YtgogajbfiocdbaaCTx4
import Derived.Test.YtgogajbfiocdbaaGWTxSends
namespace Go.Proofs.Ytgogajbfiocdbaa.A
open Go
set_option linter.unusedSimpArgs false
set_option linter.unusedVariables false
set_option maxHeartbeats 1000000 in
theorem law_ExactTxSends {F : Nat → Option RF} {Z : CallF} (hI14 : Has F tI14) (hLRequest : Has F tLRequest) (hLTx : Has F tLTx) (hS01d : Has F tS01d) (hS14 : Has F tS14) (hWTxSends : Has F tWTxSends) (h : Heap) (avs : List V) (hfl : h.floor = h.next) (w : ArgsWf h 8 [shTx] avs) : ∃ h', call F Z 45 avs h = some (.c (.bool true), h') := by
  obtain ⟨cs, rest, rfl, w1, w2⟩ := ArgsWf.struct w
  obtain ⟨id, a, b, m, phase, yf, yt, af, at_, reason, rfl⟩ := Wf.tx w1
  obtain rfl := w2.nil
  have f0 : h.floor ≤ h.next := by omega
  obtain ⟨w0, h1, e1, a1⟩ := sTxSends_run (Z := Z) hS14 hS01d f0 id a b m phase yf yt af at_ reason
  obtain ⟨o1, p1, v1, q1⟩ := a1.flat
  obtain ⟨g0, h2, e2, a2⟩ := TxSends_run (Z := Z) hI14 (o1.le f0) id a b m phase yf yt af at_ reason
  obtain ⟨o2, p2, v2, q2⟩ := a2.flat
  have hl : (Tx.sends ⟨id, a, b, m, phase, yf, yt, af, at_, reason⟩).length ≤ 2 := by
    unfold Tx.sends
    cases Tx.ok _
    · simp
    · have := Tx.side_len ⟨id, a, b, m, phase, yf, yt, af, at_, reason⟩ false
      have := Tx.side_len ⟨id, a, b, m, phase, yf, yt, af, at_, reason⟩ true
      simp; omega
  have v12 := v1.on (Fl.ok _) o2
  have c1 := eqRequestS_run (Z := Z) hLRequest v2 v12
  have fl2 : h2.floor ≤ h1.next := by rw [o2.fl]; exact o1.le f0
  obtain ⟨h3, m1, k1, v3⟩ := markRequestS_run (Z := Z) hLRequest v2 (fun i hi => Nat.le_trans fl2 (q2.lo i hi)) 1 (by omega) (by omega)
  have d1 := heldRequestS_run (Z := Z) hLRequest v3 (by omega) (by omega)
  have v13 := v12.mk (Fl.ok _) k1 fun i hi hi2 => absurd (v1.lt (Fl.ok _) i hi) (by have := q2.lo i hi2; omega)
  have f3 : h3.floor ≤ h3.next := by rw [k1.fl, k1.next]; exact o2.le (o1.le f0)
  obtain ⟨h0, h4, e4, a4⟩ := TxSends_run (Z := Z) hI14 f3 id a b m phase yf yt af at_ reason
  obtain ⟨o4, p4, v4, q4⟩ := a4.flat
  have v14 := v13.on (Fl.ok _) o4
  have c2 := eqRequestS_run (Z := Z) hLRequest v4 v14
  have v34 := v3.on (Fl.ok _) o4
  have d2 := heldRequestS_run (Z := Z) hLRequest v34 (by omega) (by omega)
  have hk : ¬ ((1 : Int) + 5 * ((Tx.sends ⟨id, a, b, m, phase, yf, yt, af, at_, reason⟩).length : Nat) < 0) := by omega
  rw [call_run F Z (hWTxSends.lk (g := 45) rfl) _ _ rfl]
  simp only [run0, run1, run2, run3, run4, noSlot, memN, RO.dst, lk, drop, forget, number, Nat.reduceBEq, cond_true, cond_false, Option.bind_some, cut?, splice?, builds, List.length_cons, List.length_nil, List.drop_succ_cons, List.drop_zero, List.take_succ_cons, List.take_zero, List.cons_append, List.nil_append, List.append_nil, List.drop_nil, List.take_nil, Nat.reduceAdd, Nat.reduceLeDiff, Nat.zero_add, Nat.add_zero, ↓reduceIte, Bool.not_true, Bool.not_false, decide_true, decide_false, eq_self, bne_self_eq_false, List.getElem?_cons_zero, List.getElem?_cons_succ, decide_eq_true_eq, Bool.false_eq_true, Bool.true_eq_false, reduceCtorEq, Nat.le_refl, toTx_run hLTx, e1, e2, c1, m1, d1, e4, c2, d2, hk]
  exact ⟨_, rfl⟩
end Go.Proofs.Ytgogajbfiocdbaa.A
