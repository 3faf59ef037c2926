/- The play of a transfer, as the laws need it. -/
import Derived.Test.YtgogajbfiocdbaaCTx5
namespace Go.Proofs.Ytgogajbfiocdbaa.A
open Go
set_option linter.unusedSimpArgs false
set_option linter.unusedVariables false
section
variable {F : Nat → Option RF} {Z : CallF} {h : Heap}
theorem toTx_e (hL : Has F tLTx) (t : Tx) (h : Heap) : call F Z 13 [.agg t.enc] h = some (.agg t.enc, h) := toTx_run hL ..
theorem PlayTx_c (hI14 : Has F tI14) (hf : h.floor ≤ h.next) (t : Tx) {x : Cell} {es : List TxEvent} {fp : List Nat} (w : SlR 5 (Fl TxEvent.enc) h x es fp) :
    ∃ y h' fq, call F Z 60 [.agg t.enc, .c x] h = some (.tup [.agg (t.play es).1.enc, .c y], h') ∧ On h h' ∧ SlR 4 (Fl bool_enc) h' y (t.play es).2 fq ∧ Fre h fq := by
  obtain ⟨y, h', e, a⟩ := PlayTx_run (Z := Z) hI14 hf w t
  obtain ⟨o, fq, v, f⟩ := a.flat
  exact ⟨y, h', fq, e, o, v, f⟩
theorem sPlayTx_c (hS : Has F tS01d) (hS14 : Has F tS14) (hf : h.floor ≤ h.next) (t : Tx) {x : Cell} {es : List TxEvent} {fp : List Nat} (w : SlR 5 (Fl TxEvent.enc) h x es fp) :
    ∃ y h' fq, call F Z 59 [.agg t.enc, .c x] h = some (.tup [.agg (t.play es).1.enc, .c y], h') ∧ On h h' ∧ SlR 4 (Fl bool_enc) h' y (t.play es).2 fq ∧ Fre h fq := by
  obtain ⟨y, h', e, a⟩ := sPlayTx_run (Z := Z) hS hS14 hf w t
  obtain ⟨o, fq, v, f⟩ := a.flat
  exact ⟨y, h', fq, e, o, v, f⟩
theorem Tx.play_len (t : Tx) (es : List TxEvent) : (t.play es).2.length ≤ 100 := by
  unfold Tx.play
  cases hb : (t.ok && decide (es.length ≤ 100)) with
  | false => simp
  | true =>
    have hl : es.length ≤ 100 := by simp at hb; exact hb.2
    simp only [cond_true]
    have : ∀ (l : List TxEvent) (a : Tx × List Bool), (l.foldl (fun a e => ((a.1.step e).1, a.2 ++ [(a.1.step e).2])) a).2.length = a.2.length + l.length := by
      intro l
      induction l with
      | nil => intro a; simp
      | cons e r ih => intro a; rw [List.foldl_cons, ih]; simp; omega
    rw [this]; simpa using hl
theorem szTxEventS_c (hL : Has F tLTxEvent) {x : Cell} {xs : List TxEvent} {fp : List Nat} (w : SlR 6 (Fl TxEvent.enc) h x xs fp) (left : Int) (h1 : 0 ≤ left) (h2 : left ≤ 1048576) : ∃ r, call F Z 57 [.c x, .c (.int .i64 left)] h = some (.c (.int .i64 r), h) ∧ r ≤ left ∧ (0 ≤ r → xs.length ≤ 1048576) :=
  ⟨_, szTxEventS_run hL w left h1 h2, by split <;> omega, by split <;> omega⟩
end
end Go.Proofs.Ytgogajbfiocdbaa.A
