/- Calls with the floor raised. -/
import Derived.Test.YtgogajbfiocdbaaS1
namespace Go.Proofs.Ytgogajbfiocdbaa.A
open Go
set_option linter.unusedSimpArgs false
set_option linter.unusedVariables false
theorem On.quiet {h h' : Heap} (o : On { h with floor := h.next } h') : On h { h' with floor := h.floor } := ⟨⟨o.ext.1, o.ext.2⟩, rfl⟩
theorem On.up (h : Heap) : On h { h with floor := h.floor } := ⟨⟨Nat.le_refl _, fun _ _ => rfl⟩, rfl⟩
theorem SlR.up {α : Type} {R : Rel α} {tag : Nat} {h : Heap} {x : Cell} {xs : List α} {fp : List Nat} (w : SlR tag R h x xs fp) (ok : RelOk R) (n : Nat) : SlR tag R { h with floor := n } x xs fp := w.mv ok (Nat.le_refl _) fun _ _ => rfl
/-- A call with the floor raised, and the heap behind it as one thing. -/
theorem quietly {F : Nat → Option RF} {Z : CallF} {h h' : Heap} {f : Nat} {vs : List V} {r : V} (e : call F Z f vs ⟨h.next, h.next, h.get⟩ = some (r, h')) (o : On ⟨h.next, h.next, h.get⟩ h') :
    ∃ h' g, call F Z f vs ⟨h.next, h.next, h.get⟩ = some (r, h') ∧ Heap.mk h'.next h.floor h'.get = g ∧ On h g := ⟨h', _, e, rfl, ⟨⟨o.ext.1, o.ext.2⟩, rfl⟩⟩
theorem RelOk.up {α : Type} {R : Rel α} (ok : RelOk R) {h : Heap} {cs : List Cell} {a : α} {fp : List Nat} (w : R h cs a fp) (n : Nat) : R ⟨h.next, n, h.get⟩ cs a fp := ok.mv w (Nat.le_refl _) fun _ _ => rfl
end Go.Proofs.Ytgogajbfiocdbaa.A
