/- Loops that append. -/
import Derived.Test.YtgogajbfiocdbaaS2
namespace Go.Proofs.Ytgogajbfiocdbaa.A
open Go
set_option linter.unusedSimpArgs false
set_option linter.unusedVariables false
theorem flatMap_le {α β : Type} (g : α → List β) (hg : ∀ a, (g a).length ≤ 1) : ∀ xs : List α, (xs.flatMap g).length ≤ xs.length
  | [] => by simp
  | a :: r => by
    rw [List.flatMap_cons, List.length_append, List.length_cons]
    have := hg a
    have := flatMap_le g hg r
    omega
section
variable {F : Nat → Option RF} {Z : CallF} {live : List Nat} {b : RC}
/-- A loop that appends at most one element at each turn. -/
theorem loop_acc {α : Type} (xs : List α) (g : α → List (List Cell)) (tag : Nat) (h0 : Heap) (st : Nat → Cell → Heap → St) (hg : ∀ a, (g a).length ≤ 1)
    (hs : ∀ i (hi : i < xs.length) y h rows, Acc tag h0 h y rows → rows.length ≤ i → ∃ y' h', Acc tag h0 h' y' (rows ++ g xs[i]) ∧ loop F Z live b (st i y h) = loop F Z live b (st (i + 1) y' h')) {y : Cell} {h : Heap} (a0 : Acc tag h0 h y []) :
    ∃ y' h', Acc tag h0 h' y' (xs.flatMap g) ∧ loop F Z live b (st 0 y h) = loop F Z live b (st xs.length y' h') := by
  have key : ∀ n, n ≤ xs.length → ∃ y' h', Acc tag h0 h' y' ((xs.take n).flatMap g) ∧ ((xs.take n).flatMap g).length ≤ n ∧ loop F Z live b (st 0 y h) = loop F Z live b (st n y' h') := by
    intro n
    induction n with
    | zero => intro _; exact ⟨y, h, by simpa using a0, by simp, rfl⟩
    | succ n ih =>
      intro hn
      obtain ⟨y1, h1, a1, l1, e1⟩ := ih (by omega)
      obtain ⟨y2, h2, a2, e2⟩ := hs n (by omega) y1 h1 _ a1 l1
      have ht : (xs.take (n + 1)).flatMap g = (xs.take n).flatMap g ++ g xs[n] := by
        rw [List.take_add_one, List.getElem?_eq_getElem (by omega), List.flatMap_append]; simp
      refine ⟨y2, h2, by rw [ht]; exact a2, ?_, e1.trans e2⟩
      rw [ht, List.length_append]
      have := hg xs[n]
      omega
  obtain ⟨y', h', a', _, e'⟩ := key xs.length (Nat.le_refl _)
  rw [List.take_length] at a'
  exact ⟨y', h', a', e'⟩
/-- A loop that returns at the first element that fits. -/
theorem loop_find {α : Type} (xs : List α) (p : α → Bool) (st : Nat → St) (Q : Nat → St → Prop) (hs : ∀ i (hi : i < xs.length), Turn (loop F Z live b (st i)) (loop F Z live b (st (i + 1))) (!p xs[i]) (Q i)) :
    (xs.findIdx? p = none ∧ loop F Z live b (st 0) = loop F Z live b (st xs.length)) ∨ ∃ i, xs.findIdx? p = some i ∧ i < xs.length ∧ ∃ s, loop F Z live b (st 0) = some (.ret, s) ∧ Q i s := by
  have key : ∀ n, n ≤ xs.length → ((∀ i (hi : i < xs.length), i < n → p xs[i] = false) ∧ loop F Z live b (st 0) = loop F Z live b (st n)) ∨ ∃ i, xs.findIdx? p = some i ∧ i < xs.length ∧ ∃ s, loop F Z live b (st 0) = some (.ret, s) ∧ Q i s := by
    intro n
    induction n with
    | zero => intro _; exact .inl ⟨fun i hi h => absurd h (Nat.not_lt_zero _), rfl⟩
    | succ n ih =>
      intro hn
      rcases ih (by omega) with ⟨h1, h2⟩ | h
      · rcases hs n (by omega) with ⟨h3, h4⟩ | ⟨h3, s, h4, h5⟩
        · refine .inl ⟨fun i hi hl => ?_, h2.trans h4⟩
          by_cases he : i = n
          · subst he; simpa using h3
          · exact h1 i hi (by omega)
        · refine .inr ⟨n, ?_, by omega, s, h2.trans h4, h5⟩
          rw [List.findIdx?_eq_some_iff_getElem]
          refine ⟨by omega, by simpa using h3, fun j hj => ?_⟩
          simpa using h1 j (by omega) (by omega)
      · exact .inr h
  rcases key xs.length (Nat.le_refl _) with ⟨h1, h2⟩ | h
  · refine .inl ⟨?_, h2⟩
    rw [List.findIdx?_eq_none_iff]
    intro a ha
    obtain ⟨i, hi, rfl⟩ := List.mem_iff_getElem.1 ha
    exact h1 i hi hi
  · exact .inr h
/-- The place of the first that fits, -1 for none. -/
def findI {α : Type} (p : α → Bool) (xs : List α) : Int := match xs.findIdx? p with
  | some i => (i : Int)
  | none => -1
/-- A loop over a list that carries a value on. -/
theorem loop_fold {α σ : Type} (xs : List α) (step : σ → α → σ) (I : Nat → σ → St → Prop) (hs : ∀ i (hi : i < xs.length) a s, I i a s → ∃ s', I (i + 1) (step a xs[i]) s' ∧ loop F Z live b s = loop F Z live b s') {a : σ} {s : St} (h0 : I 0 a s) :
    ∃ s', I xs.length (xs.foldl step a) s' ∧ loop F Z live b s = loop F Z live b s' := by
  have key : ∀ n, n ≤ xs.length → ∃ s', I n ((xs.take n).foldl step a) s' ∧ loop F Z live b s = loop F Z live b s' := by
    intro n
    induction n with
    | zero => intro _; exact ⟨s, by simpa using h0, rfl⟩
    | succ n ih =>
      intro hn
      obtain ⟨s1, i1, e1⟩ := ih (by omega)
      obtain ⟨s2, i2, e2⟩ := hs n (by omega) _ s1 i1
      refine ⟨s2, ?_, e1.trans e2⟩
      rw [List.take_add_one, List.getElem?_eq_getElem (by omega), List.foldl_append]
      exact i2
  obtain ⟨s', i', e'⟩ := key xs.length (Nat.le_refl _)
  rw [List.take_length] at i'
  exact ⟨s', i', e'⟩
end
end Go.Proofs.Ytgogajbfiocdbaa.A
