/- Plain laws of ranges: an id lies in one of them alone. No program here. -/
import Derived.Test.YtgogajbfiocdbaaCRange2
namespace Go.Proofs.Ytgogajbfiocdbaa.A
open Go
set_option linter.unusedSimpArgs false
set_option linter.unusedVariables false
structure RangesFit (xs : List Range) : Prop where
  pos : 1 ≤ xs.length
  few : xs.length ≤ 24
  lo0 : (Range.at_ xs 0).lo = 0
  hiN : (Range.at_ xs (xs.length - 1)).hi = 18446744073709551615
  le : ∀ i, i < xs.length → (Range.at_ xs i).lo ≤ (Range.at_ xs i).hi
  grp : ∀ i, i < xs.length → 0 ≤ (Range.at_ xs i).group ∧ (Range.at_ xs i).group ≤ 99
  next : ∀ i, i + 1 < xs.length → (Range.at_ xs (i + 1)).lo = (Range.at_ xs i).hi + 1
theorem rangesOk_fit {xs : List Range} (h : rangesOk xs = true) : RangesFit xs := by
  simp only [rangesOk, Bool.and_eq_true, inR, decide_eq_true_eq, beq_iff_eq, List.all_eq_true, List.mem_range, Range.fits, Bool.or_eq_true] at h
  obtain ⟨⟨h1, h2⟩, h3, h4, h5⟩ := h
  exact ⟨by omega, by omega, h3, h4, fun i hi => (h5 i hi).1, fun i hi => (h5 i hi).2.1, fun i hi => by
    rcases (h5 (i + 1) hi).2.2 with h | h
    · omega
    · simpa using h⟩
theorem at_get {xs : List Range} {i : Nat} (hi : i < xs.length) : Range.at_ xs i = xs[i] := by simp [Range.at_, List.getElem?_eq_getElem hi]
theorem RangesFit.apart {xs : List Range} (w : RangesFit xs) {i : Nat} : ∀ {j : Nat}, i < j → j < xs.length → (Range.at_ xs i).hi < (Range.at_ xs j).lo
  | 0, h, _ => absurd h (Nat.not_lt_zero _)
  | j + 1, h, hj => by
    have hn := w.next j hj
    by_cases he : i = j
    · subst he; omega
    · have := w.apart (i := i) (j := j) (by omega) (by omega)
      have := w.le j (by omega)
      omega
/-- The range of an id. -/
theorem RangesFit.has {xs : List Range} (w : RangesFit xs) {id : Int} (h0 : 0 ≤ id) (h1 : id ≤ 18446744073709551615) :
    ∃ i, i < xs.length ∧ findHi xs id = (i : Int) ∧ findCov xs id = (i : Int) ∧ (Range.at_ xs i).lo ≤ id ∧ id ≤ (Range.at_ xs i).hi := by
  have hp := w.pos
  cases hf : xs.findIdx? (fun r => decide (id ≤ r.hi)) with
  | none =>
    rw [List.findIdx?_eq_none_iff] at hf
    have := hf xs[xs.length - 1] (List.getElem_mem (by omega))
    have hN := w.hiN
    rw [at_get (by omega)] at hN
    simp at this
    omega
  | some i =>
    rw [List.findIdx?_eq_some_iff_getElem] at hf
    obtain ⟨hi, h2, h3⟩ := hf
    have h2' : id ≤ (Range.at_ xs i).hi := by rw [at_get hi]; simpa using h2
    have hlo : (Range.at_ xs i).lo ≤ id := by
      cases i with
      | zero => rw [w.lo0]; exact h0
      | succ i =>
        rw [w.next i hi]
        have := h3 i (by omega)
        rw [at_get (by omega)]
        simp at this
        omega
    refine ⟨i, hi, ?_, ?_, hlo, h2'⟩
    · have : xs.findIdx? (fun r => decide (id ≤ r.hi)) = some i := List.findIdx?_eq_some_iff_getElem.2 ⟨hi, h2, h3⟩
      simp only [findHi, findI, this]
    · have : xs.findIdx? (fun r => decide (r.lo ≤ id) && decide (id ≤ r.hi)) = some i := by
        rw [List.findIdx?_eq_some_iff_getElem]
        rw [at_get hi] at hlo h2'
        refine ⟨hi, by simp [hlo, h2'], fun j hj => ?_⟩
        have := h3 j hj
        simp at this ⊢
        intro _
        exact this
      simp only [findCov, findI, this]
/-- The place of the range that begins with an id. -/
def findLo (xs : List Range) (lo : Int) : Int := findI (fun r => r.lo == lo) xs
theorem RangesFit.begins {xs : List Range} (w : RangesFit xs) {id : Int} {i : Nat} (hi : i < xs.length) (h1 : (Range.at_ xs i).lo ≤ id) (h2 : id ≤ (Range.at_ xs i).hi) :
    findLo xs id = if (Range.at_ xs i).lo = id then (i : Int) else -1 := by
  have huniq : ∀ j, j < xs.length → (Range.at_ xs j).lo = id → j = i := by
    intro j hj he
    have hj2 := w.le j hj
    rcases Nat.lt_trichotomy i j with h | h | h
    · have := w.apart h hj; omega
    · exact h.symm
    · have := w.apart h hi; omega
  split
  · rename_i he
    have : xs.findIdx? (fun r => r.lo == id) = some i := by
      rw [List.findIdx?_eq_some_iff_getElem]
      rw [at_get hi] at he
      refine ⟨hi, by simpa using he, fun j hj hc => ?_⟩
      have := huniq j (by omega) (by rw [at_get (by omega)]; simpa using hc)
      omega
    simp only [findLo, findI, this]
  · rename_i he
    have : xs.findIdx? (fun r => r.lo == id) = none := by
      rw [List.findIdx?_eq_none_iff]
      intro a ha
      obtain ⟨j, hj, rfl⟩ := List.mem_iff_getElem.1 ha
      cases hb : (xs[j].lo == id) with
      | false => rfl
      | true =>
        have hje : (Range.at_ xs j).lo = id := by rw [at_get hj]; simpa using hb
        have := huniq j hj hje
        subst this
        exact absurd hje he
    simp only [findLo, findI, this]
end Go.Proofs.Ytgogajbfiocdbaa.A
