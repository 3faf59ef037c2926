/- The data of a Range, and its cells. -/
import Derived.Test.YtgogajbfiocdbaaS1
import Derived.Test.YtgogajbfiocdbaaD
namespace Go.Proofs.Ytgogajbfiocdbaa.A
open Go
set_option linter.unusedSimpArgs false
set_option linter.unusedVariables false
structure Range where
  lo : Int
  hi : Int
  group : Int
  deriving DecidableEq
namespace Range
def enc (t : Range) : List Cell := [.int .u64 t.lo, .int .u64 t.hi, .int .i64 t.group]
theorem len (t : Range) : t.enc.length = 3 := rfl
theorem tak (t : Range) : t.enc.take 3 = t.enc := rfl
def none_ : Range := ⟨0, 0, 0⟩
/-- The numbers are those of the machine. -/
structure Ok (t : Range) : Prop where
  lo : 0 ≤ t.lo ∧ t.lo ≤ 18446744073709551615
  hi : 0 ≤ t.hi ∧ t.hi ≤ 18446744073709551615
  group : -9223372036854775808 ≤ t.group ∧ t.group ≤ 9223372036854775807
end Range
theorem Wf.isRange {h : Heap} {n : Nat} {cs : List Cell} (w : Wf h (n + 2) shRange cs) : ∃ t : Range, cs = t.enc ∧ t.Ok := by
  obtain ⟨_, _, rfl, _, ⟨lo0, rfl, h0⟩, _, _, rfl, _, ⟨hi0, rfl, h1⟩, _, _, rfl, _, ⟨group0, rfl, h2⟩, rfl⟩ := w
  exact ⟨⟨lo0, hi0, group0⟩, rfl, ⟨wfU h0, wfU h1, wfI h2⟩⟩
theorem Wf.isRangeS {h : Heap} {n : Nat} {x : Cell} (w : Wf h (n + 3) shRangeS [x]) : ∃ xs fp, SlR 8 (Fl Range.enc) h x xs fp ∧ ∀ t, t ∈ xs → t.Ok :=
  SlR.ofWf (fun r hr => by obtain ⟨t, rfl, ht⟩ := Wf.isRange hr.2; exact ⟨t, [], ⟨rfl, rfl⟩, ht⟩) w
theorem Wf.isRangeS' {h : Heap} {n : Nat} {a : List Cell} (w : Wf h (n + 3) shRangeS a) : ∃ x xs fp, a = [x] ∧ SlR 8 (Fl Range.enc) h x xs fp ∧ ∀ t, t ∈ xs → t.Ok := by
  have hx : ∃ x, a = [x] := by rcases w with w | ⟨_, _, w, _⟩ <;> exact ⟨_, w⟩
  obtain ⟨x, rfl⟩ := hx
  obtain ⟨xs, fp, v, ok⟩ := Wf.isRangeS w
  exact ⟨x, xs, fp, rfl, v, ok⟩
end Go.Proofs.Ytgogajbfiocdbaa.A
