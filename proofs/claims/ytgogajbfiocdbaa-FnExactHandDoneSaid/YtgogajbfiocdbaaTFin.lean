/- The data of a Fin, and its cells. -/
import Derived.Test.YtgogajbfiocdbaaS1
import Derived.Test.YtgogajbfiocdbaaD
namespace Go.Proofs.Ytgogajbfiocdbaa.A
open Go
set_option linter.unusedSimpArgs false
set_option linter.unusedVariables false
structure Fin where
  tx : Int
  id : Int
  deriving DecidableEq
namespace Fin
def enc (t : Fin) : List Cell := [.int .i64 t.tx, .int .u64 t.id]
theorem len (t : Fin) : t.enc.length = 2 := rfl
theorem tak (t : Fin) : t.enc.take 2 = t.enc := rfl
def none_ : Fin := ⟨0, 0⟩
/-- The numbers are those of the machine. -/
structure Ok (t : Fin) : Prop where
  tx : -9223372036854775808 ≤ t.tx ∧ t.tx ≤ 9223372036854775807
  id : 0 ≤ t.id ∧ t.id ≤ 18446744073709551615
end Fin
theorem Wf.isFin {h : Heap} {n : Nat} {cs : List Cell} (w : Wf h (n + 2) shFin cs) : ∃ t : Fin, cs = t.enc ∧ t.Ok := by
  obtain ⟨_, _, rfl, _, ⟨tx0, rfl, h0⟩, _, _, rfl, _, ⟨id0, rfl, h1⟩, rfl⟩ := w
  exact ⟨⟨tx0, id0⟩, rfl, ⟨wfI h0, wfU h1⟩⟩
theorem Wf.isFinS {h : Heap} {n : Nat} {x : Cell} (w : Wf h (n + 3) shFinS [x]) : ∃ xs fp, SlR 10 (Fl Fin.enc) h x xs fp ∧ ∀ t, t ∈ xs → t.Ok :=
  SlR.ofWf (fun r hr => by obtain ⟨t, rfl, ht⟩ := Wf.isFin hr.2; exact ⟨t, [], ⟨rfl, rfl⟩, ht⟩) w
theorem Wf.isFinS' {h : Heap} {n : Nat} {a : List Cell} (w : Wf h (n + 3) shFinS a) : ∃ x xs fp, a = [x] ∧ SlR 10 (Fl Fin.enc) h x xs fp ∧ ∀ t, t ∈ xs → t.Ok := by
  have hx : ∃ x, a = [x] := by rcases w with w | ⟨_, _, w, _⟩ <;> exact ⟨_, w⟩
  obtain ⟨x, rfl⟩ := hx
  obtain ⟨xs, fp, v, ok⟩ := Wf.isFinS w
  exact ⟨x, xs, fp, rfl, v, ok⟩
end Go.Proofs.Ytgogajbfiocdbaa.A
