/- The data of a Account, and its cells. -/
import Derived.Test.YtgogajbfiocdbaaS1
import Derived.Test.YtgogajbfiocdbaaD
namespace Go.Proofs.Ytgogajbfiocdbaa.A
open Go
set_option linter.unusedSimpArgs false
set_option linter.unusedVariables false
structure Account where
  id : Int
  bal : Int
  hold : Int
  due : Int
  tx : Int
  deriving DecidableEq
namespace Account
def enc (t : Account) : List Cell := [.int .u64 t.id, .int .u64 t.bal, .int .u64 t.hold, .int .u64 t.due, .int .i64 t.tx]
theorem len (t : Account) : t.enc.length = 5 := rfl
theorem tak (t : Account) : t.enc.take 5 = t.enc := rfl
def none_ : Account := ⟨0, 0, 0, 0, 0⟩
/-- The numbers are those of the machine. -/
structure Ok (t : Account) : Prop where
  id : 0 ≤ t.id ∧ t.id ≤ 18446744073709551615
  bal : 0 ≤ t.bal ∧ t.bal ≤ 18446744073709551615
  hold : 0 ≤ t.hold ∧ t.hold ≤ 18446744073709551615
  due : 0 ≤ t.due ∧ t.due ≤ 18446744073709551615
  tx : -9223372036854775808 ≤ t.tx ∧ t.tx ≤ 9223372036854775807
end Account
theorem Wf.isAccount {h : Heap} {n : Nat} {cs : List Cell} (w : Wf h (n + 2) shAccount cs) : ∃ t : Account, cs = t.enc ∧ t.Ok := by
  obtain ⟨_, _, rfl, _, ⟨id0, rfl, h0⟩, _, _, rfl, _, ⟨bal0, rfl, h1⟩, _, _, rfl, _, ⟨hold0, rfl, h2⟩, _, _, rfl, _, ⟨due0, rfl, h3⟩, _, _, rfl, _, ⟨tx0, rfl, h4⟩, rfl⟩ := w
  exact ⟨⟨id0, bal0, hold0, due0, tx0⟩, rfl, ⟨wfU h0, wfU h1, wfU h2, wfU h3, wfI h4⟩⟩
theorem Wf.isAccountS {h : Heap} {n : Nat} {x : Cell} (w : Wf h (n + 3) shAccountS [x]) : ∃ xs fp, SlR 12 (Fl Account.enc) h x xs fp ∧ ∀ t, t ∈ xs → t.Ok :=
  SlR.ofWf (fun r hr => by obtain ⟨t, rfl, ht⟩ := Wf.isAccount hr.2; exact ⟨t, [], ⟨rfl, rfl⟩, ht⟩) w
theorem Wf.isAccountS' {h : Heap} {n : Nat} {a : List Cell} (w : Wf h (n + 3) shAccountS a) : ∃ x xs fp, a = [x] ∧ SlR 12 (Fl Account.enc) h x xs fp ∧ ∀ t, t ∈ xs → t.Ok := by
  have hx : ∃ x, a = [x] := by rcases w with w | ⟨_, _, w, _⟩ <;> exact ⟨_, w⟩
  obtain ⟨x, rfl⟩ := hx
  obtain ⟨xs, fp, v, ok⟩ := Wf.isAccountS w
  exact ⟨x, xs, fp, rfl, v, ok⟩
end Go.Proofs.Ytgogajbfiocdbaa.A
