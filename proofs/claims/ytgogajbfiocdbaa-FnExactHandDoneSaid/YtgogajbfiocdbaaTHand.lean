/- The data of a Hand, and its cells. -/
import Derived.Test.YtgogajbfiocdbaaS1
import Derived.Test.YtgogajbfiocdbaaD
namespace Go.Proofs.Ytgogajbfiocdbaa.A
open Go
set_option linter.unusedSimpArgs false
set_option linter.unusedVariables false
structure Hand where
  lo : Int
  from_ : Int
  to : Int
  epoch : Int
  phase : Int
  deriving DecidableEq
namespace Hand
def enc (t : Hand) : List Cell := [.int .u64 t.lo, .int .i64 t.from_, .int .i64 t.to, .int .i64 t.epoch, .int .i64 t.phase]
theorem len (t : Hand) : t.enc.length = 5 := rfl
theorem tak (t : Hand) : t.enc.take 5 = t.enc := rfl
def none_ : Hand := ⟨0, 0, 0, 0, 0⟩
/-- The numbers are those of the machine. -/
structure Ok (t : Hand) : Prop where
  lo : 0 ≤ t.lo ∧ t.lo ≤ 18446744073709551615
  from_ : -9223372036854775808 ≤ t.from_ ∧ t.from_ ≤ 9223372036854775807
  to : -9223372036854775808 ≤ t.to ∧ t.to ≤ 9223372036854775807
  epoch : -9223372036854775808 ≤ t.epoch ∧ t.epoch ≤ 9223372036854775807
  phase : -9223372036854775808 ≤ t.phase ∧ t.phase ≤ 9223372036854775807
end Hand
theorem Wf.isHand {h : Heap} {n : Nat} {cs : List Cell} (w : Wf h (n + 2) shHand cs) : ∃ t : Hand, cs = t.enc ∧ t.Ok := by
  obtain ⟨_, _, rfl, _, ⟨lo0, rfl, h0⟩, _, _, rfl, _, ⟨from_0, rfl, h1⟩, _, _, rfl, _, ⟨to0, rfl, h2⟩, _, _, rfl, _, ⟨epoch0, rfl, h3⟩, _, _, rfl, _, ⟨phase0, rfl, h4⟩, rfl⟩ := w
  exact ⟨⟨lo0, from_0, to0, epoch0, phase0⟩, rfl, ⟨wfU h0, wfI h1, wfI h2, wfI h3, wfI h4⟩⟩
end Go.Proofs.Ytgogajbfiocdbaa.A
