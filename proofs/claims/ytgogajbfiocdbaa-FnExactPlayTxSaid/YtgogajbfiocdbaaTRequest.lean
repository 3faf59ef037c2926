/- The data of a Request, and its cells. -/
import Derived.Test.YtgogajbfiocdbaaS1
import Derived.Test.YtgogajbfiocdbaaD
namespace Go.Proofs.Ytgogajbfiocdbaa.A
open Go
set_option linter.unusedSimpArgs false
set_option linter.unusedVariables false
structure Request where
  epoch : Int
  op : Int
  id : Int
  amount : Int
  tx : Int
  deriving DecidableEq
namespace Request
def enc (t : Request) : List Cell := [.int .i64 t.epoch, .int .i64 t.op, .int .u64 t.id, .int .u64 t.amount, .int .i64 t.tx]
theorem len (t : Request) : t.enc.length = 5 := rfl
theorem tak (t : Request) : t.enc.take 5 = t.enc := rfl
def none_ : Request := ⟨0, 0, 0, 0, 0⟩
/-- The numbers are those of the machine. -/
structure Ok (t : Request) : Prop where
  epoch : -9223372036854775808 ≤ t.epoch ∧ t.epoch ≤ 9223372036854775807
  op : -9223372036854775808 ≤ t.op ∧ t.op ≤ 9223372036854775807
  id : 0 ≤ t.id ∧ t.id ≤ 18446744073709551615
  amount : 0 ≤ t.amount ∧ t.amount ≤ 18446744073709551615
  tx : -9223372036854775808 ≤ t.tx ∧ t.tx ≤ 9223372036854775807
end Request
theorem Wf.isRequest {h : Heap} {n : Nat} {cs : List Cell} (w : Wf h (n + 2) shRequest cs) : ∃ t : Request, cs = t.enc ∧ t.Ok := by
  obtain ⟨_, _, rfl, _, ⟨epoch0, rfl, h0⟩, _, _, rfl, _, ⟨op0, rfl, h1⟩, _, _, rfl, _, ⟨id0, rfl, h2⟩, _, _, rfl, _, ⟨amount0, rfl, h3⟩, _, _, rfl, _, ⟨tx0, rfl, h4⟩, rfl⟩ := w
  exact ⟨⟨epoch0, op0, id0, amount0, tx0⟩, rfl, ⟨wfI h0, wfI h1, wfU h2, wfU h3, wfI h4⟩⟩
end Go.Proofs.Ytgogajbfiocdbaa.A
