/- The data of a TxEvent, and its cells. -/
import Derived.Test.YtgogajbfiocdbaaS1
import Derived.Test.YtgogajbfiocdbaaD
namespace Go.Proofs.Ytgogajbfiocdbaa.A
open Go
set_option linter.unusedSimpArgs false
set_option linter.unusedVariables false
structure TxEvent where
  kind : Int
  side : Int
  code : Int
  deriving DecidableEq
namespace TxEvent
def enc (t : TxEvent) : List Cell := [.int .i64 t.kind, .int .i64 t.side, .int .i64 t.code]
theorem len (t : TxEvent) : t.enc.length = 3 := rfl
theorem tak (t : TxEvent) : t.enc.take 3 = t.enc := rfl
def none_ : TxEvent := ⟨0, 0, 0⟩
/-- The numbers are those of the machine. -/
structure Ok (t : TxEvent) : Prop where
  kind : -9223372036854775808 ≤ t.kind ∧ t.kind ≤ 9223372036854775807
  side : -9223372036854775808 ≤ t.side ∧ t.side ≤ 9223372036854775807
  code : -9223372036854775808 ≤ t.code ∧ t.code ≤ 9223372036854775807
end TxEvent
theorem Wf.isTxEvent {h : Heap} {n : Nat} {cs : List Cell} (w : Wf h (n + 2) shTxEvent cs) : ∃ t : TxEvent, cs = t.enc ∧ t.Ok := by
  obtain ⟨_, _, rfl, _, ⟨kind0, rfl, h0⟩, _, _, rfl, _, ⟨side0, rfl, h1⟩, _, _, rfl, _, ⟨code0, rfl, h2⟩, rfl⟩ := w
  exact ⟨⟨kind0, side0, code0⟩, rfl, ⟨wfI h0, wfI h1, wfI h2⟩⟩
theorem Wf.isTxEventS {h : Heap} {n : Nat} {x : Cell} (w : Wf h (n + 3) shTxEventS [x]) : ∃ xs fp, SlR 6 (Fl TxEvent.enc) h x xs fp ∧ ∀ t, t ∈ xs → t.Ok :=
  SlR.ofWf (fun r hr => by obtain ⟨t, rfl, ht⟩ := Wf.isTxEvent hr.2; exact ⟨t, [], ⟨rfl, rfl⟩, ht⟩) w
end Go.Proofs.Ytgogajbfiocdbaa.A
