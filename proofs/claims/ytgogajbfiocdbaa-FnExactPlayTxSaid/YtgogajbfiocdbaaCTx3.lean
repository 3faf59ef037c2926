/- What a transfer sends. -/
import Derived.Test.YtgogajbfiocdbaaCTx2
import Derived.Test.YtgogajbfiocdbaaVRequest
import Derived.Test.YtgogajbfiocdbaaS2
namespace Go.Proofs.Ytgogajbfiocdbaa.A
open Go
set_option linter.unusedSimpArgs false
set_option linter.unusedVariables false
/-- What a right transfer sends to a side. -/
def Tx.side (t : Tx) (two : Bool) : List Request :=
  if t.phase = 0 then bif (bif two then t.yt else t.yf) then [] else [⟨0, bif two then 5 else 4, bif two then t.b else t.a, t.m, t.id⟩]
  else if t.phase = 1 then bif (bif two then t.at_ else t.af) then [] else [⟨0, 6, bif two then t.b else t.a, 0, t.id⟩]
  else if t.phase = 2 then bif (bif two then t.at_ else t.af) then [] else [⟨0, 7, bif two then t.b else t.a, 0, t.id⟩]
  else []
def Tx.sends (t : Tx) : List Request := bif t.ok then t.side false ++ t.side true else []
section
variable {F : Nat → Option RF} {Z : CallF} {h : Heap}
set_option maxHeartbeats 4000000 in
theorem TxSends_run (hI14 : Has F tI14) (hf : h.floor ≤ h.next) (id a b m phase : Int) (yf yt af at_ : Bool) (reason : Int) : ∃ y h', call F Z 47 [.agg [.int .i64 id, .int .u64 a, .int .u64 b, .int .u64 m, .int .i64 phase, .bool yf, .bool yt, .bool af, .bool at_, .int .i64 reason]] h = some (.c y, h') ∧ Acc 3 h h' y ((Tx.sends ⟨id, a, b, m, phase, yf, yt, af, at_, reason⟩).map Request.enc) := by
  rw [call_run F Z (hI14.lk (g := 47) rfl) _ _ rfl]
  have a0 := Acc.lit0 (tag := 3) (On.refl h)
  have e1 := a0.one_eq hf (bytes := 40) (by decide)
  have a1 := a0.one hf (by decide)
  have e2 := fun r => (a1 r).one_eq hf (bytes := 40) (by simp)
  have a2 := fun r => (a1 r).one hf (by simp)
  simp only [run0, run1, run2, run3, run4, noSlot, memN, RO.dst, lk, drop, forget, number, Nat.reduceBEq, cond_true, cond_false, Option.bind_some, cut?, splice?, builds, List.length_cons, List.length_nil, List.drop_succ_cons, List.drop_zero, List.take_succ_cons, List.take_zero, List.cons_append, List.nil_append, List.append_nil, List.drop_nil, List.take_nil, Nat.reduceAdd, Nat.reduceLeDiff, Nat.zero_add, Nat.add_zero, ↓reduceIte, Bool.not_true, Bool.not_false, decide_true, decide_false, eq_self, bne_self_eq_false, List.getElem?_cons_zero, List.getElem?_cons_succ, decide_eq_true_eq, Bool.false_eq_true, Bool.true_eq_false, reduceCtorEq, Nat.le_refl, isTx_run hI14, List.replicate_zero]
  (repeat' ((first | (rw [gF_if]; split) | (rw [condC_if]; split) | (rw [pickR_if]; split)) <;> (rename_i hh; (try simp only [Bool.not_eq_true, decide_eq_true_eq] at hh); simp only [hh, run0, run1, run2, run3, run4, noSlot, memN, RO.dst, lk, drop, forget, number, Nat.reduceBEq, cond_true, cond_false, Option.bind_some, cut?, splice?, builds, List.length_cons, List.length_nil, List.drop_succ_cons, List.drop_zero, List.take_succ_cons, List.take_zero, List.cons_append, List.nil_append, List.append_nil, List.drop_nil, List.take_nil, Nat.reduceAdd, Nat.reduceLeDiff, Nat.zero_add, Nat.add_zero, ↓reduceIte, Bool.not_true, Bool.not_false, decide_true, decide_false, eq_self, bne_self_eq_false, List.getElem?_cons_zero, List.getElem?_cons_succ, decide_eq_true_eq, Bool.false_eq_true, Bool.true_eq_false, reduceCtorEq, Nat.le_refl, isTx_run hI14, List.replicate_zero, List.replicate_succ, e1, e2, fills, and_self, Nat.zero_lt_one, List.set_cons_zero])))
  all_goals (refine ⟨_, _, rfl, ?_⟩; clear e1 e2; simp_all [Tx.sends, Tx.side, Request.enc])
  all_goals exact Acc.nil 3 h
end
end Go.Proofs.Ytgogajbfiocdbaa.A
