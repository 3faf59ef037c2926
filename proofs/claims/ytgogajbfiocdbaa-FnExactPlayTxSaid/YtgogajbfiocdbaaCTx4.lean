/- What a transfer sends, by the reference. -/
import Derived.Test.YtgogajbfiocdbaaCTx3
namespace Go.Proofs.Ytgogajbfiocdbaa.A
open Go
set_option linter.unusedSimpArgs false
set_option linter.unusedVariables false
section
variable {F : Nat → Option RF} {Z : CallF} {h : Heap}
set_option maxHeartbeats 4000000 in
theorem sTxSends_turn {h0 : Heap} {x : Cell} {rows : List (List Cell)} (hf : h0.floor ≤ h0.next) (ac : Acc 3 h0 h x rows) (hl : rows.length ≤ 2) (id a b m phase : Int) (yf yt af at_ : Bool) (reason : Int) (two : Bool) :
    ∃ x' h', Acc 3 h0 h' x' (rows ++ (Tx.side ⟨id, a, b, m, phase, yf, yt, af, at_, reason⟩ two).map Request.enc) ∧ loop F Z [1, 3, 4] r46L0 ⟨[(3, .c x), (4, .c (.int .i64 (bif two then 1 else 0)))], [(1, 1, 0)], [(1, [.int .i64 id, .int .u64 a, .int .u64 b, .int .u64 m, .int .i64 phase, .bool yf, .bool yt, .bool af, .bool at_, .int .i64 reason])], h⟩ = loop F Z [1, 3, 4] r46L0 ⟨[(3, .c x'), (4, .c (.int .i64 (bif two then 2 else 1)))], [(1, 1, 0)], [(1, [.int .i64 id, .int .u64 a, .int .u64 b, .int .u64 m, .int .i64 phase, .bool yf, .bool yt, .bool af, .bool at_, .int .i64 reason])], h'⟩ := by
  have e1 := ac.one_eq hf (bytes := 40) (by omega)
  have a1 := ac.one hf (by omega)
  rw [loop_run]
  conv in (codeF _ _ r46L0 _) => unfold r46L0
  have w1 : IntKind.i64.wrap 1 = 1 := wrapI _ (by omega) (by omega)
  have w2 : IntKind.i64.wrap 2 = 2 := wrapI _ (by omega) (by omega)
  have w3 : IntKind.i64.wrap 4 = 4 := wrapI _ (by omega) (by omega)
  have w4 : IntKind.i64.wrap 5 = 5 := wrapI _ (by omega) (by omega)
  have t0 : (0 : Int) < 2 := by omega
  have t1 : (1 : Int) < 2 := by omega
  cases two
  · simp only [run0, run1, run2, run3, run4, noSlot, memN, RO.dst, lk, drop, forget, number, Nat.reduceBEq, cond_true, cond_false, Option.bind_some, cut?, splice?, builds, List.length_cons, List.length_nil, List.drop_succ_cons, List.drop_zero, List.take_succ_cons, List.take_zero, List.cons_append, List.nil_append, List.append_nil, List.drop_nil, List.take_nil, Nat.reduceAdd, Nat.reduceLeDiff, Nat.zero_add, Nat.add_zero, ↓reduceIte, Bool.not_true, Bool.not_false, decide_true, decide_false, eq_self, bne_self_eq_false, List.getElem?_cons_zero, List.getElem?_cons_succ, decide_eq_true_eq, Bool.false_eq_true, Bool.true_eq_false, reduceCtorEq, Nat.le_refl, t0, Int.reduceBEq, Int.reduceAdd, w1]
    (repeat' ((first | (rw [gF_if]; split) | (rw [condC_if]; split) | (rw [pickR_if]; split)) <;> (rename_i hh; (try simp only [Bool.not_eq_true, decide_eq_true_eq] at hh); simp only [hh, run0, run1, run2, run3, run4, noSlot, memN, RO.dst, lk, drop, forget, number, Nat.reduceBEq, cond_true, cond_false, Option.bind_some, cut?, splice?, builds, List.length_cons, List.length_nil, List.drop_succ_cons, List.drop_zero, List.take_succ_cons, List.take_zero, List.cons_append, List.nil_append, List.append_nil, List.drop_nil, List.take_nil, Nat.reduceAdd, Nat.reduceLeDiff, Nat.zero_add, Nat.add_zero, ↓reduceIte, Bool.not_true, Bool.not_false, decide_true, decide_false, eq_self, bne_self_eq_false, List.getElem?_cons_zero, List.getElem?_cons_succ, decide_eq_true_eq, Bool.false_eq_true, Bool.true_eq_false, reduceCtorEq, Nat.le_refl, List.replicate_zero, List.replicate_succ, e1, fills, and_self, Nat.zero_lt_one, List.set_cons_zero, Int.reduceAdd, w1, w3, Int.reduceBEq])))
    all_goals (refine ⟨_, _, ?_, rfl⟩; clear e1; simp_all [Tx.side, Request.enc])
  · simp only [run0, run1, run2, run3, run4, noSlot, memN, RO.dst, lk, drop, forget, number, Nat.reduceBEq, cond_true, cond_false, Option.bind_some, cut?, splice?, builds, List.length_cons, List.length_nil, List.drop_succ_cons, List.drop_zero, List.take_succ_cons, List.take_zero, List.cons_append, List.nil_append, List.append_nil, List.drop_nil, List.take_nil, Nat.reduceAdd, Nat.reduceLeDiff, Nat.zero_add, Nat.add_zero, ↓reduceIte, Bool.not_true, Bool.not_false, decide_true, decide_false, eq_self, bne_self_eq_false, List.getElem?_cons_zero, List.getElem?_cons_succ, decide_eq_true_eq, Bool.false_eq_true, Bool.true_eq_false, reduceCtorEq, Nat.le_refl, t1, Int.reduceBEq, Int.reduceAdd, w2]
    (repeat' ((first | (rw [gF_if]; split) | (rw [condC_if]; split) | (rw [pickR_if]; split)) <;> (rename_i hh; (try simp only [Bool.not_eq_true, decide_eq_true_eq] at hh); simp only [hh, run0, run1, run2, run3, run4, noSlot, memN, RO.dst, lk, drop, forget, number, Nat.reduceBEq, cond_true, cond_false, Option.bind_some, cut?, splice?, builds, List.length_cons, List.length_nil, List.drop_succ_cons, List.drop_zero, List.take_succ_cons, List.take_zero, List.cons_append, List.nil_append, List.append_nil, List.drop_nil, List.take_nil, Nat.reduceAdd, Nat.reduceLeDiff, Nat.zero_add, Nat.add_zero, ↓reduceIte, Bool.not_true, Bool.not_false, decide_true, decide_false, eq_self, bne_self_eq_false, List.getElem?_cons_zero, List.getElem?_cons_succ, decide_eq_true_eq, Bool.false_eq_true, Bool.true_eq_false, reduceCtorEq, Nat.le_refl, List.replicate_zero, List.replicate_succ, e1, fills, and_self, Nat.zero_lt_one, List.set_cons_zero, Int.reduceAdd, w2, w4, Int.reduceBEq])))
    all_goals (refine ⟨_, _, ?_, rfl⟩; clear e1; simp_all [Tx.side, Request.enc])
theorem Tx.side_len (t : Tx) (two : Bool) : (t.side two).length ≤ 1 := by
  unfold Tx.side
  (repeat' split) <;> (try cases (bif two then t.yt else t.yf)) <;> (try cases (bif two then t.at_ else t.af)) <;> simp
theorem sTxSends_run (hS14 : Has F tS14) (hS : Has F tS01d) (hf : h.floor ≤ h.next) (id a b m phase : Int) (yf yt af at_ : Bool) (reason : Int) : ∃ y h', call F Z 46 [.agg [.int .i64 id, .int .u64 a, .int .u64 b, .int .u64 m, .int .i64 phase, .bool yf, .bool yt, .bool af, .bool at_, .int .i64 reason]] h = some (.c y, h') ∧ Acc 3 h h' y ((Tx.sends ⟨id, a, b, m, phase, yf, yt, af, at_, reason⟩).map Request.enc) := by
  rw [call_run F Z (hS14.lk (g := 46) rfl) _ _ rfl]
  have a0 := Acc.lit0 (tag := 3) (On.refl h)
  obtain ⟨x1, h1, a1, l1⟩ := sTxSends_turn (F := F) (Z := Z) hf a0 (by simp) id a b m phase yf yt af at_ reason false
  have s1 := Tx.side_len ⟨id, a, b, m, phase, yf, yt, af, at_, reason⟩ false
  obtain ⟨x2, h2, a2, l2⟩ := sTxSends_turn (F := F) (Z := Z) hf a1 (by simp; omega) id a b m phase yf yt af at_ reason true
  simp only [cond_false, cond_true] at l1 l2
  simp only [run0, run1, run2, run3, run4, noSlot, memN, RO.dst, lk, drop, forget, number, Nat.reduceBEq, cond_true, cond_false, Option.bind_some, cut?, splice?, builds, List.length_cons, List.length_nil, List.drop_succ_cons, List.drop_zero, List.take_succ_cons, List.take_zero, List.cons_append, List.nil_append, List.append_nil, List.drop_nil, List.take_nil, Nat.reduceAdd, Nat.reduceLeDiff, Nat.zero_add, Nat.add_zero, ↓reduceIte, Bool.not_true, Bool.not_false, decide_true, decide_false, eq_self, bne_self_eq_false, List.getElem?_cons_zero, List.getElem?_cons_succ, decide_eq_true_eq, Bool.false_eq_true, Bool.true_eq_false, reduceCtorEq, Nat.le_refl, sTxOk_run hS hS14, List.replicate_zero, fills]
  (repeat' ((first | (rw [gF_if]; split) | (rw [condC_if]; split) | (rw [pickR_if]; split)) <;> (rename_i hh; (try simp only [Bool.not_eq_true, decide_eq_true_eq] at hh); simp only [hh, run0, run1, run2, run3, run4, noSlot, memN, RO.dst, lk, drop, forget, number, Nat.reduceBEq, cond_true, cond_false, Option.bind_some, cut?, splice?, builds, List.length_cons, List.length_nil, List.drop_succ_cons, List.drop_zero, List.take_succ_cons, List.take_zero, List.cons_append, List.nil_append, List.append_nil, List.drop_nil, List.take_nil, Nat.reduceAdd, Nat.reduceLeDiff, Nat.zero_add, Nat.add_zero, ↓reduceIte, Bool.not_true, Bool.not_false, decide_true, decide_false, eq_self, bne_self_eq_false, List.getElem?_cons_zero, List.getElem?_cons_succ, decide_eq_true_eq, Bool.false_eq_true, Bool.true_eq_false, reduceCtorEq, Nat.le_refl, sTxOk_run hS hS14, List.replicate_zero, fills, l1, l2])))
  all_goals have nn : Acc 3 h (h.push []) .nil [] := Acc.none (On.push _ _)
  all_goals have t2 : ¬ (2 : Int) < 2 := by omega
  all_goals first
    | (rw [loop_run]
       conv in (codeF _ _ r46L0 _) => unfold r46L0
       simp only [run0, run1, run2, run3, run4, noSlot, memN, RO.dst, lk, drop, forget, number, Nat.reduceBEq, cond_true, cond_false, Option.bind_some, cut?, splice?, builds, List.length_cons, List.length_nil, List.drop_succ_cons, List.drop_zero, List.take_succ_cons, List.take_zero, List.cons_append, List.nil_append, List.append_nil, List.drop_nil, List.take_nil, Nat.reduceAdd, Nat.reduceLeDiff, Nat.zero_add, Nat.add_zero, ↓reduceIte, Bool.not_true, Bool.not_false, decide_true, decide_false, eq_self, bne_self_eq_false, List.getElem?_cons_zero, List.getElem?_cons_succ, decide_eq_true_eq, Bool.false_eq_true, Bool.true_eq_false, reduceCtorEq, Nat.le_refl, t2]
       exact ⟨_, _, rfl, by simp_all [Tx.sends]⟩)
    | (refine ⟨_, _, rfl, ?_⟩; clear l1 l2 a1 a2 s1; simp_all [Tx.sends]; done)
    | (refine ⟨_, _, rfl, ?_⟩; clear l1 l2 a1 a2 s1; simp_all [Tx.sends, Tx.side]; done)
end
end Go.Proofs.Ytgogajbfiocdbaa.A
