/- A hand-over goes on behind a message that was taken. -/
import Derived.Test.YtgogajbfiocdbaaCHand
import Derived.Test.YtgogajbfiocdbaaVHand
import Derived.Test.YtgogajbfiocdbaaMHandMsg
namespace Go.Proofs.Ytgogajbfiocdbaa.A
open Go
set_option linter.unusedSimpArgs false
set_option linter.unusedVariables false
theorem Hand.drp (h : Hand) : h.enc.drop 5 = [] := rfl
def Hand.ok (h : Hand) : Bool := handOk h.lo h.from_ h.to h.epoch h.phase
def Hand.sends (h : Hand) : Int := if h.phase = 1 then h.epoch + 1 else h.epoch
def Hand.done (h : Hand) (step lo epoch : Int) : Hand × Bool := if h.ok = true ∧ h.phase ≠ 3 ∧ step = h.phase ∧ lo = h.lo ∧ epoch = h.sends then ({ h with phase := h.phase + 1 }, true) else (h, false)
def handEp (d e : Int) : Int := if e = 1 then IntKind.i64.wrap (d + 1) else d
section
variable {F : Nat → Option RF} {Z : CallF} {h : Heap} {cs : List Cell} {fp : List Nat} {m : HandMsg}
theorem toHand_e (hL : Has F tLHand) (a : Hand) (h : Heap) : call F Z 2 [.agg a.enc] h = some (.agg a.enc, h) := toHand_run hL _ _ _ _ _ h
theorem handEpoch_run (hI15 : Has F tI15) (a b c d e : Int) (h : Heap) : call F Z 132 [.agg [.int .u64 a, .int .i64 b, .int .i64 c, .int .i64 d, .int .i64 e]] h = some (.c (.int .i64 (handEp d e)), h) := by
  rw [call_run F Z (hI15.lk (g := 132) rfl) _ _ rfl]
  simp only [run0, run1, run2, run3, run4, noSlot, memN, RO.dst, lk, drop, forget, number, Nat.reduceBEq, cut?, splice?, builds, List.length_cons, List.length_nil, List.drop_succ_cons, List.drop_zero, List.take_succ_cons, List.take_zero, List.cons_append, List.nil_append, List.append_nil, List.drop_nil, List.take_nil, Nat.reduceAdd, Nat.reduceLeDiff, Nat.zero_add, Nat.add_zero, ↓reduceIte, Bool.not_true, Bool.not_false, decide_true, decide_false, eq_self, bne_self_eq_false, List.getElem?_cons_zero, List.getElem?_cons_succ, decide_eq_true_eq, Bool.false_eq_true, Bool.true_eq_false, reduceCtorEq, Nat.le_refl]
  (repeat' ((first | (rw [gF_if]; split) | (rw [condC_if]; split) | (rw [pickR_if]; split)) <;> (rename_i hh; (try simp only [Bool.not_eq_true, decide_eq_true_eq] at hh); simp only [hh, run0, run1, run2, run3, run4, noSlot, memN, RO.dst, lk, drop, forget, number, Nat.reduceBEq, cut?, splice?, builds, List.length_cons, List.length_nil, List.drop_succ_cons, List.drop_zero, List.take_succ_cons, List.take_zero, List.cons_append, List.nil_append, List.append_nil, List.drop_nil, List.take_nil, Nat.reduceAdd, Nat.reduceLeDiff, Nat.zero_add, Nat.add_zero, ↓reduceIte, Bool.not_true, Bool.not_false, decide_true, decide_false, eq_self, bne_self_eq_false, List.getElem?_cons_zero, List.getElem?_cons_succ, decide_eq_true_eq, Bool.false_eq_true, Bool.true_eq_false, reduceCtorEq, Nat.le_refl]))) <;> simp_all [handEp]
set_option maxHeartbeats 4000000 in
theorem handDone_run (hI11 : Has F tI11) (hI15 : Has F tI15) (a : Hand) (v : HandMsg.RI h cs m fp) : call F Z 113 [.agg a.enc, .agg cs] h = some (.tup [.agg (a.done m.step m.lo m.epoch).1.enc, .c (.bool (a.done m.step m.lo m.epoch).2)], h) := by
  obtain ⟨x1, p1, x2, p2, rfl, rfl, w1, w2⟩ := v
  obtain ⟨lo, fr, to, ep, ph⟩ := a
  have hw : handOk lo fr to ep ph = true → IntKind.i64.wrap (ep + 1) = ep + 1 ∧ IntKind.i64.wrap (ph + 1) = ph + 1 := fun hk => by
    simp only [handOk, inR, Bool.and_eq_true, decide_eq_true_eq] at hk
    exact ⟨wrapI _ (by omega) (by omega), wrapI _ (by omega) (by omega)⟩
  rw [call_run F Z (hI15.lk (g := 113) rfl) _ _ rfl]
  simp only [Hand.enc, run0, run1, run2, run3, run4, noSlot, memN, RO.dst, lk, drop, forget, number, Nat.reduceBEq, cut?, splice?, builds, List.length_cons, List.length_nil, List.drop_succ_cons, List.drop_zero, List.take_succ_cons, List.take_zero, List.cons_append, List.nil_append, List.append_nil, List.drop_nil, List.take_nil, Nat.reduceAdd, Nat.reduceLeDiff, Nat.zero_add, Nat.add_zero, ↓reduceIte, Bool.not_true, Bool.not_false, decide_true, decide_false, eq_self, bne_self_eq_false, List.getElem?_cons_zero, List.getElem?_cons_succ, decide_eq_true_eq, Bool.false_eq_true, Bool.true_eq_false, reduceCtorEq, Nat.le_refl, isHand_run hI11 hI15, handEpoch_run hI15]
  clear w1 w2
  (repeat' ((first | (rw [gF_if]; split) | (rw [condC_if]; split) | (rw [pickR_if]; split)) <;> (rename_i hh; (try simp only [Bool.not_eq_true, decide_eq_true_eq] at hh); simp only [hh, run0, run1, run2, run3, run4, noSlot, memN, RO.dst, lk, drop, forget, number, Nat.reduceBEq, cut?, splice?, builds, List.length_cons, List.length_nil, List.drop_succ_cons, List.drop_zero, List.take_succ_cons, List.take_zero, List.cons_append, List.nil_append, List.append_nil, List.drop_nil, List.take_nil, Nat.reduceAdd, Nat.reduceLeDiff, Nat.zero_add, Nat.add_zero, ↓reduceIte, Bool.not_true, Bool.not_false, decide_true, decide_false, eq_self, bne_self_eq_false, List.getElem?_cons_zero, List.getElem?_cons_succ, decide_eq_true_eq, Bool.false_eq_true, Bool.true_eq_false, reduceCtorEq, Nat.le_refl, isHand_run hI11 hI15, handEpoch_run hI15])))
  all_goals clear hI11 hI15
  all_goals first
    | (simp_all [Hand.done, Hand.ok, Hand.sends, Hand.enc]; done)
    | (simp_all [Hand.done, Hand.ok, Hand.sends, Hand.enc, handEp]; done)
    | (simp_all [Hand.done, Hand.ok, Hand.sends, Hand.enc, handEp]; split <;> simp_all; done)
    | (simp_all [Hand.done, Hand.ok, Hand.sends, Hand.enc, handEp]; trace_state; sorry)
theorem HandDone_c (hI11 : Has F tI11) (hI15 : Has F tI15) (hf : h.floor ≤ h.next) (a : Hand) (v : HandMsg.RI h cs m fp) : ∃ h', call F Z 85 [.agg a.enc, .agg cs] h = some (.tup [.agg (a.done m.step m.lo m.epoch).1.enc, .c (.bool (a.done m.step m.lo m.epoch).2)], h') ∧ On h h' := by
  obtain ⟨l1, l2, l3⟩ := HandMsg.lenI v
  refine ⟨h, ?_, On.refl h⟩
  rw [call_run F Z (hI15.lk (g := 85) rfl) _ _ rfl]
  simp only [run0, run1, run2, run3, run4, noSlot, memN, RO.dst, lk, drop, forget, number, Nat.reduceBEq, cut?, splice?, builds, List.length_cons, List.length_nil, List.drop_succ_cons, List.drop_zero, List.take_succ_cons, List.take_zero, List.cons_append, List.nil_append, List.append_nil, List.drop_nil, List.take_nil, Nat.reduceAdd, Nat.reduceLeDiff, Nat.zero_add, Nat.add_zero, ↓reduceIte, Bool.not_true, Bool.not_false, decide_true, decide_false, eq_self, bne_self_eq_false, List.getElem?_cons_zero, List.getElem?_cons_succ, decide_eq_true_eq, Bool.false_eq_true, Bool.true_eq_false, reduceCtorEq, Nat.le_refl, Hand.len, Hand.tak, Hand.drp, l1, l2, l3, handDone_run hI11 hI15 a v]
set_option maxHeartbeats 4000000 in
theorem sHandDone_c (hS : Has F tS01d) (hS15 : Has F tS15) (hf : h.floor ≤ h.next) (a : Hand) (v : HandMsg.RI h cs m fp) : ∃ h', call F Z 84 [.agg a.enc, .agg cs] h = some (.tup [.agg (a.done m.step m.lo m.epoch).1.enc, .c (.bool (a.done m.step m.lo m.epoch).2)], h') ∧ On h h' := by
  obtain ⟨x1, p1, x2, p2, rfl, rfl, w1, w2⟩ := v
  obtain ⟨lo, fr, to, ep, ph⟩ := a
  have hw : handOk lo fr to ep ph = true → IntKind.i64.wrap (ep + 1) = ep + 1 ∧ IntKind.i64.wrap (ph + 1) = ph + 1 := fun hk => by
    simp only [handOk, inR, Bool.and_eq_true, decide_eq_true_eq] at hk
    exact ⟨wrapI _ (by omega) (by omega), wrapI _ (by omega) (by omega)⟩
  refine ⟨h, ?_, On.refl h⟩
  rw [call_run F Z (hS15.lk (g := 84) rfl) _ _ rfl]
  simp only [Hand.enc, run0, run1, run2, run3, run4, noSlot, memN, RO.dst, lk, drop, forget, number, Nat.reduceBEq, cut?, splice?, builds, List.length_cons, List.length_nil, List.drop_succ_cons, List.drop_zero, List.take_succ_cons, List.take_zero, List.cons_append, List.nil_append, List.append_nil, List.drop_nil, List.take_nil, Nat.reduceAdd, Nat.reduceLeDiff, Nat.zero_add, Nat.add_zero, ↓reduceIte, Bool.not_true, Bool.not_false, decide_true, decide_false, eq_self, bne_self_eq_false, List.getElem?_cons_zero, List.getElem?_cons_succ, decide_eq_true_eq, Bool.false_eq_true, Bool.true_eq_false, reduceCtorEq, Nat.le_refl, sHandOk_run hS hS15]
  clear w1 w2
  (repeat' ((first | (rw [gF_if]; split) | (rw [condC_if]; split) | (rw [pickR_if]; split)) <;> (rename_i hh; (try simp only [Bool.not_eq_true, decide_eq_true_eq] at hh); simp only [hh, run0, run1, run2, run3, run4, noSlot, memN, RO.dst, lk, drop, forget, number, Nat.reduceBEq, cut?, splice?, builds, List.length_cons, List.length_nil, List.drop_succ_cons, List.drop_zero, List.take_succ_cons, List.take_zero, List.cons_append, List.nil_append, List.append_nil, List.drop_nil, List.take_nil, Nat.reduceAdd, Nat.reduceLeDiff, Nat.zero_add, Nat.add_zero, ↓reduceIte, Bool.not_true, Bool.not_false, decide_true, decide_false, eq_self, bne_self_eq_false, List.getElem?_cons_zero, List.getElem?_cons_succ, decide_eq_true_eq, Bool.false_eq_true, Bool.true_eq_false, reduceCtorEq, Nat.le_refl, sHandOk_run hS hS15])))
  all_goals clear hS hS15
  all_goals first
    | (simp_all [Hand.done, Hand.ok, Hand.sends, Hand.enc]; done)
    | (simp_all [Hand.done, Hand.ok, Hand.sends, Hand.enc]; intros; omega)
end
end Go.Proofs.Ytgogajbfiocdbaa.A
