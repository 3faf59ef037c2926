/- What the play of a transfer computes. -/
import Derived.Test.YtgogajbfiocdbaaCTx4
import Derived.Test.YtgogajbfiocdbaaVTxEvent
import Derived.Test.YtgogajbfiocdbaaVBool
import Derived.Test.YtgogajbfiocdbaaS3
namespace Go.Proofs.Ytgogajbfiocdbaa.A
open Go
set_option linter.unusedSimpArgs false
set_option linter.unusedVariables false
theorem Tx.drp (t : Tx) : t.enc.drop 10 = [] := rfl
def Tx.step (t : Tx) (e : TxEvent) : Tx × Bool := bif e.kind == 0 then t.vote e.side e.code else bif e.kind == 1 then t.ack e.side else bif e.kind == 2 then t.giveUp e.code else (t, false)
def Tx.play (t : Tx) (es : List TxEvent) : Tx × List Bool := bif t.ok && decide (es.length ≤ 100) then es.foldl (fun a e => ((a.1.step e).1, a.2 ++ [(a.1.step e).2])) (t, []) else (t, [])
section
variable {F : Nat → Option RF} {Z : CallF} {h : Heap}
theorem isTx_e (hI14 : Has F tI14) (t : Tx) (h : Heap) : call F Z 28 [.agg t.enc] h = some (.c (.bool t.ok), h) := isTx_run hI14 ..
theorem sTxOk_e (hS01d : Has F tS01d) (hS14 : Has F tS14) (t : Tx) (h : Heap) : call F Z 14 [.agg t.enc] h = some (.c (.bool t.ok), h) := sTxOk_run hS01d hS14 ..
theorem vote_e (hI14 : Has F tI14) (t : Tx) (side code : Int) (h : Heap) : call F Z 38 [.agg t.enc, .c (.int .i64 side), .c (.int .i64 code)] h = some (.tup [.agg (t.vote side code).1.enc, .c (.bool (t.vote side code).2)], h) := txVote_run hI14 ..
theorem sVote_e (hS01d : Has F tS01d) (hS14 : Has F tS14) (t : Tx) (side code : Int) (h : Heap) : call F Z 35 [.agg t.enc, .c (.int .i64 side), .c (.int .i64 code)] h = some (.tup [.agg (t.vote side code).1.enc, .c (.bool (t.vote side code).2)], h) := sTxVote_run hS01d hS14 ..
theorem ack_e (hI14 : Has F tI14) (t : Tx) (side : Int) (h : Heap) : call F Z 37 [.agg t.enc, .c (.int .i64 side)] h = some (.tup [.agg (t.ack side).1.enc, .c (.bool (t.ack side).2)], h) := txAck_run hI14 ..
theorem sAck_e (hS01d : Has F tS01d) (hS14 : Has F tS14) (t : Tx) (side : Int) (h : Heap) : call F Z 32 [.agg t.enc, .c (.int .i64 side)] h = some (.tup [.agg (t.ack side).1.enc, .c (.bool (t.ack side).2)], h) := sTxAck_run hS01d hS14 ..
theorem giveUp_e (hI14 : Has F tI14) (t : Tx) (r : Int) (h : Heap) : call F Z 29 [.agg t.enc, .c (.int .i64 r)] h = some (.tup [.agg (t.giveUp r).1.enc, .c (.bool (t.giveUp r).2)], h) := txGiveUp_run hI14 ..
theorem sGiveUp_e (hS01d : Has F tS01d) (hS14 : Has F tS14) (t : Tx) (r : Int) (h : Heap) : call F Z 24 [.agg t.enc, .c (.int .i64 r)] h = some (.tup [.agg (t.giveUp r).1.enc, .c (.bool (t.giveUp r).2)], h) := sTxGiveUp_run hS01d hS14 ..
set_option maxHeartbeats 1000000 in
theorem PlayTx_turn {h0 : Heap} (hI14 : Has F tI14) {x y : Cell} {es : List TxEvent} {fp : List Nat} (hf : h0.floor ≤ h0.next) (w : SlR 5 (Fl TxEvent.enc) h0 x es fp) {rows : List (List Cell)} (a : Acc 4 h0 h y rows) (hl : rows.length ≤ 1048576) (i : Nat) (hi : i < es.length) (t : Tx) :
    ∃ y' h', Acc 4 h0 h' y' (rows ++ [bool_enc (t.step es[i]).2]) ∧ loop F Z [2, 4, 6, 20, 21, 22] r60L0 ⟨[(6, .c y), (20, .c x), (21, .c (.int .i64 (es.length : Nat))), (22, .c (.int .i64 ((i : Nat) : Int)))], [(2, 2, 0), (4, 4, 0)], [(2, t.enc), (4, Tx.zero.enc)], h⟩ = loop F Z [2, 4, 6, 20, 21, 22] r60L0 ⟨[(6, .c y'), (20, .c x), (21, .c (.int .i64 (es.length : Nat))), (22, .c (.int .i64 ((i + 1 : Nat) : Int)))], [(2, 2, 0), (4, 4, 0)], [(2, (t.step es[i]).1.enc), (4, Tx.zero.enc)], h'⟩ := by
  have e1 := a.one_eq hf (bytes := 1) (by omega)
  have a1 := a.one hf (by omega)
  have hle := w.le2
  have hlt : (i : Int) < es.length := by omega
  have wg := w.on (Fl.ok _) a.on
  have hws := wrapS i (by omega)
  rw [loop_run]
  conv in (codeF _ _ r60L0 _) => unfold r60L0
  simp only [run0, run1, run2, run3, run4, noSlot, memN, RO.dst, lk, drop, forget, number, Nat.reduceBEq, cond_true, cond_false, Option.bind_some, cut?, splice?, builds, List.length_cons, List.length_nil, List.drop_succ_cons, List.drop_zero, List.take_succ_cons, List.take_zero, List.cons_append, List.nil_append, List.append_nil, List.drop_nil, List.take_nil, Nat.reduceAdd, Nat.reduceLeDiff, Nat.zero_add, Nat.add_zero, ↓reduceIte, Bool.not_true, Bool.not_false, decide_true, decide_false, eq_self, bne_self_eq_false, List.getElem?_cons_zero, List.getElem?_cons_succ, decide_eq_true_eq, Bool.false_eq_true, Bool.true_eq_false, reduceCtorEq, Nat.le_refl, w.len, hlt, w.idx hi, wg.load hi, TxEvent.enc]
  generalize es[i] = e
  obtain ⟨k, s, c⟩ := e
  clear w wg hi hlt
  (repeat' ((first | (rw [gF_if]; split) | (rw [condC_if]; split) | (rw [pickR_if]; split)) <;> (rename_i hh; (try simp only [Bool.not_eq_true, decide_eq_true_eq] at hh); simp only [hh, run0, run1, run2, run3, run4, noSlot, memN, RO.dst, lk, drop, forget, number, Nat.reduceBEq, cond_true, cond_false, Option.bind_some, cut?, splice?, builds, List.length_cons, List.length_nil, List.drop_succ_cons, List.drop_zero, List.take_succ_cons, List.take_zero, List.cons_append, List.nil_append, List.append_nil, List.drop_nil, List.take_nil, Nat.reduceAdd, Nat.reduceLeDiff, Nat.zero_add, Nat.add_zero, ↓reduceIte, Bool.not_true, Bool.not_false, decide_true, decide_false, eq_self, bne_self_eq_false, List.getElem?_cons_zero, List.getElem?_cons_succ, decide_eq_true_eq, Bool.false_eq_true, Bool.true_eq_false, reduceCtorEq, Nat.le_refl, Tx.len, Tx.tak, Tx.drp, vote_e hI14, ack_e hI14, giveUp_e hI14, hws, List.replicate_succ, List.replicate_zero, e1, fills, and_self, Nat.zero_lt_one, List.set_cons_zero])))
  all_goals (clear e1 hws; simp only [Tx.step, bool_enc, *, cond_true, cond_false]; exact ⟨_, _, a1 _, rfl⟩)
set_option maxHeartbeats 1000000 in
theorem sPlayTx_turn {h0 : Heap} (hS : Has F tS01d) (hS14 : Has F tS14) {x y : Cell} {es : List TxEvent} {fp : List Nat} (hf : h0.floor ≤ h0.next) (w : SlR 5 (Fl TxEvent.enc) h0 x es fp) {rows : List (List Cell)} (a : Acc 4 h0 h y rows) (hl : rows.length ≤ 1048576) (i : Nat) (hi : i < es.length) (t : Tx) :
    ∃ y' h', Acc 4 h0 h' y' (rows ++ [bool_enc (t.step es[i]).2]) ∧ loop F Z [1, 2, 4, 6, 7] r59L0 ⟨[(1, .c x), (6, .c y), (7, .c (.int .i64 ((i : Nat) : Int)))], [(2, 2, 0), (4, 4, 0)], [(2, t.enc), (4, Tx.zero.enc)], h⟩ = loop F Z [1, 2, 4, 6, 7] r59L0 ⟨[(1, .c x), (6, .c y'), (7, .c (.int .i64 ((i + 1 : Nat) : Int)))], [(2, 2, 0), (4, 4, 0)], [(2, (t.step es[i]).1.enc), (4, Tx.zero.enc)], h'⟩ := by
  have e1 := a.one_eq hf (bytes := 1) (by omega)
  have a1 := a.one hf (by omega)
  have hle := w.le2
  have hlt : (i : Int) < es.length := by omega
  have wg := w.on (Fl.ok _) a.on
  have hws := wrapS i (by omega)
  rw [loop_run]
  conv in (codeF _ _ r59L0 _) => unfold r59L0
  simp only [run0, run1, run2, run3, run4, noSlot, memN, RO.dst, lk, drop, forget, number, Nat.reduceBEq, cond_true, cond_false, Option.bind_some, cut?, splice?, builds, List.length_cons, List.length_nil, List.drop_succ_cons, List.drop_zero, List.take_succ_cons, List.take_zero, List.cons_append, List.nil_append, List.append_nil, List.drop_nil, List.take_nil, Nat.reduceAdd, Nat.reduceLeDiff, Nat.zero_add, Nat.add_zero, ↓reduceIte, Bool.not_true, Bool.not_false, decide_true, decide_false, eq_self, bne_self_eq_false, List.getElem?_cons_zero, List.getElem?_cons_succ, decide_eq_true_eq, Bool.false_eq_true, Bool.true_eq_false, reduceCtorEq, Nat.le_refl, w.len, hlt, w.idx hi, wg.load hi, TxEvent.enc]
  generalize es[i] = e
  obtain ⟨k, s, c⟩ := e
  clear w wg hi hlt
  (repeat' ((first | (rw [gF_if]; split) | (rw [condC_if]; split) | (rw [pickR_if]; split)) <;> (rename_i hh; (try simp only [Bool.not_eq_true, decide_eq_true_eq] at hh); simp only [hh, run0, run1, run2, run3, run4, noSlot, memN, RO.dst, lk, drop, forget, number, Nat.reduceBEq, cond_true, cond_false, Option.bind_some, cut?, splice?, builds, List.length_cons, List.length_nil, List.drop_succ_cons, List.drop_zero, List.take_succ_cons, List.take_zero, List.cons_append, List.nil_append, List.append_nil, List.drop_nil, List.take_nil, Nat.reduceAdd, Nat.reduceLeDiff, Nat.zero_add, Nat.add_zero, ↓reduceIte, Bool.not_true, Bool.not_false, decide_true, decide_false, eq_self, bne_self_eq_false, List.getElem?_cons_zero, List.getElem?_cons_succ, decide_eq_true_eq, Bool.false_eq_true, Bool.true_eq_false, reduceCtorEq, Nat.le_refl, Tx.len, Tx.tak, Tx.drp, sVote_e hS hS14, sAck_e hS hS14, sGiveUp_e hS hS14, hws, List.replicate_succ, List.replicate_zero, e1, fills, and_self, Nat.zero_lt_one, List.set_cons_zero])))
  all_goals (clear e1 hws; simp only [Tx.step, bool_enc, *, cond_true, cond_false]; exact ⟨_, _, a1 _, rfl⟩)
set_option maxHeartbeats 1000000 in
theorem PlayTx_run (hI14 : Has F tI14) {x : Cell} {es : List TxEvent} {fp : List Nat} (hf : h.floor ≤ h.next) (w : SlR 5 (Fl TxEvent.enc) h x es fp) (t : Tx) :
    ∃ y h', call F Z 60 [.agg t.enc, .c x] h = some (.tup [.agg (t.play es).1.enc, .c y], h') ∧ Acc 4 h h' y ((t.play es).2.map bool_enc) := by
  have a0 := Acc.lit0 (tag := 4) (On.refl h)
  have hle := w.le2
  rw [call_run F Z (hI14.lk (g := 60) rfl) _ _ rfl]
  simp only [run0, run1, run2, run3, run4, noSlot, memN, RO.dst, lk, drop, forget, number, Nat.reduceBEq, cond_true, cond_false, Option.bind_some, cut?, splice?, builds, List.length_cons, List.length_nil, List.drop_succ_cons, List.drop_zero, List.take_succ_cons, List.take_zero, List.cons_append, List.nil_append, List.append_nil, List.drop_nil, List.take_nil, Nat.reduceAdd, Nat.reduceLeDiff, Nat.zero_add, Nat.add_zero, ↓reduceIte, Bool.not_true, Bool.not_false, decide_true, decide_false, eq_self, bne_self_eq_false, List.getElem?_cons_zero, List.getElem?_cons_succ, decide_eq_true_eq, Bool.false_eq_true, Bool.true_eq_false, reduceCtorEq, Nat.le_refl, Tx.len, Tx.tak, isTx_e hI14]
  (repeat' ((first | (rw [gF_if]; split) | (rw [condC_if]; split) | (rw [pickR_if]; split)) <;> (rename_i hh; (try simp only [Bool.not_eq_true, decide_eq_true_eq] at hh); simp only [hh, run0, run1, run2, run3, run4, noSlot, memN, RO.dst, lk, drop, forget, number, Nat.reduceBEq, cond_true, cond_false, Option.bind_some, cut?, splice?, builds, List.length_cons, List.length_nil, List.drop_succ_cons, List.drop_zero, List.take_succ_cons, List.take_zero, List.cons_append, List.nil_append, List.append_nil, List.drop_nil, List.take_nil, Nat.reduceAdd, Nat.reduceLeDiff, Nat.zero_add, Nat.add_zero, ↓reduceIte, Bool.not_true, Bool.not_false, decide_true, decide_false, eq_self, bne_self_eq_false, List.getElem?_cons_zero, List.getElem?_cons_succ, decide_eq_true_eq, Bool.false_eq_true, Bool.true_eq_false, reduceCtorEq, Nat.le_refl, Tx.len, Tx.tak, Tx.drp, isTx_e hI14, w.len, List.replicate_zero, fills])))
  · have hp : t.play es = (t, []) := by
      unfold Tx.play
      cases hok : t.ok with
      | false => rfl
      | true => rw [decide_eq_false (by simp_all <;> omega)]; rfl
    rw [hp]
    exact ⟨_, _, rfl, Acc.nil 4 h⟩
  · have hn : es.length ≤ 100 := by simp_all <;> omega
    have hp : t.play es = es.foldl (fun a e => ((a.1.step e).1, a.2 ++ [(a.1.step e).2])) (t, []) := by
      have hok : t.ok = true := by simp_all
      unfold Tx.play
      rw [hok, decide_eq_true hn]; rfl
    obtain ⟨s', ⟨y', g', hs', ha', _⟩, l1⟩ := loop_fold (F := F) (Z := Z) (live := [2, 4, 6, 20, 21, 22]) (b := r60L0) es (fun a e => ((a.1.step e).1, a.2 ++ [(a.1.step e).2]))
      (fun i a s => ∃ y g, s = ⟨[(6, .c y), (20, .c x), (21, .c (.int .i64 (es.length : Nat))), (22, .c (.int .i64 ((i : Nat) : Int)))], [(2, 2, 0), (4, 4, 0)], [(2, a.1.enc), (4, Tx.zero.enc)], g⟩ ∧ Acc 4 h g y (a.2.map bool_enc) ∧ a.2.length ≤ i) (fun i hi a s ⟨y, g, hs, ha, hl⟩ => by
        subst hs
        obtain ⟨y', g', ha', e'⟩ := PlayTx_turn (F := F) (Z := Z) hI14 hf w ha (by simp; omega) i hi a.1
        exact ⟨_, ⟨y', g', rfl, by simpa using ha', by simp; omega⟩, e'⟩) (a := (t, [])) (s := ⟨[(6, .c (.sl 4 h.next 0 0)), (20, .c x), (21, .c (.int .i64 (es.length : Nat))), (22, .c (.int .i64 ((0 : Nat) : Int)))], [(2, 2, 0), (4, 4, 0)], [(2, t.enc), (4, Tx.zero.enc)], (h.push [])⟩) ⟨_, _, rfl, by simpa using a0, Nat.le_refl _⟩
    subst hs'
    rw [← hp] at l1 ha'
    simp only [show ((0 : Nat) : Int) = 0 from rfl] at l1
    have ez : Tx.zero.enc = [.int .i64 0, .int .u64 0, .int .u64 0, .int .u64 0, .int .i64 0, .bool false, .bool false, .bool false, .bool false, .int .i64 0] := rfl
    rw [ez] at l1
    have hlt : ¬ (es.length : Int) < es.length := by omega
    simp only [run0, run1, run2, run3, run4, noSlot, memN, RO.dst, lk, drop, forget, number, Nat.reduceBEq, cond_true, cond_false, Option.bind_some, cut?, splice?, builds, List.length_cons, List.length_nil, List.drop_succ_cons, List.drop_zero, List.take_succ_cons, List.take_zero, List.cons_append, List.nil_append, List.append_nil, List.drop_nil, List.take_nil, Nat.reduceAdd, Nat.reduceLeDiff, Nat.zero_add, Nat.add_zero, ↓reduceIte, Bool.not_true, Bool.not_false, decide_true, decide_false, eq_self, bne_self_eq_false, List.getElem?_cons_zero, List.getElem?_cons_succ, decide_eq_true_eq, Bool.false_eq_true, Bool.true_eq_false, reduceCtorEq, Nat.le_refl, w.len, l1]
    rw [loop_run]
    conv in (codeF _ _ r60L0 _) => unfold r60L0
    simp only [run0, run1, run2, run3, run4, noSlot, memN, RO.dst, lk, drop, forget, number, Nat.reduceBEq, cond_true, cond_false, Option.bind_some, cut?, splice?, builds, List.length_cons, List.length_nil, List.drop_succ_cons, List.drop_zero, List.take_succ_cons, List.take_zero, List.cons_append, List.nil_append, List.append_nil, List.drop_nil, List.take_nil, Nat.reduceAdd, Nat.reduceLeDiff, Nat.zero_add, Nat.add_zero, ↓reduceIte, Bool.not_true, Bool.not_false, decide_true, decide_false, eq_self, bne_self_eq_false, List.getElem?_cons_zero, List.getElem?_cons_succ, decide_eq_true_eq, Bool.false_eq_true, Bool.true_eq_false, reduceCtorEq, Nat.le_refl, w.len, hlt, Tx.len, Tx.tak]
    exact ⟨_, _, rfl, ha'⟩
  · have hp : t.play es = (t, []) := by
      unfold Tx.play
      cases hok : t.ok with
      | false => rfl
      | true => rw [decide_eq_false (by simp_all <;> omega)]; rfl
    rw [hp]
    exact ⟨_, _, rfl, Acc.nil 4 h⟩
set_option maxHeartbeats 1000000 in
theorem sPlayTx_run (hS : Has F tS01d) (hS14 : Has F tS14) {x : Cell} {es : List TxEvent} {fp : List Nat} (hf : h.floor ≤ h.next) (w : SlR 5 (Fl TxEvent.enc) h x es fp) (t : Tx) :
    ∃ y h', call F Z 59 [.agg t.enc, .c x] h = some (.tup [.agg (t.play es).1.enc, .c y], h') ∧ Acc 4 h h' y ((t.play es).2.map bool_enc) := by
  have a0 := Acc.lit0 (tag := 4) (On.refl h)
  have hle := w.le2
  rw [call_run F Z (hS14.lk (g := 59) rfl) _ _ rfl]
  simp only [run0, run1, run2, run3, run4, noSlot, memN, RO.dst, lk, drop, forget, number, Nat.reduceBEq, cond_true, cond_false, Option.bind_some, cut?, splice?, builds, List.length_cons, List.length_nil, List.drop_succ_cons, List.drop_zero, List.take_succ_cons, List.take_zero, List.cons_append, List.nil_append, List.append_nil, List.drop_nil, List.take_nil, Nat.reduceAdd, Nat.reduceLeDiff, Nat.zero_add, Nat.add_zero, ↓reduceIte, Bool.not_true, Bool.not_false, decide_true, decide_false, eq_self, bne_self_eq_false, List.getElem?_cons_zero, List.getElem?_cons_succ, decide_eq_true_eq, Bool.false_eq_true, Bool.true_eq_false, reduceCtorEq, Nat.le_refl, Tx.len, Tx.tak, sTxOk_e hS hS14]
  (repeat' ((first | (rw [gF_if]; split) | (rw [condC_if]; split) | (rw [pickR_if]; split)) <;> (rename_i hh; (try simp only [Bool.not_eq_true, decide_eq_true_eq] at hh); simp only [hh, run0, run1, run2, run3, run4, noSlot, memN, RO.dst, lk, drop, forget, number, Nat.reduceBEq, cond_true, cond_false, Option.bind_some, cut?, splice?, builds, List.length_cons, List.length_nil, List.drop_succ_cons, List.drop_zero, List.take_succ_cons, List.take_zero, List.cons_append, List.nil_append, List.append_nil, List.drop_nil, List.take_nil, Nat.reduceAdd, Nat.reduceLeDiff, Nat.zero_add, Nat.add_zero, ↓reduceIte, Bool.not_true, Bool.not_false, decide_true, decide_false, eq_self, bne_self_eq_false, List.getElem?_cons_zero, List.getElem?_cons_succ, decide_eq_true_eq, Bool.false_eq_true, Bool.true_eq_false, reduceCtorEq, Nat.le_refl, Tx.len, Tx.tak, Tx.drp, sTxOk_e hS hS14, w.len, List.replicate_zero, fills])))
  · have hp : t.play es = (t, []) := by
      unfold Tx.play
      cases hok : t.ok with
      | false => rfl
      | true => rw [decide_eq_false (by simp_all <;> omega)]; rfl
    rw [hp]
    exact ⟨_, _, rfl, Acc.nil 4 h⟩
  · have hn : es.length ≤ 100 := by simp_all <;> omega
    have hp : t.play es = es.foldl (fun a e => ((a.1.step e).1, a.2 ++ [(a.1.step e).2])) (t, []) := by
      have hok : t.ok = true := by simp_all
      unfold Tx.play
      rw [hok, decide_eq_true hn]; rfl
    obtain ⟨s', ⟨y', g', hs', ha', _⟩, l1⟩ := loop_fold (F := F) (Z := Z) (live := [1, 2, 4, 6, 7]) (b := r59L0) es (fun a e => ((a.1.step e).1, a.2 ++ [(a.1.step e).2]))
      (fun i a s => ∃ y g, s = ⟨[(1, .c x), (6, .c y), (7, .c (.int .i64 ((i : Nat) : Int)))], [(2, 2, 0), (4, 4, 0)], [(2, a.1.enc), (4, Tx.zero.enc)], g⟩ ∧ Acc 4 h g y (a.2.map bool_enc) ∧ a.2.length ≤ i) (fun i hi a s ⟨y, g, hs, ha, hl⟩ => by
        subst hs
        obtain ⟨y', g', ha', e'⟩ := sPlayTx_turn (F := F) (Z := Z) hS hS14 hf w ha (by simp; omega) i hi a.1
        exact ⟨_, ⟨y', g', rfl, by simpa using ha', by simp; omega⟩, e'⟩) (a := (t, [])) (s := ⟨[(1, .c x), (6, .c (.sl 4 h.next 0 0)), (7, .c (.int .i64 ((0 : Nat) : Int)))], [(2, 2, 0), (4, 4, 0)], [(2, t.enc), (4, Tx.zero.enc)], (h.push [])⟩) ⟨_, _, rfl, by simpa using a0, Nat.le_refl _⟩
    subst hs'
    rw [← hp] at l1 ha'
    simp only [show ((0 : Nat) : Int) = 0 from rfl] at l1
    have ez : Tx.zero.enc = [.int .i64 0, .int .u64 0, .int .u64 0, .int .u64 0, .int .i64 0, .bool false, .bool false, .bool false, .bool false, .int .i64 0] := rfl
    rw [ez] at l1
    have hlt : ¬ (es.length : Int) < es.length := by omega
    simp only [run0, run1, run2, run3, run4, noSlot, memN, RO.dst, lk, drop, forget, number, Nat.reduceBEq, cond_true, cond_false, Option.bind_some, cut?, splice?, builds, List.length_cons, List.length_nil, List.drop_succ_cons, List.drop_zero, List.take_succ_cons, List.take_zero, List.cons_append, List.nil_append, List.append_nil, List.drop_nil, List.take_nil, Nat.reduceAdd, Nat.reduceLeDiff, Nat.zero_add, Nat.add_zero, ↓reduceIte, Bool.not_true, Bool.not_false, decide_true, decide_false, eq_self, bne_self_eq_false, List.getElem?_cons_zero, List.getElem?_cons_succ, decide_eq_true_eq, Bool.false_eq_true, Bool.true_eq_false, reduceCtorEq, Nat.le_refl, w.len, l1]
    rw [loop_run]
    conv in (codeF _ _ r59L0 _) => unfold r59L0
    simp only [run0, run1, run2, run3, run4, noSlot, memN, RO.dst, lk, drop, forget, number, Nat.reduceBEq, cond_true, cond_false, Option.bind_some, cut?, splice?, builds, List.length_cons, List.length_nil, List.drop_succ_cons, List.drop_zero, List.take_succ_cons, List.take_zero, List.cons_append, List.nil_append, List.append_nil, List.drop_nil, List.take_nil, Nat.reduceAdd, Nat.reduceLeDiff, Nat.zero_add, Nat.add_zero, ↓reduceIte, Bool.not_true, Bool.not_false, decide_true, decide_false, eq_self, bne_self_eq_false, List.getElem?_cons_zero, List.getElem?_cons_succ, decide_eq_true_eq, Bool.false_eq_true, Bool.true_eq_false, reduceCtorEq, Nat.le_refl, w.len, hlt, Tx.len, Tx.tak]
    exact ⟨_, _, rfl, ha'⟩
  · have hp : t.play es = (t, []) := by
      unfold Tx.play
      cases hok : t.ok with
      | false => rfl
      | true => rw [decide_eq_false (by simp_all <;> omega)]; rfl
    rw [hp]
    exact ⟨_, _, rfl, Acc.nil 4 h⟩
end
end Go.Proofs.Ytgogajbfiocdbaa.A
