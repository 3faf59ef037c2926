/- What PastAt computes. -/
import Derived.Test.YtgogajbfiocdbaaCPast2
import Derived.Test.YtgogajbfiocdbaaS3
namespace Go.Proofs.Ytgogajbfiocdbaa.A
open Go
set_option linter.unusedSimpArgs false
set_option linter.unusedVariables false
def Past.cutAt (t : Int) (p : Past) : List Past := if p.start > t then [] else if p.end_ > t then [⟨p.kind, p.a, p.b, p.m, p.start, -1, 0, 0⟩] else [p]
def pastAt (xs : List Past) (t : Int) : List Past := bif goodPast xs then xs.flatMap (Past.cutAt t) else []
theorem Past.cutAt_len (t : Int) (p : Past) : (p.cutAt t).length ≤ 1 := by unfold Past.cutAt; (repeat' split) <;> simp
section
variable {F : Nat → Option RF} {Z : CallF} {h : Heap} {x : Cell} {xs : List Past} {fp : List Nat}
set_option maxHeartbeats 1000000 in
theorem PastAt_run (hI17 : Has F tI17) (hf : h.floor ≤ h.next) (w : SlR 1 (Fl Past.enc) h x xs fp) (hn : xs.length ≤ 1048576) (t : Int) : ∃ y h', call F Z 53 [.c x, .c (.int .i64 t)] h = some (.c y, h') ∧ Acc 1 h h' y ((pastAt xs t).map Past.enc) := by
  rw [call_run F Z (hI17.lk (g := 53) rfl) _ _ rfl]
  have w0 := w.on (Fl.ok _) (On.push h [])
  have a0 := Acc.lit0 (tag := 1) (On.refl h)
  simp only [run0, run1, run2, run3, run4, noSlot, memN, RO.dst, lk, drop, forget, number, Nat.reduceBEq, cond_true, cond_false, Option.bind_some, cut?, splice?, builds, List.length_cons, List.length_nil, List.drop_succ_cons, List.drop_zero, List.take_succ_cons, List.take_zero, List.cons_append, List.nil_append, List.append_nil, List.drop_nil, List.take_nil, Nat.reduceAdd, Nat.reduceLeDiff, Nat.zero_add, Nat.add_zero, ↓reduceIte, Bool.not_true, Bool.not_false, decide_true, decide_false, eq_self, bne_self_eq_false, List.getElem?_cons_zero, List.getElem?_cons_succ, decide_eq_true_eq, Bool.false_eq_true, Bool.true_eq_false, reduceCtorEq, Nat.le_refl, isPast_run hI17 w]
  (repeat' ((first | (rw [gF_if]; split) | (rw [condC_if]; split) | (rw [pickR_if]; split)) <;> (rename_i hh; (try simp only [Bool.not_eq_true, decide_eq_true_eq] at hh); simp only [hh, run0, run1, run2, run3, run4, noSlot, memN, RO.dst, lk, drop, forget, number, Nat.reduceBEq, cond_true, cond_false, Option.bind_some, cut?, splice?, builds, List.length_cons, List.length_nil, List.drop_succ_cons, List.drop_zero, List.take_succ_cons, List.take_zero, List.cons_append, List.nil_append, List.append_nil, List.drop_nil, List.take_nil, Nat.reduceAdd, Nat.reduceLeDiff, Nat.zero_add, Nat.add_zero, ↓reduceIte, Bool.not_true, Bool.not_false, decide_true, decide_false, eq_self, bne_self_eq_false, List.getElem?_cons_zero, List.getElem?_cons_succ, decide_eq_true_eq, Bool.false_eq_true, Bool.true_eq_false, reduceCtorEq, Nat.le_refl, isPast_run hI17 w, List.replicate_zero, fills])))
  · refine ⟨_, _, rfl, ?_⟩
    simp_all [pastAt]
    exact Acc.nil 1 h
  · obtain ⟨y1, h1, a1, l1⟩ := loop_acc (F := F) (Z := Z) (live := [1, 5, 12, 13, 14]) (b := r53L0) xs (fun p => (p.cutAt t).map Past.enc) 1 h (fun i y g => ⟨[(1, .c (.int .i64 t)), (5, .c y), (12, .c x), (13, .c (.int .i64 (xs.length : Nat))), (14, .c (.int .i64 (i : Nat)))], [], [], g⟩) (fun p => by simpa using Past.cutAt_len t p) (fun i hi y g rows a hr => by
      have e1 := a.one_eq hf (bytes := 64) (by omega)
      have a1 := a.one hf (by omega)
      have hlt : (i : Int) < xs.length := by omega
      have wg := w.on (Fl.ok _) a.on
      have hws := wrapS i (by omega)
      rw [loop_run]
      conv in (codeF _ _ r53L0 _) => unfold r53L0
      simp only [run0, run1, run2, run3, run4, noSlot, memN, RO.dst, lk, drop, forget, number, Nat.reduceBEq, cond_true, cond_false, Option.bind_some, cut?, splice?, builds, List.length_cons, List.length_nil, List.drop_succ_cons, List.drop_zero, List.take_succ_cons, List.take_zero, List.cons_append, List.nil_append, List.append_nil, List.drop_nil, List.take_nil, Nat.reduceAdd, Nat.reduceLeDiff, Nat.zero_add, Nat.add_zero, ↓reduceIte, Bool.not_true, Bool.not_false, decide_true, decide_false, eq_self, bne_self_eq_false, List.getElem?_cons_zero, List.getElem?_cons_succ, decide_eq_true_eq, Bool.false_eq_true, Bool.true_eq_false, reduceCtorEq, Nat.le_refl, hlt, w.idx hi, wg.load hi, Past.enc]
      generalize xs[i] = p
      obtain ⟨k, a, b, m, s, e, c, v⟩ := p
      clear w wg hi hlt
      (repeat' ((first | (rw [gF_if]; split) | (rw [condC_if]; split) | (rw [pickR_if]; split)) <;> (rename_i hh; (try simp only [Bool.not_eq_true, decide_eq_true_eq] at hh); simp only [hh, run0, run1, run2, run3, run4, noSlot, memN, RO.dst, lk, drop, forget, number, Nat.reduceBEq, cond_true, cond_false, Option.bind_some, cut?, splice?, builds, List.length_cons, List.length_nil, List.drop_succ_cons, List.drop_zero, List.take_succ_cons, List.take_zero, List.cons_append, List.nil_append, List.append_nil, List.drop_nil, List.take_nil, Nat.reduceAdd, Nat.reduceLeDiff, Nat.zero_add, Nat.add_zero, ↓reduceIte, Bool.not_true, Bool.not_false, decide_true, decide_false, eq_self, bne_self_eq_false, List.getElem?_cons_zero, List.getElem?_cons_succ, decide_eq_true_eq, Bool.false_eq_true, Bool.true_eq_false, reduceCtorEq, Nat.le_refl, hws, List.replicate_succ, List.replicate_zero, e1, fills, and_self, Nat.zero_lt_one, List.set_cons_zero])))
      all_goals (refine ⟨_, _, ?_, rfl⟩; clear e1; simp_all [Past.cutAt, Past.enc])
      all_goals ((repeat' split) <;> first | (exfalso; omega) | exact a1 _)) (by simpa [fills] using a0)
    simp only [show ((0 : Nat) : Int) = 0 from rfl] at l1
    have hlt : ¬ (xs.length : Int) < xs.length := by omega
    simp only [run0, run1, run2, run3, run4, noSlot, memN, RO.dst, lk, drop, forget, number, Nat.reduceBEq, cond_true, cond_false, Option.bind_some, cut?, splice?, builds, List.length_cons, List.length_nil, List.drop_succ_cons, List.drop_zero, List.take_succ_cons, List.take_zero, List.cons_append, List.nil_append, List.append_nil, List.drop_nil, List.take_nil, Nat.reduceAdd, Nat.reduceLeDiff, Nat.zero_add, Nat.add_zero, ↓reduceIte, Bool.not_true, Bool.not_false, decide_true, decide_false, eq_self, bne_self_eq_false, List.getElem?_cons_zero, List.getElem?_cons_succ, decide_eq_true_eq, Bool.false_eq_true, Bool.true_eq_false, reduceCtorEq, Nat.le_refl, w.len, List.replicate_zero, fills, l1]
    rw [loop_run]
    conv in (codeF _ _ r53L0 _) => unfold r53L0
    simp only [run0, run1, run2, run3, run4, noSlot, memN, RO.dst, lk, drop, forget, number, Nat.reduceBEq, cond_true, cond_false, Option.bind_some, cut?, splice?, builds, List.length_cons, List.length_nil, List.drop_succ_cons, List.drop_zero, List.take_succ_cons, List.take_zero, List.cons_append, List.nil_append, List.append_nil, List.drop_nil, List.take_nil, Nat.reduceAdd, Nat.reduceLeDiff, Nat.zero_add, Nat.add_zero, ↓reduceIte, Bool.not_true, Bool.not_false, decide_true, decide_false, eq_self, bne_self_eq_false, List.getElem?_cons_zero, List.getElem?_cons_succ, decide_eq_true_eq, Bool.false_eq_true, Bool.true_eq_false, reduceCtorEq, Nat.le_refl, hlt]
    refine ⟨_, _, rfl, ?_⟩
    have : (pastAt xs t).map Past.enc = xs.flatMap fun p => (p.cutAt t).map Past.enc := by simp_all [pastAt, List.map_flatMap]
    rw [this]; exact a1
set_option maxHeartbeats 1000000 in
theorem sPastAt_run (hS17 : Has F tS17) (hS : Has F tS01d) (hf : h.floor ≤ h.next) (w : SlR 1 (Fl Past.enc) h x xs fp) (hn : xs.length ≤ 1048576) (t : Int) : ∃ y h', call F Z 52 [.c x, .c (.int .i64 t)] h = some (.c y, h') ∧ Acc 1 h h' y ((pastAt xs t).map Past.enc) := by
  rw [call_run F Z (hS17.lk (g := 52) rfl) _ _ rfl]
  have w0 := w.on (Fl.ok _) (On.push h [])
  have a0 := Acc.lit0 (tag := 1) (On.refl h)
  simp only [run0, run1, run2, run3, run4, noSlot, memN, RO.dst, lk, drop, forget, number, Nat.reduceBEq, cond_true, cond_false, Option.bind_some, cut?, splice?, builds, List.length_cons, List.length_nil, List.drop_succ_cons, List.drop_zero, List.take_succ_cons, List.take_zero, List.cons_append, List.nil_append, List.append_nil, List.drop_nil, List.take_nil, Nat.reduceAdd, Nat.reduceLeDiff, Nat.zero_add, Nat.add_zero, ↓reduceIte, Bool.not_true, Bool.not_false, decide_true, decide_false, eq_self, bne_self_eq_false, List.getElem?_cons_zero, List.getElem?_cons_succ, decide_eq_true_eq, Bool.false_eq_true, Bool.true_eq_false, reduceCtorEq, Nat.le_refl, sPastOk_run hS17 hS w0, List.replicate_zero, fills]
  (repeat' ((first | (rw [gF_if]; split) | (rw [condC_if]; split) | (rw [pickR_if]; split)) <;> (rename_i hh; (try simp only [Bool.not_eq_true, decide_eq_true_eq] at hh); simp only [hh, run0, run1, run2, run3, run4, noSlot, memN, RO.dst, lk, drop, forget, number, Nat.reduceBEq, cond_true, cond_false, Option.bind_some, cut?, splice?, builds, List.length_cons, List.length_nil, List.drop_succ_cons, List.drop_zero, List.take_succ_cons, List.take_zero, List.cons_append, List.nil_append, List.append_nil, List.drop_nil, List.take_nil, Nat.reduceAdd, Nat.reduceLeDiff, Nat.zero_add, Nat.add_zero, ↓reduceIte, Bool.not_true, Bool.not_false, decide_true, decide_false, eq_self, bne_self_eq_false, List.getElem?_cons_zero, List.getElem?_cons_succ, decide_eq_true_eq, Bool.false_eq_true, Bool.true_eq_false, reduceCtorEq, Nat.le_refl, sPastOk_run hS17 hS w0, List.replicate_zero, fills])))
  · refine ⟨_, _, rfl, ?_⟩
    simp_all [pastAt]
    exact Acc.none (On.push _ _)
  · obtain ⟨y1, h1, a1, l1⟩ := loop_acc (F := F) (Z := Z) (live := [0, 1, 5, 6]) (b := r52L0) xs (fun p => (p.cutAt t).map Past.enc) 1 h (fun i y g => ⟨[(0, .c x), (1, .c (.int .i64 t)), (5, .c y), (6, .c (.int .i64 (i : Nat)))], [], [], g⟩) (fun p => by simpa using Past.cutAt_len t p) (fun i hi y g rows a hr => by
      have e1 := a.one_eq hf (bytes := 64) (by omega)
      have a1 := a.one hf (by omega)
      have hlt : (i : Int) < xs.length := by omega
      have wg := w.on (Fl.ok _) a.on
      have hws := wrapS i (by omega)
      rw [loop_run]
      conv in (codeF _ _ r52L0 _) => unfold r52L0
      simp only [run0, run1, run2, run3, run4, noSlot, memN, RO.dst, lk, drop, forget, number, Nat.reduceBEq, cond_true, cond_false, Option.bind_some, cut?, splice?, builds, List.length_cons, List.length_nil, List.drop_succ_cons, List.drop_zero, List.take_succ_cons, List.take_zero, List.cons_append, List.nil_append, List.append_nil, List.drop_nil, List.take_nil, Nat.reduceAdd, Nat.reduceLeDiff, Nat.zero_add, Nat.add_zero, ↓reduceIte, Bool.not_true, Bool.not_false, decide_true, decide_false, eq_self, bne_self_eq_false, List.getElem?_cons_zero, List.getElem?_cons_succ, decide_eq_true_eq, Bool.false_eq_true, Bool.true_eq_false, reduceCtorEq, Nat.le_refl, w.len, hlt, w.idx hi, wg.load hi, Past.enc]
      generalize xs[i] = p
      obtain ⟨k, a, b, m, s, e, c, v⟩ := p
      clear w wg hi hlt
      (repeat' ((first | (rw [gF_if]; split) | (rw [condC_if]; split) | (rw [pickR_if]; split)) <;> (rename_i hh; (try simp only [Bool.not_eq_true, decide_eq_true_eq] at hh); simp only [hh, run0, run1, run2, run3, run4, noSlot, memN, RO.dst, lk, drop, forget, number, Nat.reduceBEq, cond_true, cond_false, Option.bind_some, cut?, splice?, builds, List.length_cons, List.length_nil, List.drop_succ_cons, List.drop_zero, List.take_succ_cons, List.take_zero, List.cons_append, List.nil_append, List.append_nil, List.drop_nil, List.take_nil, Nat.reduceAdd, Nat.reduceLeDiff, Nat.zero_add, Nat.add_zero, ↓reduceIte, Bool.not_true, Bool.not_false, decide_true, decide_false, eq_self, bne_self_eq_false, List.getElem?_cons_zero, List.getElem?_cons_succ, decide_eq_true_eq, Bool.false_eq_true, Bool.true_eq_false, reduceCtorEq, Nat.le_refl, hws, List.replicate_succ, List.replicate_zero, e1, fills, and_self, Nat.zero_lt_one, List.set_cons_zero])))
      all_goals (refine ⟨_, _, ?_, rfl⟩; clear e1; simp_all [Past.cutAt, Past.enc])
      all_goals ((repeat' split) <;> first | (exfalso; omega) | exact a1 _)) (by simpa [fills] using a0)
    simp only [show ((0 : Nat) : Int) = 0 from rfl] at l1
    have hlt : ¬ (xs.length : Int) < xs.length := by omega
    simp only [run0, run1, run2, run3, run4, noSlot, memN, RO.dst, lk, drop, forget, number, Nat.reduceBEq, cond_true, cond_false, Option.bind_some, cut?, splice?, builds, List.length_cons, List.length_nil, List.drop_succ_cons, List.drop_zero, List.take_succ_cons, List.take_zero, List.cons_append, List.nil_append, List.append_nil, List.drop_nil, List.take_nil, Nat.reduceAdd, Nat.reduceLeDiff, Nat.zero_add, Nat.add_zero, ↓reduceIte, Bool.not_true, Bool.not_false, decide_true, decide_false, eq_self, bne_self_eq_false, List.getElem?_cons_zero, List.getElem?_cons_succ, decide_eq_true_eq, Bool.false_eq_true, Bool.true_eq_false, reduceCtorEq, Nat.le_refl, w.len, List.replicate_zero, fills, l1]
    rw [loop_run]
    conv in (codeF _ _ r52L0 _) => unfold r52L0
    simp only [run0, run1, run2, run3, run4, noSlot, memN, RO.dst, lk, drop, forget, number, Nat.reduceBEq, cond_true, cond_false, Option.bind_some, cut?, splice?, builds, List.length_cons, List.length_nil, List.drop_succ_cons, List.drop_zero, List.take_succ_cons, List.take_zero, List.cons_append, List.nil_append, List.append_nil, List.drop_nil, List.take_nil, Nat.reduceAdd, Nat.reduceLeDiff, Nat.zero_add, Nat.add_zero, ↓reduceIte, Bool.not_true, Bool.not_false, decide_true, decide_false, eq_self, bne_self_eq_false, List.getElem?_cons_zero, List.getElem?_cons_succ, decide_eq_true_eq, Bool.false_eq_true, Bool.true_eq_false, reduceCtorEq, Nat.le_refl, w.len, hlt]
    refine ⟨_, _, rfl, ?_⟩
    have : (pastAt xs t).map Past.enc = xs.flatMap fun p => (p.cutAt t).map Past.enc := by simp_all [pastAt, List.map_flatMap]
    rw [this]; exact a1
end
end Go.Proofs.Ytgogajbfiocdbaa.A
