/- The functions that the statement reaches, part 2: bodies and what they compute. No condition. -/
import Derived.Test.YtcdlbjomdokmiaaHCExactPlayMap1
import Derived.Test.YtcdlbjomdokmiaaZ6
import Derived.Test.YtcdlbjomdokmiaaB9
import Derived.Test.YtcdlbjomdokmiaaD
import Derived.Test.YtcdlbjomdokmiaaA1
/- Routes by a chart, and whether an id has moved. -/
namespace Go.Proofs.Ytcdlbjomdokmiaa.A
open Go
set_option linter.unusedSimpArgs false
set_option linter.unusedVariables false
def Chart.moved (c d : Chart) (id : Int) : Bool := c.good && (d.good && (c.of_ id).group != (d.of_ id).group)
section
variable {F : Nat → Option RF} {Z : CallF} {h : Heap} {cs cs' : List Cell} {c d : Chart} {fp fq : List Nat}
theorem isChart_q (hI11 : Has F tI11) (hI12 : Has F tI12) (hLi : Has F tLibslicesIndexFuncimplRangeimplRange) (v : Chart.RI h cs c fp) (ok : c.Ok) :
    ∃ h' g, call F Z 106 [.agg cs] ⟨h.next, h.next, h.get⟩ = some (.c (.bool c.good), h') ∧ Heap.mk h'.next h.floor h'.get = g ∧ On h g := by
  obtain ⟨h1, e1, o1⟩ := isChart_run (Z := Z) hI11 hI12 hLi (Chart.okI.up v h.next) ok
  exact quietly e1 o1
theorem RouteOf_run (hI11 : Has F tI11) (hI12 : Has F tI12) (hLi : Has F tLibslicesIndexFuncimplRangeimplRange) (v : Chart.RI h cs c fp) (ok : c.Ok) {id : Int} (g0 : 0 ≤ id) (g1 : id ≤ 18446744073709551615) :
    ∃ h', call F Z 70 [.agg cs, .c (.int .u64 id)] h = some (.tup [.c (.int .i64 (c.route id).1), .c (.int .i64 (c.route id).2)], h') ∧ On h h' := by
  obtain ⟨h1, e1, o1⟩ := isChart_run (Z := Z) hI11 hI12 hLi v ok
  obtain ⟨x, p, rfl, rfl, w⟩ := v
  rw [call_run F Z (hI12.lk (g := 70) rfl) _ _ rfl]
  cases hg : c.good with
  | false =>
    rw [hg] at e1
    simp only [run0, run1, run2, run3, run4, noSlot, ownS, ownK, memN, RO.dst, lk, drop, forget, number, Nat.reduceBEq, cut?, splice?, builds, List.length_cons, List.length_nil, List.drop_succ_cons, List.drop_zero, List.take_succ_cons, List.take_zero, List.cons_append, List.nil_append, List.append_nil, List.drop_nil, List.take_nil, Nat.reduceAdd, Nat.reduceLeDiff, Nat.zero_add, Nat.add_zero, ↓reduceIte, Bool.not_true, Bool.not_false, decide_true, decide_false, eq_self, bne_self_eq_false, List.getElem?_cons_zero, List.getElem?_cons_succ, decide_eq_true_eq, Bool.false_eq_true, Bool.true_eq_false, reduceCtorEq, Nat.le_refl, e1]
    exact ⟨_, by simp [Chart.route, hg], o1⟩
  | true =>
    rw [hg] at e1
    obtain ⟨i, hi, q1, _, q2, _, _⟩ := Chart.has (c := c) (Chart.good_ranges hg) g0 g1
    have w1 := w.on (Fl.ok _) o1
    obtain ⟨hq, g, fr, hgq, on2⟩ := findRange_q (Z := Z) hI11 hLi w1 id
    rw [q1] at fr
    have hld : ∀ j n, loadP g x.sid i j n = cut? (Range.at_ c.ranges i).enc j n := (w1.on (Fl.ok _) on2).loadD Range.none_ hi
    simp only [run0, run1, run2, run3, run4, noSlot, ownS, ownK, memN, RO.dst, lk, drop, forget, number, Nat.reduceBEq, cut?, splice?, builds, List.length_cons, List.length_nil, List.drop_succ_cons, List.drop_zero, List.take_succ_cons, List.take_zero, List.cons_append, List.nil_append, List.append_nil, List.drop_nil, List.take_nil, Nat.reduceAdd, Nat.reduceLeDiff, Nat.zero_add, Nat.add_zero, ↓reduceIte, Bool.not_true, Bool.not_false, decide_true, decide_false, eq_self, bne_self_eq_false, List.getElem?_cons_zero, List.getElem?_cons_succ, decide_eq_true_eq, Bool.false_eq_true, Bool.true_eq_false, reduceCtorEq, Nat.le_refl, e1, fr, hgq, hld, w.idx hi, Range.enc]
    exact ⟨_, by simp [Chart.route, hg, q2], o1.trans on2⟩
theorem sRouteOf_run (hS : Has F tS01d) (hS11 : Has F tS11) (hS12 : Has F tS12) (v : Chart.RI h cs c fp) (ok : c.Ok) {id : Int} (g0 : 0 ≤ id) (g1 : id ≤ 18446744073709551615) :
    ∃ h', call F Z 69 [.agg cs, .c (.int .u64 id)] h = some (.tup [.c (.int .i64 (c.route id).1), .c (.int .i64 (c.route id).2)], h') ∧ On h h' := by
  have e1 := sChartOk_run (Z := Z) hS hS11 hS12 v ok
  obtain ⟨x, p, rfl, rfl, w⟩ := v
  rw [call_run F Z (hS12.lk (g := 69) rfl) _ _ rfl]
  cases hg : c.good with
  | false =>
    rw [hg] at e1
    simp only [run0, run1, run2, run3, run4, noSlot, ownS, ownK, memN, RO.dst, lk, drop, forget, number, Nat.reduceBEq, cut?, splice?, builds, List.length_cons, List.length_nil, List.drop_succ_cons, List.drop_zero, List.take_succ_cons, List.take_zero, List.cons_append, List.nil_append, List.append_nil, List.drop_nil, List.take_nil, Nat.reduceAdd, Nat.reduceLeDiff, Nat.zero_add, Nat.add_zero, ↓reduceIte, Bool.not_true, Bool.not_false, decide_true, decide_false, eq_self, bne_self_eq_false, List.getElem?_cons_zero, List.getElem?_cons_succ, decide_eq_true_eq, Bool.false_eq_true, Bool.true_eq_false, reduceCtorEq, Nat.le_refl, e1]
    exact ⟨_, by simp [Chart.route, hg], On.refl h⟩
  | true =>
    rw [hg] at e1
    obtain ⟨i, hi, q1, q5, q2, _, _⟩ := Chart.has (c := c) (Chart.good_ranges hg) g0 g1
    obtain ⟨hq, g, fr, hgq, on2⟩ := quietly (sFindRange_run (Z := Z) hS hS11 (w.up (Fl.ok _) h.next) ok.ranges id) (On.refl _)
    rw [Chart.good_ranges hg, q5] at fr
    simp only [cond_true] at fr
    have hld : ∀ j n, loadP g x.sid i j n = cut? (Range.at_ c.ranges i).enc j n := (w.on (Fl.ok _) on2).loadD Range.none_ hi
    simp only [run0, run1, run2, run3, run4, noSlot, ownS, ownK, memN, RO.dst, lk, drop, forget, number, Nat.reduceBEq, cut?, splice?, builds, List.length_cons, List.length_nil, List.drop_succ_cons, List.drop_zero, List.take_succ_cons, List.take_zero, List.cons_append, List.nil_append, List.append_nil, List.drop_nil, List.take_nil, Nat.reduceAdd, Nat.reduceLeDiff, Nat.zero_add, Nat.add_zero, ↓reduceIte, Bool.not_true, Bool.not_false, decide_true, decide_false, eq_self, bne_self_eq_false, List.getElem?_cons_zero, List.getElem?_cons_succ, decide_eq_true_eq, Bool.false_eq_true, Bool.true_eq_false, reduceCtorEq, Nat.le_refl, e1, fr, hgq, hld, w.idx hi, Range.enc]
    exact ⟨_, by simp [Chart.route, hg, q2], on2⟩
theorem sMovedBetween_run (hS : Has F tS01d) (hS11 : Has F tS11) (hS12 : Has F tS12) (v : Chart.RI h cs c fp) (u : Chart.RI h cs' d fq) (ok : c.Ok) (ok' : d.Ok) {id : Int} (g0 : 0 ≤ id) (g1 : id ≤ 18446744073709551615) :
    ∃ h', call F Z 73 [.agg cs, .agg cs', .c (.int .u64 id)] h = some (.c (.bool (c.moved d id)), h') ∧ On h h' := by
  obtain ⟨h1, e1, o1⟩ := sRouteOf_run (Z := Z) hS hS11 hS12 v ok g0 g1
  obtain ⟨h2, e2, o2⟩ := sRouteOf_run (Z := Z) hS hS11 hS12 (Chart.okI.mono u o1.ext) ok' g0 g1
  have r1 : (0 ≤ (c.route id).1) ↔ c.good = true := by
    unfold Chart.route
    cases hg : c.good with
    | false => simp
    | true =>
      obtain ⟨i, hi, q1, _, q2, _, _⟩ := Chart.has (c := c) (Chart.good_ranges hg) g0 g1
      have := ((rangesOk_fit (Chart.good_ranges hg)).grp i hi).1
      simp only [cond_true, q2]
      simp [this]
  have r2 : (0 ≤ (d.route id).1) ↔ d.good = true := by
    unfold Chart.route
    cases hg : d.good with
    | false => simp
    | true =>
      obtain ⟨i, hi, q1, _, q2, _, _⟩ := Chart.has (c := d) (Chart.good_ranges hg) g0 g1
      have := ((rangesOk_fit (Chart.good_ranges hg)).grp i hi).1
      simp only [cond_true, q2]
      simp [this]
  obtain ⟨x, p, rfl, rfl, w⟩ := v
  obtain ⟨x', p', rfl, rfl, w'⟩ := u
  rw [call_run F Z (hS12.lk (g := 73) rfl) _ _ rfl]
  simp only [run0, run1, run2, run3, run4, noSlot, ownS, ownK, memN, RO.dst, lk, drop, forget, number, Nat.reduceBEq, cut?, splice?, builds, List.length_cons, List.length_nil, List.drop_succ_cons, List.drop_zero, List.take_succ_cons, List.take_zero, List.cons_append, List.nil_append, List.append_nil, List.drop_nil, List.take_nil, Nat.reduceAdd, Nat.reduceLeDiff, Nat.zero_add, Nat.add_zero, ↓reduceIte, Bool.not_true, Bool.not_false, decide_true, decide_false, eq_self, bne_self_eq_false, List.getElem?_cons_zero, List.getElem?_cons_succ, decide_eq_true_eq, Bool.false_eq_true, Bool.true_eq_false, reduceCtorEq, Nat.le_refl, e1, e2]
  refine ⟨h2, ?_, o1.trans o2⟩
  clear e1 e2 w w'
  (repeat' ((first | (rw [gF_if]; split) | (rw [condC_if]; split) | (rw [pickR_if]; split)) <;> (rename_i hh; (try simp only [Bool.not_eq_true, decide_eq_true_eq] at hh); simp only [hh, run0, run1, run2, run3, run4, noSlot, ownS, ownK, memN, RO.dst, lk, drop, forget, number, Nat.reduceBEq, cut?, splice?, builds, List.length_cons, List.length_nil, List.drop_succ_cons, List.drop_zero, List.take_succ_cons, List.take_zero, List.cons_append, List.nil_append, List.append_nil, List.drop_nil, List.take_nil, Nat.reduceAdd, Nat.reduceLeDiff, Nat.zero_add, Nat.add_zero, ↓reduceIte, Bool.not_true, Bool.not_false, decide_true, decide_false, eq_self, bne_self_eq_false, List.getElem?_cons_zero, List.getElem?_cons_succ, decide_eq_true_eq, Bool.false_eq_true, Bool.true_eq_false, reduceCtorEq, Nat.le_refl]))) <;> refine fin_bool ?_ <;> simp_all [Chart.moved, Chart.route]
end
end Go.Proofs.Ytcdlbjomdokmiaa.A
/- Rows of data with memory of their own: read, and filled one by one. -/
namespace Go.Proofs.Ytcdlbjomdokmiaa.A
open Go
set_option linter.unusedSimpArgs false
set_option linter.unusedVariables false
section
variable {α : Type} {R : Rel α} {tag : Nat} {h : Heap} {x : Cell} {xs : List α} {fp : List Nat}
/-- One row of a slice. -/
theorem SlR.one (w : SlR tag R h x xs fp) {i : Nat} (hi : i < xs.length) : ∃ r f, (∀ j n, loadP h x.sid i j n = cut? r j n) ∧ R h r xs[i] f ∧ ∀ id, id ∈ f → id ∈ fp := by
  obtain ⟨r, f, h1, h2, h3⟩ := w.row hi
  exact ⟨r, f, fun j n => by simp [loadP, h1], h2, h3⟩
/-- Rows of which the first are filled. -/
structure Filled (R : Rel α) (h0 g : Heap) (o : Nat) (z : List Cell) (xs : List α) (i : Nat) (rows : List (List Cell)) (fps : List (List Nat)) : Prop where
  on : On h0 g
  ge : h0.next ≤ o
  lt : o < g.next
  get : g.get o = some rows
  len : rows.length = xs.length
  rel : AllR R g (rows.take i) (xs.take i) fps
  rest : ∀ j, i ≤ j → j < xs.length → rows[j]? = some z
  nd : fps.flatten.Nodup
  out : ∀ id, id ∈ fps.flatten → o < id
theorem AllR.snoc {h : Heap} : ∀ {rows : List (List Cell)} {xs : List α} {fps : List (List Nat)}, AllR R h rows xs fps → ∀ {r a f}, R h r a f → AllR R h (rows ++ [r]) (xs ++ [a]) (fps ++ [f])
  | [], [], [], _ => fun w => ⟨w, trivial⟩
  | _ :: _, _ :: _, _ :: _, ⟨w1, w⟩ => fun w2 => ⟨w1, w.snoc w2⟩
  | [], [], _ :: _, w => w.elim
  | [], _ :: _, _, w => w.elim
  | _ :: _, [], _, w => w.elim
  | _ :: _, _ :: _, [], w => w.elim
theorem Filled.start (h : Heap) (z : List Cell) (xs : List α) : Filled R h (h.push (List.replicate xs.length z)) h.next z xs 0 (List.replicate xs.length z) [] where
  on := On.push _ _
  ge := Nat.le_refl _
  lt := by rw [push_next]; omega
  get := push_get _ _
  len := by simp
  rel := trivial
  rest := fun j _ hj => by rw [List.getElem?_replicate, if_pos hj]
  nd := List.nodup_nil
  out := fun id hid => by simp at hid
/-- One more row. -/
theorem Filled.step (ok : RelOk R) {h0 g g' : Heap} {o : Nat} {z : List Cell} {i : Nat} {rows : List (List Cell)} {fps : List (List Nat)} (w : Filled R h0 g o z xs i rows fps) (hf : h0.floor ≤ h0.next) (hi : i < xs.length)
    {cs : List Cell} {fq : List Nat} (hz : cs.length = z.length) (o' : On g g') (v : R g' cs xs[i] fq) (f : Fre g fq) :
    storeP g' o i 0 cs = some (g'.put o (rows.set i cs)) ∧ Filled R h0 (g'.put o (rows.set i cs)) o z xs (i + 1) (rows.set i cs) (fps ++ [fq]) := by
  have hget : g'.get o = some rows := by rw [o'.ext.2 o w.lt]; exact w.get
  have hri : rows[i]? = some z := w.rest i (Nat.le_refl _) hi
  have hfl : g'.floor ≤ o := by rw [o'.fl, w.on.fl]; exact Nat.le_trans hf w.ge
  have hlen : i < rows.length := by rw [w.len]; exact hi
  have hput : ∀ id, id ≠ o → (g'.put o (rows.set i cs)).get id = g'.get id := fun id hid => by simp only [Heap.put]; rw [if_neg hid]
  have hin : ∀ id, id ∈ fps.flatten → id < g.next := by
    intro id hid
    exact w.rel.lt ok id hid
  refine ⟨?_, ?_⟩
  · refine storeP_at hfl hget hri ?_
    rw [splice?, if_pos (by omega)]
    simp [← hz]
  · refine ⟨⟨⟨Nat.le_trans w.on.ext.1 o'.ext.1, fun id hid => ?_⟩, o'.fl.trans w.on.fl⟩, w.ge, Nat.lt_of_lt_of_le w.lt o'.ext.1, by simp [Heap.put], by simp [w.len], ?_, fun j h1 h2 => ?_, ?_, fun id hid => ?_⟩
    · have := w.ge
      rw [hput id (by omega), o'.ext.2 id (Nat.lt_of_lt_of_le hid w.on.ext.1)]
      exact w.on.ext.2 id hid
    · have e1 : (rows.set i cs).take (i + 1) = rows.take i ++ [cs] := by
        rw [List.take_add_one, List.getElem?_set_self hlen]
        rw [List.take_set, List.set_eq_of_length_le (by simp; omega)]
        rfl
      have e2 : xs.take (i + 1) = xs.take i ++ [xs[i]] := by rw [List.take_add_one, List.getElem?_eq_getElem hi]; rfl
      rw [e1, e2]
      have v' : R (g'.put o (rows.set i cs)) cs xs[i] fq := ok.mv v (Nat.le_refl _) fun id hid => hput id (by have := f.lo id hid; have := w.lt; omega)
      refine AllR.snoc (w.rel.mv (h' := g'.put o (rows.set i cs)) ok o'.ext.1 fun id hid => ?_) v'
      rw [hput id (by have := w.out id hid; omega)]
      exact o'.ext.2 id (hin id hid)
    · rw [List.getElem?_set_ne (by omega)]
      exact w.rest j (by omega) h2
    · rw [List.flatten_append]
      simp only [List.flatten_cons, List.flatten_nil, List.append_nil]
      exact List.nodup_append.2 ⟨w.nd, f.nd, fun a ha b hb => by have := hin a ha; have := f.lo b hb; omega⟩
    · rw [List.flatten_append] at hid
      simp only [List.flatten_cons, List.flatten_nil, List.append_nil] at hid
      rcases List.mem_append.1 hid with hid | hid
      · exact w.out id hid
      · have := f.lo id hid
        have := w.lt
        omega
theorem Filled.all {h0 g : Heap} {o : Nat} {z : List Cell} {rows : List (List Cell)} {fps : List (List Nat)} (w : Filled R h0 g o z xs xs.length rows fps) (hl : xs.length ≤ 1048576) (tag : Nat) :
    On h0 g ∧ SlR tag R g (.sl tag o 0 xs.length) xs (o :: fps.flatten) ∧ Fre h0 (o :: fps.flatten) := by
  have hr := w.rel
  rw [List.take_length, ← w.len, List.take_length] at hr
  refine ⟨w.on, ⟨by unfold maxLen; omega, .inr ⟨o, rows, fps, rfl, w.get, w.lt, rfl, hr⟩⟩, ⟨fun id hid => ?_, ?_⟩⟩
  · have := w.ge
    rcases List.mem_cons.1 hid with rfl | hid
    · omega
    · have := w.out id hid; omega
  · exact List.nodup_cons.2 ⟨fun hc => by have := w.out o hc; omega, w.nd⟩
end
end Go.Proofs.Ytcdlbjomdokmiaa.A
/- Loops behind which the heap goes on. -/
namespace Go.Proofs.Ytcdlbjomdokmiaa.A
open Go
set_option linter.unusedSimpArgs false
set_option linter.unusedVariables false
/-- One turn goes on with a heap that goes on, or returns. -/
def TurnO (r : Option (Ex × St)) (next : Heap → Option (Ex × St)) (g : Heap) (p : Bool) (Q : St → Prop) : Prop :=
  (p = true ∧ ∃ g', On g g' ∧ r = next g') ∨ (p = false ∧ ∃ s', r = some (.ret, s') ∧ On g s'.hp ∧ Q s')
section
variable {F : Nat → Option RF} {Z : CallF} {live : List Nat} {b : RC}
theorem loop_on (n : Nat) (st : Nat → Heap → St) (h : Heap) (P : Nat → Bool) (Q : St → Prop)
    (hs : ∀ i g, i < n → On h g → TurnO (loop F Z live b (st i g)) (fun g' => loop F Z live b (st (i + 1) g')) g (P i) Q) :
    TurnO (loop F Z live b (st 0 h)) (fun g' => loop F Z live b (st n g')) h ((List.range n).all P) Q := by
  induction n with
  | zero => exact .inl ⟨rfl, h, On.refl h, rfl⟩
  | succ n ih =>
    have hl : (List.range (n + 1)).all P = ((List.range n).all P && P n) := by rw [List.range_succ, List.all_append]; simp
    rcases ih fun i g hi => hs i g (by omega) with ⟨h1, g1, o1, e1⟩ | ⟨h1, s', e1, o1, q1⟩
    · rcases hs n g1 (by omega) o1 with ⟨h3, g2, o2, e2⟩ | ⟨h3, s', e2, o2, q2⟩
      · exact .inl ⟨by rw [hl, h1, h3]; rfl, g2, o1.trans o2, e1.trans e2⟩
      · exact .inr ⟨by rw [hl, h1, h3]; rfl, s', e1.trans e2, o1.trans o2, q2⟩
    · exact .inr ⟨by rw [hl, h1]; rfl, s', e1, o1, q1⟩
end
theorem On.mkup {h h' : Heap} (o : On ⟨h.next, h.next, h.get⟩ h') : On h ⟨h'.next, h.floor, h'.get⟩ := ⟨⟨o.ext.1, o.ext.2⟩, rfl⟩
end Go.Proofs.Ytcdlbjomdokmiaa.A
/- Slices of data with memory: built by appending, and with one row turned. -/
namespace Go.Proofs.Ytcdlbjomdokmiaa.A
open Go
set_option linter.unusedSimpArgs false
set_option linter.unusedVariables false
theorem push_ne {h : Heap} (r : List (List Cell)) {id : Nat} (hid : id ≠ h.next) : (h.push r).get id = h.get id := by simp only [Heap.push]; rw [if_neg hid]
theorem kill_ne {h : Heap} {k id : Nat} (hid : id ≠ k) : (h.kill k).get id = h.get id := by simp only [Heap.kill]; rw [if_neg hid]
theorem put_ne {h : Heap} {k id : Nat} (r : List (List Cell)) (hid : id ≠ k) : (h.put k r).get id = h.get id := by simp only [Heap.put]; rw [if_neg hid]
theorem kill_next (h : Heap) (k : Nat) : (h.kill k).next = h.next := rfl
/-- A cell shows data that was made behind h0. -/
structure AccM {α : Type} (R : Rel α) (tag : Nat) (h0 h : Heap) (x : Cell) (xs : List α) (fp : List Nat) : Prop where
  on : On h0 h
  sh : SlR tag R h x xs fp
  fr : Fre h0 fp
section
variable {α : Type} {R : Rel α} {tag : Nat} {h0 h g : Heap} {x : Cell} {xs : List α} {fp fq : List Nat}
theorem AccM.nil (R : Rel α) (tag : Nat) (h : Heap) : AccM R tag h h .nil [] [] := ⟨On.refl h, SlR.nil _ _ _, Fre.nil h⟩
theorem AccM.none (R : Rel α) (tag : Nat) (o : On h0 h) : AccM R tag h0 h .nil [] [] := ⟨o, SlR.nil _ _ _, Fre.nil h0⟩
theorem AccM.lit0 (R : Rel α) (tag : Nat) (o : On h0 h) : AccM R tag h0 (h.push []) (.sl tag h.next 0 0) [] [h.next] :=
  ⟨o.trans (On.push h []), ⟨by simp, .inr ⟨h.next, [], [], rfl, push_get _ _, by rw [push_next]; omega, rfl, trivial⟩⟩, Fre.at o.ext.1⟩
theorem AccM.go (a : AccM R tag h0 h x xs fp) (ok : RelOk R) (o : On h g) : AccM R tag h0 g x xs fp := ⟨a.on.trans o, a.sh.on ok o, a.fr⟩
theorem Fre.gt (f : Fre h0 fp) : ∀ id, id < h0.next → id ∉ fp := fun id h1 h2 => by have := f.lo id h2; omega
theorem Fre.sep {p q : List Nat} (f : Fre h0 p) (hp : ∀ id, id ∈ p → id < h.next) (g : Fre h q) : ∀ id, id ∈ q → id ∉ p := fun id h1 h2 => by
  have := hp id h2
  have := g.lo id h1
  omega
theorem flat_snoc {fps : List (List Nat)} {fq : List Nat} : (fps ++ [fq]).flatten = fps.flatten ++ fq := by simp
/-- One more element. -/
theorem AccM.one (ok : RelOk R) (a : AccM R tag h0 h x xs fp) (hf : h0.floor ≤ h0.next) {bytes : Nat} (hb : (xs.length + 1) * bytes ≤ 140737488355328) (hl : xs.length + 1 ≤ 140737488355328)
    (o : On h g) {cs : List Cell} {t : α} (v : R g cs t fq) (f : Fre h0 fq) (d : ∀ id, id ∈ fq → id ∉ fp) :
    ∃ y' g' fp', appF (g.push [cs]) tag bytes x (.sl tag g.next 0 1) = some (y', g') ∧ AccM R tag h0 g' y' (xs ++ [t]) fp' ∧ h.next ≤ g'.next ∧ (∀ id, id ∈ fp' → id ∈ fp ∨ id ∈ fq ∨ g.next ≤ id) ∧ (∀ id, id < g.next → id ∉ fp → g'.get id = g.get id) := by
  have on' := a.on.trans o
  have hlt : ∀ id, id ∈ fq → id < g.next := ok.lt v
  have hp1 : ∀ id, id < g.next → (g.push [cs]).get id = g.get id := fun id hid => by simp only [Heap.push]; rw [if_neg (by omega)]
  have hn := o.ext.1
  rcases a.sh with ⟨_, ⟨rfl, rfl, rfl⟩ | ⟨id, rows, fps, rfl, q1, q2, rfl, q3⟩⟩
  · refine ⟨.sl tag (g.next + 1) 0 1, (g.push [cs]).push [cs], (g.next + 1) :: ([fq] : List (List Nat)).flatten, ?_, ⟨on'.trans ((On.push _ _).trans (On.push _ _)), ⟨by simp [maxLen], .inr ⟨g.next + 1, [cs], [fq], rfl, ?_, ?_, rfl, ?_⟩⟩, ⟨?_, ?_⟩⟩, ?_, ?_, ?_⟩
    · simp only [List.length_nil, Nat.zero_add] at hb
      simp only [appF, isTag, beq_self_eq_true, ↓reduceIte, rowsOf, push_get, Option.bind_some, List.length_singleton, Nat.zero_add, Nat.le_refl, List.drop_zero, List.take_one, List.head?_cons, Option.toList_some]
      rw [if_neg (by omega), if_pos (by omega)]; rfl
    · exact push_get _ _
    · simp only [push_next]; omega
    · refine ⟨ok.mv v (by simp only [push_next]; omega) fun id hid => ?_, trivial⟩
      have := hlt id hid
      rw [push_ne _ (by rw [push_next]; omega), push_ne _ (by omega)]
    · intro id hid
      simp only [List.flatten_cons, List.flatten_nil, List.append_nil, List.mem_cons] at hid
      rcases hid with rfl | hid
      · have := on'.ext.1; omega
      · exact f.lo id hid
    · simp only [List.flatten_cons, List.flatten_nil, List.append_nil, List.nodup_cons]
      exact ⟨fun hc => by have := hlt _ hc; omega, f.nd⟩
    · simp only [push_next]; omega
    · intro id hid
      simp only [List.flatten_cons, List.flatten_nil, List.append_nil, List.mem_cons] at hid
      rcases hid with rfl | hid
      · exact .inr (.inr (by omega))
      · exact .inr (.inl hid)
    · intro id h1 _
      rw [push_ne _ (by rw [push_next]; omega), push_ne _ (by omega)]
  · have hlo : h0.next ≤ id := a.fr.lo id (by simp)
    have hnd := List.nodup_cons.1 a.fr.nd
    have hrl := q3.len
    have hg : (g.push [cs]).get id = some rows := by rw [hp1 id (by omega), o.ext.2 id q2, q1]
    have hfl : g.floor ≤ id := by rw [on'.fl]; omega
    have hin : ∀ j, j ∈ fps.flatten → j < h.next := q3.lt ok
    have hgt : ∀ j, j < g.next → j ≠ id → (((g.push [cs]).kill id).push (rows ++ [cs])).get j = g.get j := fun j h1 h2 => by
      rw [push_ne _ (by rw [kill_next, push_next]; omega), kill_ne h2, push_ne _ (by omega)]
    refine ⟨.sl tag (g.next + 1) 0 (xs.length + 1), ((g.push [cs]).kill id).push (rows ++ [cs]), (g.next + 1) :: (fps ++ [fq]).flatten, ?_, ⟨⟨⟨?_, ?_⟩, ?_⟩, ⟨by simp [maxLen]; omega, .inr ⟨g.next + 1, rows ++ [cs], fps ++ [fq], by simp, ?_, ?_, rfl, ?_⟩⟩, ⟨?_, ?_⟩⟩, ?_, ?_, ?_⟩
    · simp only [appF, isTag, beq_self_eq_true, ↓reduceIte, rowsOf, push_get, Option.bind_some, List.length_singleton, Nat.zero_add, Nat.le_refl, List.drop_zero, List.take_one, List.head?_cons, Option.toList_some, hg]
      simp only [hrl, push_floor, hfl, hb, and_self, ↓reduceIte]; rfl
    · have := on'.ext.1
      simp only [Heap.push, Heap.kill]; omega
    · intro j hj
      have := on'.ext.1
      rw [hgt j (by omega) (by omega)]
      exact on'.ext.2 j hj
    · exact on'.fl
    · simp [Heap.push, Heap.kill]
    · simp only [Heap.push, Heap.kill]; omega
    · refine AllR.snoc (q3.mv (h' := ((g.push [cs]).kill id).push (rows ++ [cs])) ok (by simp only [Heap.push, Heap.kill]; omega) fun j hj => ?_) (ok.mv v (by simp only [Heap.push, Heap.kill]; omega) fun j hj => ?_)
      · have h1 := hin j hj
        rw [hgt j (by omega) (fun e => hnd.1 (e ▸ hj))]
        exact o.ext.2 j h1
      · exact hgt j (hlt j hj) fun e => d j hj (by rw [e]; simp)
    · intro j hj
      rw [flat_snoc] at hj
      rcases List.mem_cons.1 hj with rfl | hj
      · have := on'.ext.1; omega
      · rcases List.mem_append.1 hj with hj | hj
        · exact a.fr.lo j (by simp [hj])
        · exact f.lo j hj
    · rw [flat_snoc, List.nodup_cons]
      refine ⟨fun hc => ?_, List.nodup_append.2 ⟨hnd.2, f.nd, fun p hp q hq e => d q hq (by rw [← e]; simp [hp])⟩⟩
      rcases List.mem_append.1 hc with hc | hc
      · have := hin _ hc; omega
      · have := hlt _ hc; omega
    · simp only [Heap.push, Heap.kill]; omega
    · intro j hj
      rw [flat_snoc] at hj
      rcases List.mem_cons.1 hj with rfl | hj
      · exact .inr (.inr (by omega))
      · rcases List.mem_append.1 hj with hj | hj
        · exact .inl (by simp [hj])
        · exact .inr (.inl hj)
    · intro j h1 h2
      exact hgt j h1 fun e => h2 (by rw [e]; simp)
end
end Go.Proofs.Ytcdlbjomdokmiaa.A
/- One row of data with memory is turned in place. -/
namespace Go.Proofs.Ytcdlbjomdokmiaa.A
open Go
set_option linter.unusedSimpArgs false
set_option linter.unusedVariables false
theorem flat_set_mem {fq : List Nat} {id : Nat} : ∀ (fps : List (List Nat)) (i : Nat), id ∈ (fps.set i fq).flatten → id ∈ fps.flatten ∨ id ∈ fq
  | [], i, h => by simp at h
  | f :: r, 0, h => by
    simp only [List.set_cons_zero, List.flatten_cons, List.mem_append] at h ⊢
    rcases h with h | h
    · exact .inr h
    · exact .inl (.inr h)
  | f :: r, i + 1, h => by
    simp only [List.set_cons_succ, List.flatten_cons, List.mem_append] at h ⊢
    rcases h with h | h
    · exact .inl (.inl h)
    · rcases flat_set_mem r i h with h | h
      · exact .inl (.inr h)
      · exact .inr h
theorem flat_set_nodup {fq : List Nat} (nq : fq.Nodup) : ∀ (fps : List (List Nat)) (i : Nat) (f : List Nat), fps[i]? = some f → fps.flatten.Nodup → (∀ id, id ∈ fq → id ∈ f ∨ id ∉ fps.flatten) → (fps.set i fq).flatten.Nodup
  | [], i, f, h, _, _ => by simp at h
  | g :: r, 0, f, h, nd, hd => by
    simp only [List.getElem?_cons_zero, Option.some.injEq] at h
    subst h
    simp only [List.set_cons_zero, List.flatten_cons] at nd ⊢
    obtain ⟨n1, n2, n3⟩ := List.nodup_append.1 nd
    refine List.nodup_append.2 ⟨nq, n2, fun a ha b hb e => ?_⟩
    subst e
    rcases hd a ha with h | h
    · exact n3 a h a hb rfl
    · exact h (by rw [List.flatten_cons, List.mem_append]; exact .inr hb)
  | g :: r, i + 1, f, h, nd, hd => by
    simp only [List.getElem?_cons_succ] at h
    simp only [List.set_cons_succ, List.flatten_cons] at nd ⊢
    obtain ⟨n1, n2, n3⟩ := List.nodup_append.1 nd
    refine List.nodup_append.2 ⟨n1, flat_set_nodup nq r i f h n2 fun id hid => ?_, fun a ha b hb e => ?_⟩
    · rcases hd id hid with h | h
      · exact .inl h
      · exact .inr fun hc => h (by rw [List.flatten_cons, List.mem_append]; exact .inr hc)
    · subst e
      rcases flat_set_mem r i hb with hb | hb
      · exact n3 a ha a hb rfl
      · rcases hd a hb with h' | h'
        · exact n3 a ha a (List.mem_flatten.2 ⟨f, List.mem_of_getElem? h, h'⟩) rfl
        · exact h' (by rw [List.flatten_cons, List.mem_append]; exact .inl ha)
section
variable {α : Type} {R : Rel α} {tag : Nat} {h0 h g : Heap} {x : Cell} {xs : List α} {fp fq : List Nat}
theorem AllR.set {r : List Cell} {t : α} (w1 : R h r t fq) : ∀ {rows : List (List Cell)} {xs : List α} {fps : List (List Nat)}, AllR R h rows xs fps → ∀ (i : Nat), AllR R h (rows.set i r) (xs.set i t) (fps.set i fq)
  | [], [], [], _, _ => trivial
  | _ :: _, _ :: _, _ :: _, ⟨_, w⟩, 0 => ⟨w1, w⟩
  | _ :: _, _ :: _, _ :: _, ⟨w0, w⟩, i + 1 => ⟨w0, AllR.set w1 w i⟩
  | [], [], _ :: _, w, _ => w.elim
  | [], _ :: _, _, w, _ => w.elim
  | _ :: _, [], _, w, _ => w.elim
  | _ :: _, _ :: _, [], w, _ => w.elim
/-- One row, and what a store into it leaves. -/
theorem SlR.setRow (ok : RelOk R) (w : SlR tag R h x xs fp) (nd : fp.Nodup) (hfl : ∀ id, id ∈ fp → h.floor ≤ id) {i : Nat} (hi : i < xs.length) :
    ∃ r f, ∃ rows : List (List Cell), R h r xs[i] f ∧ (∀ id, id ∈ f → id ∈ fp) ∧ f.Nodup ∧ x.sid ∈ fp ∧ x.sid ∉ f ∧ (∀ j n, loadP h x.sid i j n = cut? r j n) ∧ (∀ j new r', splice? r j new = some r' → storeP h x.sid i j new = some (h.put x.sid (rows.set i r'))) ∧
      ∀ r' t' fq, R h r' t' fq → fq.Nodup → (∀ id, id ∈ fq → id ∈ f ∨ id ∉ fp) → ∃ fp', SlR tag R (h.put x.sid (rows.set i r')) x (xs.set i t') fp' ∧ fp'.Nodup ∧ ∀ id, id ∈ fp' → id ∈ fp ∨ id ∈ fq := by
  rcases w with ⟨hl, ⟨rfl, rfl, rfl⟩ | ⟨id, rows, fps, rfl, q1, q2, rfl, q3⟩⟩
  · exact absurd hi (Nat.not_lt_zero _)
  obtain ⟨r, f, e1, e2, v⟩ := q3.at i hi
  have hn := List.nodup_cons.1 nd
  have hin : ∀ j, j ∈ f → j ∈ fps.flatten := fun j hj => List.mem_flatten.2 ⟨f, List.mem_of_getElem? e2, hj⟩
  have hfn : f.Nodup := by
    have : ∀ (fps : List (List Nat)) (i : Nat), fps[i]? = some f → fps.flatten.Nodup → f.Nodup := by
      intro fps
      induction fps with
      | nil => intro i h _; simp at h
      | cons g r ih =>
        intro i h nd
        rw [List.flatten_cons] at nd
        obtain ⟨n1, n2, _⟩ := List.nodup_append.1 nd
        cases i with
        | zero => simp only [List.getElem?_cons_zero, Option.some.injEq] at h; exact h ▸ n1
        | succ i => exact ih i (by simpa using h) n2
    exact this fps i e2 hn.2
  refine ⟨r, f, rows, v, fun j hj => List.mem_cons_of_mem _ (hin j hj), hfn, by simp [Cell.sid], fun hc => hn.1 (hin _ hc), fun j n => by simp [loadP, rowOf, Cell.sid, q1, e1], fun j new r' hs => ?_, fun r' t' fq v' nq hd => ?_⟩
  · exact storeP_at (hfl _ (by simp [Cell.sid])) q1 e1 hs
  · have hne : ∀ j, j ∈ fq → j ≠ id := fun j hj e => by
      rcases hd j hj with h1 | h1
      · exact hn.1 (e ▸ hin j h1)
      · exact h1 (by rw [e]; simp)
    refine ⟨id :: (fps.set i fq).flatten, ⟨by simpa using hl, .inr ⟨id, rows.set i r', fps.set i fq, by simp, by simp [Heap.put, Cell.sid], q2, rfl, ?_⟩⟩, ?_, ?_⟩
    · have v'' : R (h.put id (rows.set i r')) r' t' fq := ok.mv v' (Nat.le_refl _) fun j hj => put_ne _ (hne j hj)
      exact AllR.set v'' (q3.mv (h' := h.put id (rows.set i r')) ok (Nat.le_refl _) fun j hj => put_ne _ fun e => hn.1 (e ▸ hj)) i
    · rw [List.nodup_cons]
      refine ⟨fun hc => ?_, flat_set_nodup nq fps i f e2 hn.2 fun j hj => ?_⟩
      · rcases flat_set_mem _ _ hc with hc | hc
        · exact hn.1 hc
        · exact hne _ hc rfl
      · rcases hd j hj with h1 | h1
        · exact .inl h1
        · exact .inr fun hc => h1 (List.mem_cons_of_mem _ hc)
    · intro j hj
      rcases List.mem_cons.1 hj with rfl | hj
      · exact .inl (by simp)
      · rcases flat_set_mem _ _ hj with hj | hj
        · exact .inl (List.mem_cons_of_mem _ hj)
        · exact .inr hj
theorem AllR.turn (ok : RelOk R) {h' : Heap} (hn : h.next ≤ h'.next) {r' : List Cell} {t' : α} : ∀ {rows : List (List Cell)} {xs : List α} {fps : List (List Nat)}, AllR R h rows xs fps → ∀ (i : Nat) (f : List Nat), fps[i]? = some f → fps.flatten.Nodup →
    (∀ id, id ∈ fps.flatten → id ∉ f → h'.get id = h.get id) → R h' r' t' f → AllR R h' (rows.set i r') (xs.set i t') fps
  | [], [], [], _, i, f, e, _, _, _ => by simp at e
  | r :: rs, a :: bs, g :: gs, ⟨w0, w⟩, 0, f, e, nd, hg, v => by
    simp only [List.getElem?_cons_zero, Option.some.injEq] at e
    subst e
    rw [List.flatten_cons] at nd
    obtain ⟨n1, n2, n3⟩ := List.nodup_append.1 nd
    exact ⟨v, w.mv ok hn fun id hid => hg id (by rw [List.flatten_cons, List.mem_append]; exact .inr hid) fun hf => n3 id hf id hid rfl⟩
  | r :: rs, a :: bs, g :: gs, ⟨w0, w⟩, i + 1, f, e, nd, hg, v => by
    simp only [List.getElem?_cons_succ] at e
    rw [List.flatten_cons] at nd
    obtain ⟨n1, n2, n3⟩ := List.nodup_append.1 nd
    exact ⟨ok.mv w0 hn fun id hid => hg id (by rw [List.flatten_cons, List.mem_append]; exact .inl hid) fun hf => n3 id hid id (List.mem_flatten.2 ⟨f, List.mem_of_getElem? e, hf⟩) rfl,
      AllR.turn ok hn w i f e n2 (fun id hid hf => hg id (by rw [List.flatten_cons, List.mem_append]; exact .inr hid) hf) v⟩
  | [], [], _ :: _, w, _, _, _, _, _, _ => w.elim
  | [], _ :: _, _, w, _, _, _, _, _, _ => w.elim
  | _ :: _, [], _, w, _, _, _, _, _, _ => w.elim
  | _ :: _, _ :: _, [], w, _, _, _, _, _, _ => w.elim
theorem flat_at_nodup {f : List Nat} : ∀ (fps : List (List Nat)) (i : Nat), fps[i]? = some f → fps.flatten.Nodup → f.Nodup
  | [], i, h, _ => by simp at h
  | g :: r, i, h, nd => by
    rw [List.flatten_cons] at nd
    obtain ⟨n1, n2, _⟩ := List.nodup_append.1 nd
    cases i with
    | zero => simp only [List.getElem?_cons_zero, Option.some.injEq] at h; exact h ▸ n1
    | succ i => exact flat_at_nodup r i (by simpa using h) n2
/-- One element with its own memory is turned. -/
theorem SlR.turn (ok : RelOk R) (w : SlR tag R h x xs fp) (nd : fp.Nodup) {i : Nat} (hi : i < xs.length) :
    ∃ r f, ∃ rows : List (List Cell), R h r xs[i] f ∧ (∀ id, id ∈ f → id ∈ fp) ∧ f.Nodup ∧ x.sid ∈ fp ∧ x.sid ∉ f ∧ x.sid < h.next ∧ h.get x.sid = some rows ∧ rows[i]? = some r ∧ i < rows.length ∧
      ∀ h' r' t', h.next ≤ h'.next → (∀ id, id ∈ fp → id ≠ x.sid → id ∉ f → h'.get id = h.get id) → h'.get x.sid = some (rows.set i r') → R h' r' t' f → SlR tag R h' x (xs.set i t') fp := by
  rcases w with ⟨hl, ⟨rfl, rfl, rfl⟩ | ⟨id, rows, fps, rfl, q1, q2, rfl, q3⟩⟩
  · exact absurd hi (Nat.not_lt_zero _)
  obtain ⟨r, f, e1, e2, v⟩ := q3.at i hi
  have hn := List.nodup_cons.1 nd
  have hin : ∀ j, j ∈ f → j ∈ fps.flatten := fun j hj => List.mem_flatten.2 ⟨f, List.mem_of_getElem? e2, hj⟩
  refine ⟨r, f, rows, v, fun j hj => List.mem_cons_of_mem _ (hin j hj), flat_at_nodup fps i e2 hn.2, by simp [Cell.sid], fun hc => hn.1 (hin _ hc), q2, q1, e1, by rw [q3.len]; exact hi, fun h' r' t' hn' hg hg' v' => ?_⟩
  refine ⟨by simpa using hl, .inr ⟨id, rows.set i r', fps, by simp, hg', Nat.lt_of_lt_of_le q2 hn', rfl, ?_⟩⟩
  exact q3.turn ok hn' i f e2 hn.2 (fun j hj hf => hg j (List.mem_cons_of_mem _ hj) (fun e => hn.1 (by simp only [Cell.sid] at e; exact e ▸ hj)) hf) v'
theorem loadP_row {h : Heap} {id i : Nat} {rows : List (List Cell)} {r : List Cell} (hg : h.get id = some rows) (hi : rows[i]? = some r) (j n : Nat) : loadP h id i j n = cut? r j n := by simp [loadP, rowOf, hg, hi]
theorem loadP_put {h : Heap} {id i : Nat} {rows : List (List Cell)} (hi : i < rows.length) (r : List Cell) (j n : Nat) : loadP (h.put id (rows.set i r)) id i j n = cut? r j n := loadP_row (rows := rows.set i r) (by simp [Heap.put]) (List.getElem?_set_self hi) j n
theorem put_row {h : Heap} {id i : Nat} {rows : List (List Cell)} {r : List Cell} (hg : h.get id = some rows) (hi : rows[i]? = some r) : h.put id (rows.set i r) = h := by
  have : rows.set i r = rows := by
    apply List.ext_getElem?
    intro j
    by_cases e : i = j
    · subst e
      have hlt : i < rows.length := by
        rcases Nat.lt_or_ge i rows.length with hlt | hge
        · exact hlt
        · rw [List.getElem?_eq_none hge] at hi; cases hi
      rw [List.getElem?_set_self hlt, hi]
    · rw [List.getElem?_set_ne e]
  rw [this]; exact put_same hg
end
end Go.Proofs.Ytcdlbjomdokmiaa.A
/- Loops that look for one, behind which the heap goes on; rows that are shown twice. -/
namespace Go.Proofs.Ytcdlbjomdokmiaa.A
open Go
set_option linter.unusedSimpArgs false
set_option linter.unusedVariables false
section
variable {F : Nat → Option RF} {Z : CallF} {live : List Nat} {b : RC}
theorem loop_findO {α : Type} (xs : List α) (p : α → Bool) (st : Nat → Heap → St) (h : Heap) (Q : Nat → St → Prop)
    (hs : ∀ i (hi : i < xs.length) g, On h g → TurnO (loop F Z live b (st i g)) (fun g' => loop F Z live b (st (i + 1) g')) g (!p xs[i]) (Q i)) :
    (xs.findIdx? p = none ∧ ∃ g, On h g ∧ loop F Z live b (st 0 h) = loop F Z live b (st xs.length g)) ∨ ∃ i, xs.findIdx? p = some i ∧ i < xs.length ∧ ∃ s, loop F Z live b (st 0 h) = some (.ret, s) ∧ On h s.hp ∧ Q i s := by
  have key : ∀ n, n ≤ xs.length → ((∀ i (hi : i < xs.length), i < n → p xs[i] = false) ∧ ∃ g, On h g ∧ loop F Z live b (st 0 h) = loop F Z live b (st n g)) ∨ ∃ i, xs.findIdx? p = some i ∧ i < xs.length ∧ ∃ s, loop F Z live b (st 0 h) = some (.ret, s) ∧ On h s.hp ∧ Q i s := by
    intro n
    induction n with
    | zero => intro _; exact .inl ⟨fun i hi h => absurd h (Nat.not_lt_zero _), h, On.refl h, rfl⟩
    | succ n ih =>
      intro hn
      rcases ih (by omega) with ⟨h1, g, og, h2⟩ | h
      · rcases hs n (by omega) g og with ⟨h3, g', og', h4⟩ | ⟨h3, s, h4, os, h5⟩
        · refine .inl ⟨fun i hi hl => ?_, g', og.trans og', h2.trans h4⟩
          by_cases he : i = n
          · subst he; simpa using h3
          · exact h1 i hi (by omega)
        · refine .inr ⟨n, ?_, by omega, s, h2.trans h4, og.trans os, h5⟩
          rw [List.findIdx?_eq_some_iff_getElem]
          refine ⟨by omega, by simpa using h3, fun j hj => ?_⟩
          simpa using h1 j (by omega) (by omega)
      · exact .inr h
  rcases key xs.length (Nat.le_refl _) with ⟨h1, g, og, h2⟩ | h
  · refine .inl ⟨?_, g, og, h2⟩
    rw [List.findIdx?_eq_none_iff]
    intro a ha
    obtain ⟨i, hi, rfl⟩ := List.mem_iff_getElem.1 ha
    exact h1 i hi hi
  · exact .inr h
end
theorem findI_any {α : Type} (p : α → Bool) (xs : List α) : decide (findI p xs ≥ 0) = xs.any p := by
  unfold findI
  cases hf : xs.findIdx? p with
  | none =>
    rw [List.findIdx?_eq_none_iff] at hf
    have : xs.any p = false := by rw [List.any_eq_false]; intro a ha; simp [hf a ha]
    rw [this]; rfl
  | some i =>
    rw [List.findIdx?_eq_some_iff_getElem] at hf
    obtain ⟨h1, h2, _⟩ := hf
    have : xs.any p = true := List.any_eq_true.2 ⟨_, List.getElem_mem h1, h2⟩
    rw [this]; simp
section
variable {α : Type} {R : Rel α} {tag : Nat} {h0 h g : Heap} {x : Cell} {xs ys : List α} {fp fq : List Nat}
theorem SlR.rowsM (w : SlR tag R h x xs fp) : ∃ rows fps, rowsOf h x = some rows ∧ AllR R h rows xs fps := by
  rcases w with ⟨_, ⟨rfl, rfl, rfl⟩ | ⟨id, rows, fps, rfl, q1, q2, rfl, q3⟩⟩
  · exact ⟨[], [], rfl, trivial⟩
  · refine ⟨rows, fps, ?_, q3⟩
    have := q3.len
    simp only [rowsOf, q1, Option.bind_some, Nat.zero_add]
    rw [if_pos (by omega), List.drop_zero, List.take_of_length_le (by omega)]
theorem AllR.app : ∀ {r1 r2 : List (List Cell)} {xs ys : List α} {f1 f2 : List (List Nat)}, AllR R h r1 xs f1 → AllR R h r2 ys f2 → AllR R h (r1 ++ r2) (xs ++ ys) (f1 ++ f2)
  | [], _, [], _, [], _, _, w => w
  | _ :: _, _, _ :: _, _, _ :: _, _, ⟨w1, w⟩, u => ⟨w1, AllR.app w u⟩
  | [], _, [], _, _ :: _, _, w, _ => w.elim
  | [], _, _ :: _, _, _, _, w, _ => w.elim
  | _ :: _, _, [], _, _, _, w, _ => w.elim
  | _ :: _, _, _ :: _, _, [], _, w, _ => w.elim
/-- Raw rows that were laid together show what they show. -/
theorem Acc.shows (ok : RelOk R) {rows : List (List Cell)} {fps : List (List Nat)} (a : Acc tag h0 h x rows) (w : AllR R h0 rows xs fps) : ∃ fp, SlR tag R h x xs fp := by
  obtain ⟨o, fp, v, f⟩ := a
  have w' : AllR R h rows xs fps := w.mv ok o.ext.1 fun id hid => o.ext.2 id (w.lt ok id hid)
  have hl := w.len
  have hle := v.le
  rcases v.flat with ⟨rfl, h2, rfl⟩ | ⟨hx, hg, hn, rfl⟩
  · have : xs = [] := List.eq_nil_of_length_eq_zero (by rw [← hl, h2]; rfl)
    subst this
    exact ⟨_, SlR.nil _ _ _⟩
  · refine ⟨x.sid :: fps.flatten, by omega, .inr ⟨x.sid, rows, fps, by rw [← hl]; exact hx, by simpa using hg, hn, rfl, w'⟩⟩
end
end Go.Proofs.Ytcdlbjomdokmiaa.A
/- Stores into rows of data with memory. -/
namespace Go.Proofs.Ytcdlbjomdokmiaa.A
open Go
set_option linter.unusedSimpArgs false
set_option linter.unusedVariables false
section
variable {α : Type} {R : Rel α} {tag : Nat} {h0 h g : Heap} {x : Cell} {xs : List α} {fp fq : List Nat}
/-- Rows that were made behind h have turned: h goes on all the same. -/
theorem On.turned (o : On h0 h) (m : Mk h g fp) (f : Fre h0 fp) : On h0 g :=
  ⟨⟨by rw [m.next]; exact o.ext.1, fun id hid => by rw [m.get id (f.gt id hid)]; exact o.ext.2 id hid⟩, m.fl.trans o.fl⟩
theorem Fre.own (f : Fre h0 fp) (o : On h0 h) (hf : h0.floor ≤ h0.next) : ∀ id, id ∈ fp → h.floor ≤ id := fun id hid => by
  rw [o.fl]; exact Nat.le_trans hf (f.lo id hid)
theorem Mk.then {a b c : Heap} (m : Mk a b fp) (n : Mk b c fp) : Mk a c fp := ⟨n.next.trans m.next, n.fl.trans m.fl, fun id hid => (n.get id hid).trans (m.get id hid)⟩
/-- One row, and what stores into it leave. -/
theorem SlR.putRow (ok : RelOk R) (w : SlR tag R h x xs fp) (nd : fp.Nodup) (hfl : ∀ id, id ∈ fp → h.floor ≤ id) {i : Nat} (hi : i < xs.length) :
    ∃ r f, ∃ rows : List (List Cell), R h r xs[i] f ∧ x.sid ∈ fp ∧ (∀ j n, loadP h x.sid i j n = cut? r j n) ∧ h.put x.sid (rows.set i r) = h ∧
      (∀ r1 j new, storeP (h.put x.sid (rows.set i r1)) x.sid i j new = putM h x.sid rows i (splice? r1 j new)) ∧ (∀ r1 j n, loadP (h.put x.sid (rows.set i r1)) x.sid i j n = cut? r1 j n) ∧
      ∀ r' t', R h r' t' f → SlR tag R (h.put x.sid (rows.set i r')) x (xs.set i t') fp ∧ Mk h (h.put x.sid (rows.set i r')) fp := by
  obtain ⟨r, f, rows, hR, hin, nf, hs, hns, hsl, hg, hr, hir, fin⟩ := w.turn ok nd hi
  refine ⟨r, f, rows, hR, hs, loadP_row hg hr, put_row hg hr, fun r1 j new => storeP_put (hfl _ hs) hir r1 new j, fun r1 j n => loadP_put hir r1 j n, fun r' t' v => ⟨?_, rfl, rfl, fun id hid => put_ne _ fun e => hid (e ▸ hs)⟩⟩
  exact fin _ r' t' (Nat.le_refl _) (fun id _ h2 _ => put_ne _ h2) (by simp [Heap.put]) (ok.mv v (Nat.le_refl _) fun id hid => put_ne _ fun e => hns (e ▸ hid))
end
end Go.Proofs.Ytcdlbjomdokmiaa.A
/- Small laws of lists and of slices, used in many texts. -/
namespace Go.Proofs.Ytcdlbjomdokmiaa.A
open Go
set_option linter.unusedSimpArgs false
set_option linter.unusedVariables false
theorem findI_lt {α : Type} {p : α → Bool} {xs : List α} : -1 ≤ findI p xs ∧ findI p xs < xs.length := by
  unfold findI
  split
  · rename_i i hi
    rw [List.findIdx?_eq_some_iff_getElem] at hi
    obtain ⟨h, _⟩ := hi
    omega
  · omega
theorem findI_at {α : Type} {p : α → Bool} {xs : List α} (h : 0 ≤ findI p xs) : ∃ i : Nat, findI p xs = (i : Int) ∧ ∃ hi : i < xs.length, p xs[i] = true := by
  unfold findI at h ⊢
  split at h
  · rename_i i hi
    rw [List.findIdx?_eq_some_iff_getElem] at hi
    obtain ⟨h1, h2, _⟩ := hi
    exact ⟨i, rfl, h1, h2⟩
  · omega
theorem findI_no {α : Type} {p : α → Bool} {xs : List α} (h : findI p xs < 0) : findI p xs = -1 := by
  unfold findI at h ⊢
  split at h
  · omega
  · rfl
theorem mix_set {α : Type} (f : α → α) (xs : List α) {i : Nat} (hi : i < xs.length) : ((xs.take i).map f ++ xs.drop i).set i (f xs[i]) = (xs.take (i + 1)).map f ++ xs.drop (i + 1) := by
  rw [List.set_append_right _ _ (by simp; omega), show i - ((xs.take i).map f).length = 0 from by simp; omega, List.drop_eq_getElem_cons hi, List.set_cons_zero,
    show xs.take (i + 1) = xs.take i ++ [xs[i]] from by rw [List.take_add_one, List.getElem?_eq_getElem hi]; rfl, List.map_append, List.append_assoc]
  rfl
theorem mix_at {α : Type} (f : α → α) (xs : List α) {i : Nat} (hi : i < xs.length) (h : i < ((xs.take i).map f ++ xs.drop i).length) : ((xs.take i).map f ++ xs.drop i)[i] = xs[i] := by
  rw [List.getElem_append_right (by simp; omega)]
  simp
  congr 1
  omega
theorem set_same {α : Type} (xs : List α) {i : Nat} (hi : i < xs.length) : xs.set i xs[i] = xs := by
  apply List.ext_getElem?
  intro j
  by_cases e : i = j
  · subst e; rw [List.getElem?_set_self hi, List.getElem?_eq_getElem hi]
  · rw [List.getElem?_set_ne e]
theorem filter_next {α : Type} (p : α → Bool) {xs : List α} {i : Nat} (hi : i < xs.length) : (xs.take (i + 1)).filter p = (xs.take i).filter p ++ if p xs[i] then [xs[i]] else [] := by
  rw [List.take_add_one, List.getElem?_eq_getElem hi, List.filter_append]
  cases h : p xs[i] <;> simp [h]
theorem filter_len {α : Type} (p : α → Bool) (xs : List α) (i : Nat) : ((xs.take i).filter p).length ≤ xs.length := Nat.le_trans (List.length_filter_le _ _) (by rw [List.length_take]; omega)
section
variable {α : Type} {R : Rel α} {tag : Nat} {h0 h g : Heap} {x y : Cell} {xs ys : List α} {fp fq : List Nat}
/-- A slice of one. -/
theorem SlR.lit1 (ok : RelOk R) {cs : List Cell} {t : α} (v : R h cs t fp) (nd : fp.Nodup) : SlR tag R (h.push [cs]) (.sl tag h.next 0 1) [t] (h.next :: fp) ∧ (h.next :: fp).Nodup :=
  ⟨⟨by simp [maxLen], .inr ⟨h.next, [cs], [fp], rfl, by simp [Heap.push], by simp [Heap.push], by simp, ⟨ok.mv v (by simp [Heap.push]) fun id hid => push_ne _ (by have := ok.lt v id hid; omega), trivial⟩⟩⟩, List.nodup_cons.2 ⟨fun hc => by have := ok.lt v _ hc; omega, nd⟩⟩
end
end Go.Proofs.Ytcdlbjomdokmiaa.A
/- slices.Delete and slices.Insert on slices of data with memory. -/
namespace Go.Proofs.Ytcdlbjomdokmiaa.A
open Go
set_option linter.unusedSimpArgs false
set_option linter.unusedVariables false
section
variable {α : Type} {R : Rel α} {tag : Nat} {h0 h g : Heap} {x y : Cell} {xs ys : List α} {fp fq : List Nat}
theorem AllR.take : ∀ {rows : List (List Cell)} {xs : List α} {fps : List (List Nat)}, AllR R h rows xs fps → ∀ (i : Nat), AllR R h (rows.take i) (xs.take i) (fps.take i)
  | [], [], [], _, i => by simp only [List.take_nil]; trivial
  | _ :: _, _ :: _, _ :: _, _, 0 => trivial
  | _ :: _, _ :: _, _ :: _, ⟨w0, w⟩, i + 1 => ⟨w0, AllR.take w i⟩
  | [], [], _ :: _, w, _ => w.elim
  | [], _ :: _, _, w, _ => w.elim
  | _ :: _, [], _, w, _ => w.elim
  | _ :: _, _ :: _, [], w, _ => w.elim
theorem AllR.drop : ∀ {rows : List (List Cell)} {xs : List α} {fps : List (List Nat)}, AllR R h rows xs fps → ∀ (i : Nat), AllR R h (rows.drop i) (xs.drop i) (fps.drop i)
  | [], [], [], _, i => by simp only [List.drop_nil]; trivial
  | _ :: _, _ :: _, _ :: _, w, 0 => w
  | _ :: _, _ :: _, _ :: _, ⟨w0, w⟩, i + 1 => AllR.drop w i
  | [], [], _ :: _, w, _ => w.elim
  | [], _ :: _, _, w, _ => w.elim
  | _ :: _, [], _, w, _ => w.elim
  | _ :: _, _ :: _, [], w, _ => w.elim
theorem flat_parts {fps : List (List Nat)} (i : Nat) : (fps.take i).flatten ++ (fps.drop i).flatten = fps.flatten := by rw [← List.flatten_append, List.take_append_drop]
/-- A heap where rows of one's own have gone, and others come. -/
structure Re (h g : Heap) (fp fq : List Nat) : Prop where
  le : h.next ≤ g.next
  fl : g.floor = h.floor
  get : ∀ id, id < h.next → id ∉ fp → g.get id = h.get id
  nd : fq.Nodup
  of : ∀ id, id ∈ fq → id ∈ fp ∨ h.next ≤ id
theorem Re.on (r : Re h g fp fq) (o : On h0 h) (f : Fre h0 fp) : On h0 g :=
  ⟨⟨Nat.le_trans o.ext.1 r.le, fun id hid => by rw [r.get id (Nat.lt_of_lt_of_le hid o.ext.1) (f.gt id hid)]; exact o.ext.2 id hid⟩, r.fl.trans o.fl⟩
theorem Re.fre (r : Re h g fp fq) (o : On h0 h) (f : Fre h0 fp) : Fre h0 fq :=
  ⟨fun id hid => by rcases r.of id hid with h1 | h1; exact f.lo id h1; exact Nat.le_trans o.ext.1 h1, r.nd⟩
/-- One element is deleted. -/
theorem SlR.del (ok : RelOk R) (w : SlR tag R h x xs fp) (nd : fp.Nodup) (hfl : ∀ id, id ∈ fp → h.floor ≤ id) {i : Nat} (hi : i < xs.length) :
    ∃ y g fq, delF tag [.c x, .c (.int .i64 (i : Nat)), .c (.int .i64 ((i + 1 : Nat) : Int))] h = some (.c y, g) ∧ SlR tag R g y (xs.eraseIdx i) fq ∧ Re h g fp fq := by
  rcases w with ⟨hl, ⟨rfl, rfl, rfl⟩ | ⟨id, rows, fps, rfl, q1, q2, rfl, q3⟩⟩
  · exact absurd hi (Nat.not_lt_zero _)
  have hn := List.nodup_cons.1 nd
  have hrl := q3.len
  have hfid := hfl id (by simp)
  have hlen : (rows.take i ++ rows.drop (i + 1)).length = i + (xs.length - (i + 1)) := by simp only [List.length_append, List.length_take, List.length_drop, hrl]; omega
  have he : xs.eraseIdx i = xs.take i ++ xs.drop (i + 1) := List.eraseIdx_eq_take_drop_succ ..
  have hel : (xs.eraseIdx i).length = i + (xs.length - (i + 1)) := by rw [List.length_eraseIdx_of_lt hi]; omega
  have hflt := q3.lt ok
  have hsub : ∀ j, j ∈ (fps.take i ++ fps.drop (i + 1)).flatten → j ∈ fps.flatten := fun j hj => by
    rw [List.flatten_append, List.mem_append] at hj
    rw [← flat_parts (fps := fps) i, List.mem_append]
    rcases hj with hj | hj
    · exact .inl hj
    · right
      rw [List.mem_flatten] at hj ⊢
      obtain ⟨l, hl1, hl2⟩ := hj
      exact ⟨l, List.mem_of_mem_drop (i := 1) (by rw [List.drop_drop]; exact hl1), hl2⟩
  refine ⟨.sl tag h.next 0 (i + (xs.length - (i + 1))), (h.kill id).push (rows.take i ++ rows.drop (i + 1)), h.next :: (fps.take i ++ fps.drop (i + 1)).flatten, ?_, ?_, ?_⟩
  · simp only [delF, q1, Option.bind_some, Int.toNat_natCast]
    rw [if_pos ⟨trivial, trivial, hfid, by omega, by omega, by omega, hrl⟩]
  · refine ⟨by rw [hel]; omega, .inr ⟨h.next, rows.take i ++ rows.drop (i + 1), fps.take i ++ fps.drop (i + 1), by rw [hel], by simp [Heap.push, Heap.kill], by simp [Heap.push, Heap.kill], rfl, ?_⟩⟩
    rw [he]
    refine ((q3.take i).app (q3.drop (i + 1))).mv ok (by simp [Heap.push, Heap.kill]) fun j hj => ?_
    have hj' := hsub j hj
    have h1 := hflt j hj'
    rw [push_ne _ (by rw [kill_next]; omega), kill_ne (h := h) (k := id) (id := j) fun e => hn.1 (e ▸ hj')]
  · refine ⟨by simp [Heap.push, Heap.kill], rfl, fun j hj hjn => ?_, ?_, ?_⟩
    · rw [push_ne _ (by rw [kill_next]; omega), kill_ne (h := h) (k := id) (id := j) fun e => hjn (by rw [e]; exact List.mem_cons_self)]
    · rw [List.nodup_cons]
      refine ⟨fun hc => ?_, ?_⟩
      · have := hflt _ (hsub _ hc); omega
      · rw [List.flatten_append]
        have := hn.2
        rw [← flat_parts (fps := fps) i] at this
        obtain ⟨n1, n2, n3⟩ := List.nodup_append.1 this
        have hs2 : (fps.drop (i + 1)).flatten.Sublist (fps.drop i).flatten := by
          obtain ⟨_, f, _, e2, _⟩ := q3.at i hi
          rw [List.drop_eq_getElem_cons (List.getElem?_eq_some_iff.1 e2).1, List.flatten_cons]
          exact List.sublist_append_right _ _
        exact List.nodup_append.2 ⟨n1, n2.sublist hs2, fun a ha b hb => n3 a ha b (hs2.subset hb)⟩
    · intro j hj
      rcases List.mem_cons.1 hj with rfl | hj
      · exact .inr (Nat.le_refl _)
      · exact .inl (List.mem_cons_of_mem _ (hsub j hj))
/-- Some elements are put in. -/
theorem SlR.ins (ok : RelOk R) (w : SlR tag R h x xs fp) (nd : fp.Nodup) (hfl : ∀ id, id ∈ fp → h.floor ≤ id) (v : SlR tag R h y ys fq) (nq : fq.Nodup) (hfq : ∀ id, id ∈ fq → h.floor ≤ id) (hd : ∀ id, id ∈ fq → id ∉ fp) (hy : 0 < ys.length)
    {bytes : Nat} (hb : (xs.length + ys.length) * bytes ≤ 140737488355328) (hm : xs.length + ys.length ≤ maxLen) {i : Nat} (hi : i ≤ xs.length) :
    ∃ z g fr, insF tag bytes [.c x, .c (.int .i64 (i : Nat)), .c y] h = some (.c z, g) ∧ SlR tag R g z (xs.take i ++ ys ++ xs.drop i) fr ∧ Re h g (fp ++ fq) fr := by
  rcases v with ⟨hvl, ⟨rfl, rfl, rfl⟩ | ⟨idv, new, fps2, rfl, v1, v2, rfl, v3⟩⟩
  · exact absurd hy (Nat.not_lt_zero _)
  have hnv := List.nodup_cons.1 nq
  have hvrl := v3.len
  have hvlt := v3.lt ok
  have hfv := hfq idv (by simp)
  rcases w with ⟨hl, ⟨rfl, rfl, rfl⟩ | ⟨id, rows, fps, rfl, q1, q2, rfl, q3⟩⟩
  · have hi0 : i = 0 := by simpa using hi
    subst hi0
    simp only [List.length_nil, Nat.zero_add] at hb hm
    refine ⟨.sl tag h.next 0 ys.length, h.push new, h.next :: fps2.flatten, ?_, ?_, ?_⟩
    · simp only [insF]
      rw [if_pos ⟨trivial, trivial, hfv, hy⟩]
      simp only [v1, Option.bind_some]
      rw [if_pos hvrl, if_pos ⟨rfl, hb, hm⟩]
    · refine ⟨by simpa using hm, .inr ⟨h.next, new, fps2, by simp, by simp [Heap.push], by simp [Heap.push], rfl, ?_⟩⟩
      simp only [List.take_nil, List.drop_nil, List.nil_append, List.append_nil]
      exact v3.mv ok (by simp [Heap.push]) fun j hj => push_ne _ (by have := hvlt j hj; omega)
    · refine ⟨by simp [Heap.push], rfl, fun j hj _ => push_ne _ (by omega), List.nodup_cons.2 ⟨fun hc => by have := hvlt _ hc; omega, hnv.2⟩, fun j hj => ?_⟩
      rcases List.mem_cons.1 hj with rfl | hj
      · exact .inr (Nat.le_refl _)
      · exact .inl (by simp [hj])
  · have hn := List.nodup_cons.1 nd
    have hrl := q3.len
    have hflt := q3.lt ok
    have hfid := hfl id (by simp)
    have hne : id ≠ idv := fun e => hd idv (by simp) (by simp [e])
    refine ⟨.sl tag h.next 0 (xs.length + ys.length), (h.kill id).push (rows.take i ++ new ++ rows.drop i), h.next :: (fps.take i ++ fps2 ++ fps.drop i).flatten, ?_, ?_, ?_⟩
    · simp only [insF]
      rw [if_pos ⟨trivial, trivial, hfv, hy⟩]
      simp only [v1, Option.bind_some]
      rw [if_pos hvrl]
      simp only [q1, Option.bind_some, Int.toNat_natCast]
      rw [if_pos ⟨trivial, trivial, hfid, hne, by omega, by omega, hb, hm, hrl⟩]
    · have hlen : (xs.take i ++ ys ++ xs.drop i).length = xs.length + ys.length := by simp only [List.length_append, List.length_take, List.length_drop]; omega
      refine ⟨by rw [hlen]; exact hm, .inr ⟨h.next, rows.take i ++ new ++ rows.drop i, fps.take i ++ fps2 ++ fps.drop i, by rw [hlen], by simp [Heap.push, Heap.kill], by simp [Heap.push, Heap.kill], rfl, ?_⟩⟩
      refine (((q3.take i).app v3).app (q3.drop i)).mv ok (by simp [Heap.push, Heap.kill]) fun j hj => ?_
      have : j ∈ fps.flatten ∨ j ∈ fps2.flatten := by
        rw [List.flatten_append, List.flatten_append, List.mem_append, List.mem_append] at hj
        rw [← flat_parts (fps := fps) i, List.mem_append]
        rcases hj with (hj | hj) | hj
        · exact .inl (.inl hj)
        · exact .inr hj
        · exact .inl (.inr hj)
      rcases this with hj' | hj'
      · have h1 := hflt j hj'
        rw [push_ne _ (by rw [kill_next]; omega), kill_ne (h := h) (k := id) (id := j) fun e => hn.1 (e ▸ hj')]
      · have h1 := hvlt j hj'
        rw [push_ne _ (by rw [kill_next]; omega), kill_ne (h := h) (k := id) (id := j) fun e => hd j (by simp [hj']) (by rw [e]; simp)]
    · refine ⟨by simp [Heap.push, Heap.kill], rfl, fun j hj hjn => ?_, ?_, ?_⟩
      · rw [push_ne _ (by rw [kill_next]; omega), kill_ne (h := h) (k := id) (id := j) fun e => hjn (by rw [e]; simp)]
      · rw [List.nodup_cons]
        have hn2 := hn.2
        rw [← flat_parts (fps := fps) i] at hn2
        obtain ⟨n1, n2, n3⟩ := List.nodup_append.1 hn2
        have hd1 : ∀ a, a ∈ fps2.flatten → a ∉ fps.flatten := fun a ha hb => hd a (by simp [ha]) (by simp [hb])
        have hin1 : ∀ a, a ∈ (fps.take i).flatten → a ∈ fps.flatten := fun a ha => by rw [← flat_parts (fps := fps) i, List.mem_append]; exact .inl ha
        have hin2 : ∀ a, a ∈ (fps.drop i).flatten → a ∈ fps.flatten := fun a ha => by rw [← flat_parts (fps := fps) i, List.mem_append]; exact .inr ha
        rw [List.flatten_append, List.flatten_append]
        refine ⟨fun hc => ?_, ?_⟩
        · rw [List.mem_append, List.mem_append] at hc
          rcases hc with (hc | hc) | hc
          · have := hflt _ (hin1 _ hc); omega
          · have := hvlt _ hc; omega
          · have := hflt _ (hin2 _ hc); omega
        · refine List.nodup_append.2 ⟨List.nodup_append.2 ⟨n1, hnv.2, fun a ha b hb e => hd1 b hb (e ▸ hin1 a ha)⟩, n2, fun a ha b hb e => ?_⟩
          rcases List.mem_append.1 ha with ha | ha
          · exact n3 a ha b hb e
          · exact hd1 a ha (e ▸ hin2 b hb)
      · intro j hj
        rcases List.mem_cons.1 hj with rfl | hj
        · exact .inr (Nat.le_refl _)
        · left
          rw [List.flatten_append, List.flatten_append, List.mem_append, List.mem_append] at hj
          rw [List.mem_append]
          rcases hj with (hj | hj) | hj
          · exact .inl (List.mem_cons_of_mem _ (by rw [← flat_parts (fps := fps) i, List.mem_append]; exact .inl hj))
          · exact .inr (by simp [hj])
          · exact .inl (List.mem_cons_of_mem _ (by rw [← flat_parts (fps := fps) i, List.mem_append]; exact .inr hj))
end
end Go.Proofs.Ytcdlbjomdokmiaa.A
/- Ranges are split and merged, the program's way. -/
namespace Go.Proofs.Ytcdlbjomdokmiaa.A
open Go
set_option linter.unusedSimpArgs false
set_option linter.unusedVariables false
def cutRg (xs : List Range) (k : Nat) (a g : Int) : List Range := xs.take k ++ [⟨(Range.at_ xs k).lo, a - 1, (Range.at_ xs k).group⟩, ⟨a, (Range.at_ xs k).hi, g⟩] ++ xs.drop (k + 1)
def splitRg (xs : List Range) (a g : Int) : List Range × Bool := bif rangesOk xs && (inR g 0 99 && !((xs.length : Int) == 24)) then (bif (Range.at_ xs (findHi xs a).toNat).lo == a then ([], false) else (cutRg xs (findHi xs a).toNat a g, true)) else ([], false)
def joinRg (xs : List Range) (k : Nat) : List Range := (xs.set k ⟨(Range.at_ xs k).lo, (Range.at_ xs (k + 1)).hi, (Range.at_ xs k).group⟩).eraseIdx (k + 1)
def mergeRg (xs : List Range) (k : Int) : List Range × Bool := bif rangesOk xs && (decide (0 ≤ k) && (decide (k < (xs.length : Int) - 1) && ((Range.at_ xs k.toNat).group == (Range.at_ xs (k.toNat + 1)).group))) then (joinRg xs k.toNat, true) else ([], false)
section
variable {xs : List Range} {a g : Int}
theorem split_bad (h : (rangesOk xs && (inR g 0 99 && !((xs.length : Int) == 24))) = false) : splitRg xs a g = ([], false) := by simp [splitRg, h]
theorem split_at (h : (rangesOk xs && (inR g 0 99 && !((xs.length : Int) == 24))) = true) {k : Nat} (h2 : findHi xs a = (k : Int)) : splitRg xs a g = bif (Range.at_ xs k).lo == a then ([], false) else (cutRg xs k a g, true) := by simp [splitRg, h, h2]
theorem cutRg_set {k : Nat} (hk : k < xs.length) (r : Range) (b : Range) : (xs.set k r).take (k + 1) ++ [b] ++ (xs.set k r).drop (k + 1) = xs.take k ++ [r, b] ++ xs.drop (k + 1) := by
  have h1 : (xs.set k r).take (k + 1) = xs.take k ++ [r] := by
    rw [List.take_add_one, List.getElem?_set_self hk, List.take_set_of_le (Nat.le_refl _)]; rfl
  rw [h1, List.drop_set_of_lt (by omega)]
  simp
end
section
variable {F : Nat → Option RF} {Z : CallF} {h hp : Heap} {x : Cell} {xs : List Range} {fp : List Nat}
/-- append([]Range{}, list...) -/
theorem copyR (w : SlR 7 (Fl Range.enc) h x xs fp) (o : On h hp) (hf : h.floor ≤ h.next) (sm : xs.length ≤ 1048576) :
    ∃ y g fq, appF (hp.push []) 7 24 (.sl 7 hp.next 0 0) x = some (y, g) ∧ On h g ∧ SlR 7 (Fl Range.enc) g y xs fq ∧ Fre h fq := by
  have a0 := Acc.lit0 (tag := 7) o
  have w' := w.on (Fl.ok _) (o.trans (On.push hp []))
  have ce := a0.cat_eq (bytes := 24) (y := x) (new := xs.map Range.enc) hf w'.isTag w'.rows (by simp; omega)
  have ac := a0.cat (new := xs.map Range.enc) hf (by simp; omega)
  simp only [List.nil_append] at ac
  obtain ⟨o2, fq, u, f⟩ := ac.flat
  exact ⟨_, _, fq, ce, o2, u, f⟩
set_option maxHeartbeats 2000000 in
theorem splitRange_c (hI11 : Has F tI11) (hL : Has F tLibslicesIndexFuncimplRangeimplRange) (pr : PrimAt F Z 269 (insF 7 24)) (hf : h.floor ≤ h.next) (w : SlR 7 (Fl Range.enc) h x xs fp) (a g : Int) (ha : 0 ≤ a ∧ a ≤ 18446744073709551615) (hok : ∀ t, t ∈ xs → t.Ok) (sm : xs.length ≤ 1048576) :
    ∃ y h' fq, call F Z 255 [.c x, .c (.int .u64 a), .c (.int .i64 g)] h = some (.tup [.c y, .c (.bool (splitRg xs a g).2)], h') ∧ On h h' ∧ SlR 7 (Fl Range.enc) h' y (splitRg xs a g).1 fq ∧ Fre h fq := by
  have e1 := areRanges_run (Z := Z) hI11 w hok
  have e2 := fun h => isGroupId_run (Z := Z) hI11 g h
  have e3 := findRange_run (Z := Z) hI11 hL w a
  have hwl := w.len
  rw [call_run F Z (hI11.lk (g := 255) rfl) _ _ rfl]
  cases hr : rangesOk xs with
  | false =>
    rw [hr] at e1
    rw [split_bad (by simp [hr])]
    simp only [run0, run1, run2, run3, run4, noSlot, ownS, ownK, memN, RO.dst, lk, drop, forget, number, Nat.reduceBEq, cut?, splice?, builds, List.length_cons, List.length_nil, List.drop_succ_cons, List.drop_zero, List.take_succ_cons, List.take_zero, List.cons_append, List.nil_append, List.append_nil, List.drop_nil, List.take_nil, Nat.reduceAdd, Nat.reduceLeDiff, Nat.zero_add, Nat.add_zero, ↓reduceIte, Bool.not_true, Bool.not_false, decide_true, decide_false, eq_self, bne_self_eq_false, List.getElem?_cons_zero, List.getElem?_cons_succ, decide_eq_true_eq, Bool.false_eq_true, Bool.true_eq_false, reduceCtorEq, Nat.le_refl, e1]
    exact ⟨_, _, _, rfl, On.refl h, SlR.nil _ _ _, Fre.nil h⟩
  | true =>
    rw [hr] at e1
    cases hg : inR g 0 99 with
    | false =>
      rw [hg] at e2
      rw [split_bad (by simp [hg])]
      simp only [run0, run1, run2, run3, run4, noSlot, ownS, ownK, memN, RO.dst, lk, drop, forget, number, Nat.reduceBEq, cut?, splice?, builds, List.length_cons, List.length_nil, List.drop_succ_cons, List.drop_zero, List.take_succ_cons, List.take_zero, List.cons_append, List.nil_append, List.append_nil, List.drop_nil, List.take_nil, Nat.reduceAdd, Nat.reduceLeDiff, Nat.zero_add, Nat.add_zero, ↓reduceIte, Bool.not_true, Bool.not_false, decide_true, decide_false, eq_self, bne_self_eq_false, List.getElem?_cons_zero, List.getElem?_cons_succ, decide_eq_true_eq, Bool.false_eq_true, Bool.true_eq_false, reduceCtorEq, Nat.le_refl, e1, e2]
      exact ⟨_, _, _, rfl, On.refl h, SlR.nil _ _ _, Fre.nil h⟩
    | true =>
      rw [hg] at e2
      cases hl : ((xs.length : Int) == 24) with
      | true =>
        rw [split_bad (by simp [hl])]
        simp only [run0, run1, run2, run3, run4, noSlot, ownS, ownK, memN, RO.dst, lk, drop, forget, number, Nat.reduceBEq, cut?, splice?, builds, List.length_cons, List.length_nil, List.drop_succ_cons, List.drop_zero, List.take_succ_cons, List.take_zero, List.cons_append, List.nil_append, List.append_nil, List.drop_nil, List.take_nil, Nat.reduceAdd, Nat.reduceLeDiff, Nat.zero_add, Nat.add_zero, ↓reduceIte, Bool.not_true, Bool.not_false, decide_true, decide_false, eq_self, bne_self_eq_false, List.getElem?_cons_zero, List.getElem?_cons_succ, decide_eq_true_eq, Bool.false_eq_true, Bool.true_eq_false, reduceCtorEq, Nat.le_refl, e1, e2, hwl, hl]
        exact ⟨_, _, _, rfl, On.refl h, SlR.nil _ _ _, Fre.nil h⟩
      | false =>
        have hfit := rangesOk_fit hr
        obtain ⟨k, hk, q1, q2, q3, q4⟩ := hfit.has ha.1 ha.2
        rw [split_at (by simp [hr, hg, hl]) q1]
        rw [q1] at e3
        have o1 := On.push h [[.int .u64 a]]
        have w1 := w.on (Fl.ok _) o1
        have hxi := w.idx hk
        have hld := w1.load hk
        rw [← at_get hk] at hld
        simp only [Range.enc] at hld
        by_cases c1 : (Range.at_ xs k).lo = a
        · have c1' : ((Range.at_ xs k).lo == a) = true := by simpa using c1
          rw [c1']
          simp only [cond_true]
          simp only [run0, run1, run2, run3, run4, noSlot, ownS, ownK, memN, RO.dst, lk, drop, forget, number, Nat.reduceBEq, cut?, splice?, builds, List.length_cons, List.length_nil, List.drop_succ_cons, List.drop_zero, List.take_succ_cons, List.take_zero, List.cons_append, List.nil_append, List.append_nil, List.drop_nil, List.take_nil, Nat.reduceAdd, Nat.reduceLeDiff, Nat.zero_add, Nat.add_zero, ↓reduceIte, Bool.not_true, Bool.not_false, decide_true, decide_false, eq_self, bne_self_eq_false, List.getElem?_cons_zero, List.getElem?_cons_succ, decide_eq_true_eq, Bool.false_eq_true, Bool.true_eq_false, reduceCtorEq, Nat.le_refl, e1, e2, e3, hwl, hl, hxi, hld, c1']
          exact ⟨_, _, _, rfl, o1, SlR.nil _ _ _, Fre.nil h⟩
        · have c1' : ((Range.at_ xs k).lo == a) = false := by simpa using c1
          rw [c1']
          simp only [cond_false]
          have hlo := (hok _ (List.getElem_mem hk)).lo
          rw [← at_get hk] at hlo
          have hwa : IntKind.u64.wrap (a - 1) = a - 1 := wrapU _ (by omega) (by omega)
          obtain ⟨y, g2, fq, e4, o2, u, f2⟩ := copyR w o1 hf sm
          have hyi := u.idx hk
          have hle := w.le2
          have hws := wrapS k (by omega)
          obtain ⟨r, f, rows, hR, hs, hld2, hself, hst, hl2, fin⟩ := u.putRow (Fl.ok _) f2.nd (f2.own o2 hf) hk
          obtain ⟨rfl, rfl⟩ := hR
          have hst1 := hst xs[k].enc 1 [.int .u64 (a - 1)]
          rw [hself] at hst1
          obtain ⟨u2, m2⟩ := fin (⟨(Range.at_ xs k).lo, a - 1, (Range.at_ xs k).group⟩ : Range).enc ⟨(Range.at_ xs k).lo, a - 1, (Range.at_ xs k).group⟩ ⟨rfl, rfl⟩
          rw [← at_get hk] at hst1
          simp only [Range.enc] at hst1 u2 m2
          have hst2 : storeP g2 y.sid k 1 [.int .u64 (a - 1)] = some (g2.put y.sid (rows.set k [.int .u64 (Range.at_ xs k).lo, .int .u64 (a - 1), .int .i64 (Range.at_ xs k).group])) := by rw [hst1]; simp [splice?, putM_s]
          generalize hg3 : g2.put y.sid (rows.set k [.int .u64 (Range.at_ xs k).lo, .int .u64 (a - 1), .int .i64 (Range.at_ xs k).group]) = g3 at *
          have o3 := o2.turned m2 f2
          obtain ⟨L, ndL⟩ := SlR.lit1 (tag := 7) (Fl.ok Range.enc) (h := g3) (cs := (⟨a, (Range.at_ xs k).hi, g⟩ : Range).enc) (t := ⟨a, (Range.at_ xs k).hi, g⟩) (fp := []) ⟨rfl, rfl⟩ List.nodup_nil
          have o4 := On.push g3 [(⟨a, (Range.at_ xs k).hi, g⟩ : Range).enc]
          have u4 := SlR.on u2 (Fl.ok _) o4
          have hlt : ∀ j, j ∈ fq → j < g3.next := u2.lt (Fl.ok _)
          have o34 := o3.trans o4
          have hl24 : xs.length ≤ 24 := by
            simp only [rangesOk, inR, Bool.and_eq_true, decide_eq_true_eq] at hr; omega
          obtain ⟨z, g5, fr, e5, w5, re⟩ := u4.ins (Fl.ok _) f2.nd (f2.own o34 hf) L ndL (fun j hj => by simp only [List.mem_singleton] at hj; subst hj; rw [o4.fl]; exact o3.le hf) (fun j h2 h3 => by simp only [List.mem_singleton] at h2; have := hlt j h3; omega) (by simp) (bytes := 24) (by simp; omega) (by simp [maxLen]; omega) (i := k + 1) (by simp; omega)
          have fA : Fre h (fq ++ [g3.next]) := ⟨fun j hj => by
            rcases List.mem_append.1 hj with h2 | h2
            · exact f2.lo j h2
            · simp only [List.mem_singleton] at h2; subst h2; exact o3.ext.1, List.nodup_append.2 ⟨f2.nd, by simp, fun p hp q hq e => by simp only [List.mem_singleton] at hq; have := hlt p hp; omega⟩⟩
          rw [cutRg_set hk] at w5
          simp only [Range.enc] at e5
          simp only [run0, run1, run2, run3, run4, noSlot, ownS, ownK, memN, RO.dst, lk, drop, forget, number, Nat.reduceBEq, cut?, splice?, builds, List.length_cons, List.length_nil, List.drop_succ_cons, List.drop_zero, List.take_succ_cons, List.take_zero, List.cons_append, List.nil_append, List.append_nil, List.drop_nil, List.take_nil, Nat.reduceAdd, Nat.reduceLeDiff, Nat.zero_add, Nat.add_zero, ↓reduceIte, Bool.not_true, Bool.not_false, decide_true, decide_false, eq_self, bne_self_eq_false, List.getElem?_cons_zero, List.getElem?_cons_succ, decide_eq_true_eq, Bool.false_eq_true, Bool.true_eq_false, reduceCtorEq, Nat.le_refl, e1, e2, e3, hwl, hl, hxi, hld, c1', List.replicate_succ, List.replicate_zero, fills, and_self, Nat.zero_lt_one, List.set_cons_zero, e4, hyi, hwa, hst2, hws, pr _ _, e5]
          exact ⟨_, _, _, rfl, re.on o34 fA, w5, re.fre o34 fA⟩
end
end Go.Proofs.Ytcdlbjomdokmiaa.A
/- Neighbours of one group are merged, the program's way. -/
namespace Go.Proofs.Ytcdlbjomdokmiaa.A
open Go
set_option linter.unusedSimpArgs false
set_option linter.unusedVariables false
section
variable {xs : List Range} {k : Int}
theorem merge_bad (h : (rangesOk xs && (decide (0 ≤ k) && (decide (k < (xs.length : Int) - 1) && ((Range.at_ xs k.toNat).group == (Range.at_ xs (k.toNat + 1)).group)))) = false) : mergeRg xs k = ([], false) := by simp [mergeRg, h]
theorem merge_yes (h0 : rangesOk xs = true) {i : Nat} (h2 : k = (i : Int)) (h3 : k < (xs.length : Int) - 1) (h4 : (Range.at_ xs i).group = (Range.at_ xs (i + 1)).group) : mergeRg xs k = (joinRg xs i, true) := by subst h2; simp [mergeRg, h0, h3, h4]
end
section
variable {F : Nat → Option RF} {Z : CallF} {h hp : Heap} {x : Cell} {xs : List Range} {fp : List Nat}
set_option maxHeartbeats 2000000 in
theorem mergeRange_c (hI11 : Has F tI11) (pr : PrimAt F Z 270 (delF 7)) (hf : h.floor ≤ h.next) (w : SlR 7 (Fl Range.enc) h x xs fp) (k : Int) (hok : ∀ t, t ∈ xs → t.Ok) (sm : xs.length ≤ 1048576) :
    ∃ y h' fq, call F Z 256 [.c x, .c (.int .i64 k)] h = some (.tup [.c y, .c (.bool (mergeRg xs k).2)], h') ∧ On h h' ∧ SlR 7 (Fl Range.enc) h' y (mergeRg xs k).1 fq ∧ Fre h fq := by
  have e1 := areRanges_run (Z := Z) hI11 (w.up (Fl.ok _) h.next) hok
  have hwl := w.len
  rw [call_run F Z (hI11.lk (g := 256) rfl) _ _ rfl]
  cases hr : rangesOk xs with
  | false =>
    rw [hr] at e1
    rw [merge_bad (by simp [hr])]
    simp only [run0, run1, run2, run3, run4, noSlot, ownS, ownK, memN, RO.dst, lk, drop, forget, number, Nat.reduceBEq, cut?, splice?, builds, List.length_cons, List.length_nil, List.drop_succ_cons, List.drop_zero, List.take_succ_cons, List.take_zero, List.cons_append, List.nil_append, List.append_nil, List.drop_nil, List.take_nil, Nat.reduceAdd, Nat.reduceLeDiff, Nat.zero_add, Nat.add_zero, ↓reduceIte, Bool.not_true, Bool.not_false, decide_true, decide_false, eq_self, bne_self_eq_false, List.getElem?_cons_zero, List.getElem?_cons_succ, decide_eq_true_eq, Bool.false_eq_true, Bool.true_eq_false, reduceCtorEq, Nat.le_refl, e1]
    exact ⟨_, _, _, rfl, On.refl h, SlR.nil _ _ _, Fre.nil h⟩
  | true =>
    rw [hr] at e1
    have hle := w.le2
    have hl1 : 1 ≤ xs.length := (rangesOk_fit hr).pos
    have hwn : IntKind.i64.wrap ((xs.length : Int) - 1) = (xs.length : Int) - 1 := wrapI _ (by omega) (by omega)
    by_cases c1 : k < 0
    · have c1' : ¬ 0 ≤ k := by omega
      rw [merge_bad (by simp [c1'])]
      simp only [run0, run1, run2, run3, run4, noSlot, ownS, ownK, memN, RO.dst, lk, drop, forget, number, Nat.reduceBEq, cut?, splice?, builds, List.length_cons, List.length_nil, List.drop_succ_cons, List.drop_zero, List.take_succ_cons, List.take_zero, List.cons_append, List.nil_append, List.append_nil, List.drop_nil, List.take_nil, Nat.reduceAdd, Nat.reduceLeDiff, Nat.zero_add, Nat.add_zero, ↓reduceIte, Bool.not_true, Bool.not_false, decide_true, decide_false, eq_self, bne_self_eq_false, List.getElem?_cons_zero, List.getElem?_cons_succ, decide_eq_true_eq, Bool.false_eq_true, Bool.true_eq_false, reduceCtorEq, Nat.le_refl, e1, c1]
      exact ⟨_, _, _, rfl, On.refl h, SlR.nil _ _ _, Fre.nil h⟩
    by_cases c2 : k ≥ (xs.length : Int) - 1
    · have c2' : ¬ k < (xs.length : Int) - 1 := by omega
      rw [merge_bad (by simp [c2'])]
      simp only [run0, run1, run2, run3, run4, noSlot, ownS, ownK, memN, RO.dst, lk, drop, forget, number, Nat.reduceBEq, cut?, splice?, builds, List.length_cons, List.length_nil, List.drop_succ_cons, List.drop_zero, List.take_succ_cons, List.take_zero, List.cons_append, List.nil_append, List.append_nil, List.drop_nil, List.take_nil, Nat.reduceAdd, Nat.reduceLeDiff, Nat.zero_add, Nat.add_zero, ↓reduceIte, Bool.not_true, Bool.not_false, decide_true, decide_false, eq_self, bne_self_eq_false, List.getElem?_cons_zero, List.getElem?_cons_succ, decide_eq_true_eq, Bool.false_eq_true, Bool.true_eq_false, reduceCtorEq, Nat.le_refl, e1, c1, hwl, hwn, c2]
      exact ⟨_, _, _, rfl, On.refl h, SlR.nil _ _ _, Fre.nil h⟩
    obtain ⟨i, hi⟩ : ∃ i : Nat, k = (i : Int) := ⟨k.toNat, by omega⟩
    have hk : i < xs.length := by omega
    have hk1 : i + 1 < xs.length := by omega
    have hxi := w.idx hk
    have hxj := w.idx hk1
    have hli := w.load hk
    have hlj := w.load hk1
    rw [← at_get hk] at hli
    rw [← at_get hk1] at hlj
    simp only [Range.enc] at hli hlj
    have hw1 : IntKind.i64.wrap (k + 1) = ((i + 1 : Nat) : Int) := by rw [hi]; exact wrapS i (by omega)
    have hw2 : IntKind.i64.wrap (k + 2) = ((i + 1 + 1 : Nat) : Int) := by rw [wrapI _ (by omega) (by omega)]; omega
    by_cases c3 : (Range.at_ xs i).group = (Range.at_ xs (i + 1)).group
    case neg =>
      have c3n : ((Range.at_ xs i).group != (Range.at_ xs (i + 1)).group) = true := by simpa using c3
      have c3' : ((Range.at_ xs i).group == (Range.at_ xs (i + 1)).group) = false := by simpa using c3
      rw [merge_bad (by rw [hi]; simp [c3'])]
      subst hi
      simp only [run0, run1, run2, run3, run4, noSlot, ownS, ownK, memN, RO.dst, lk, drop, forget, number, Nat.reduceBEq, cut?, splice?, builds, List.length_cons, List.length_nil, List.drop_succ_cons, List.drop_zero, List.take_succ_cons, List.take_zero, List.cons_append, List.nil_append, List.append_nil, List.drop_nil, List.take_nil, Nat.reduceAdd, Nat.reduceLeDiff, Nat.zero_add, Nat.add_zero, ↓reduceIte, Bool.not_true, Bool.not_false, decide_true, decide_false, eq_self, bne_self_eq_false, List.getElem?_cons_zero, List.getElem?_cons_succ, decide_eq_true_eq, Bool.false_eq_true, Bool.true_eq_false, reduceCtorEq, Nat.le_refl, e1, c1, hwl, hwn, c2, hxi, hw1, hxj, hli, hlj, c3n]
      exact ⟨_, _, _, rfl, On.refl h, SlR.nil _ _ _, Fre.nil h⟩
    have c3n : ((Range.at_ xs i).group != (Range.at_ xs (i + 1)).group) = false := by simpa using c3
    rw [merge_yes hr hi (by omega) c3]
    obtain ⟨y, g2, fq, e4, o2, u, f2⟩ := copyR w (On.refl h) hf sm
    have w2 := w.on (Fl.ok _) o2
    have hlj2 := w2.load hk1
    rw [← at_get hk1] at hlj2
    simp only [Range.enc] at hlj2
    have hyi := u.idx hk
    obtain ⟨r, f, rows, hR, hs, hld2, hself, hst, hl2, fin⟩ := u.putRow (Fl.ok _) f2.nd (f2.own o2 hf) hk
    obtain ⟨rfl, rfl⟩ := hR
    have hst1 := hst xs[i].enc 1 [.int .u64 (Range.at_ xs (i + 1)).hi]
    rw [hself] at hst1
    obtain ⟨u2, m2⟩ := fin (⟨(Range.at_ xs i).lo, (Range.at_ xs (i + 1)).hi, (Range.at_ xs i).group⟩ : Range).enc ⟨(Range.at_ xs i).lo, (Range.at_ xs (i + 1)).hi, (Range.at_ xs i).group⟩ ⟨rfl, rfl⟩
    rw [← at_get hk] at hst1
    simp only [Range.enc] at hst1 u2 m2
    have hst2 : storeP g2 y.sid i 1 [.int .u64 (Range.at_ xs (i + 1)).hi] = some (g2.put y.sid (rows.set i [.int .u64 (Range.at_ xs i).lo, .int .u64 (Range.at_ xs (i + 1)).hi, .int .i64 (Range.at_ xs i).group])) := by rw [hst1]; simp [splice?, putM_s]
    generalize hg3 : g2.put y.sid (rows.set i [.int .u64 (Range.at_ xs i).lo, .int .u64 (Range.at_ xs (i + 1)).hi, .int .i64 (Range.at_ xs i).group]) = g3 at *
    have o3 := o2.turned m2 f2
    obtain ⟨z, g5, fr, e5, w5, re⟩ := SlR.del (Fl.ok _) u2 f2.nd (fun id hid => by rw [m2.fl]; exact f2.own o2 hf id hid) (i := i + 1) (by rw [List.length_set]; exact hk1)
    subst hi
    simp only [run0, run1, run2, run3, run4, noSlot, ownS, ownK, memN, RO.dst, lk, drop, forget, number, Nat.reduceBEq, cut?, splice?, builds, List.length_cons, List.length_nil, List.drop_succ_cons, List.drop_zero, List.take_succ_cons, List.take_zero, List.cons_append, List.nil_append, List.append_nil, List.drop_nil, List.take_nil, Nat.reduceAdd, Nat.reduceLeDiff, Nat.zero_add, Nat.add_zero, ↓reduceIte, Bool.not_true, Bool.not_false, decide_true, decide_false, eq_self, bne_self_eq_false, List.getElem?_cons_zero, List.getElem?_cons_succ, decide_eq_true_eq, Bool.false_eq_true, Bool.true_eq_false, reduceCtorEq, Nat.le_refl, e1, c1, hwl, hwn, c2, hxi, hw1, hxj, hli, hlj, c3n, List.replicate_zero, fills, e4, hlj2, hyi, hst2, hw2, pr _ _, e5]
    exact ⟨_, _, _, rfl, re.on o3 f2, w5, re.fre o3 f2⟩
end
end Go.Proofs.Ytcdlbjomdokmiaa.A
/- Ranges are split and moved, the reference's way. -/
namespace Go.Proofs.Ytcdlbjomdokmiaa.A
open Go
set_option linter.unusedSimpArgs false
set_option linter.unusedVariables false
/-- A cut in the course of a loop. -/
def lcut {α : Type} (zs : List α) (p q : α) (k i : Nat) : List α := if k < i then zs.take k ++ [p, q] ++ (zs.take i).drop (k + 1) else zs.take i
section
variable {α : Type} {zs : List α} {p q : α}
theorem lcut_next {k i : Nat} (hi : i < zs.length) (h : i ≠ k) : lcut zs p q k (i + 1) = lcut zs p q k i ++ [zs[i]] := by
  simp only [lcut]
  rcases Nat.lt_or_gt_of_ne h with h | h
  · rw [if_neg (by omega), if_neg (by omega), List.take_add_one, List.getElem?_eq_getElem hi]; rfl
  · rw [if_pos (by omega), if_pos h, List.take_add_one, List.getElem?_eq_getElem hi, List.drop_append_of_le_length (by rw [List.length_take]; omega), ← List.append_assoc]; rfl
theorem lcut_at {i : Nat} (hi : i < zs.length) : lcut zs p q i (i + 1) = lcut zs p q i i ++ [p] ++ [q] := by
  simp only [lcut]
  rw [if_pos (by omega), if_neg (by omega), List.drop_eq_nil_of_le (by rw [List.length_take]; omega)]
  simp
theorem lcut_end {k : Nat} (h : k < zs.length) : lcut zs p q k zs.length = zs.take k ++ [p, q] ++ zs.drop (k + 1) := by
  simp only [lcut]; rw [if_pos h, List.take_length]
theorem lcut_len (zs : List α) (p q : α) (k i : Nat) : (lcut zs p q k i).length ≤ zs.length + 2 := by
  simp only [lcut]
  split <;> simp only [List.length_append, List.length_take, List.length_drop, List.length_cons, List.length_nil] <;> omega
end
section
variable {F : Nat → Option RF} {Z : CallF} {h hp : Heap} {x : Cell} {xs : List Range} {fp : List Nat}
set_option maxHeartbeats 2000000 in
theorem sSplitRange_c (hS : Has F tS01d) (hS11 : Has F tS11) (hf : h.floor ≤ h.next) (w : SlR 7 (Fl Range.enc) h x xs fp) (a g : Int) (ha : 0 ≤ a ∧ a ≤ 18446744073709551615) (hok : ∀ t, t ∈ xs → t.Ok) (sm : xs.length ≤ 1048576) :
    ∃ y h' fq, call F Z 221 [.c x, .c (.int .u64 a), .c (.int .i64 g)] h = some (.tup [.c y, .c (.bool (splitRg xs a g).2)], h') ∧ On h h' ∧ SlR 7 (Fl Range.enc) h' y (splitRg xs a g).1 fq ∧ Fre h fq := by
  have e1 := sFindRange_run (Z := Z) hS hS11 w hok a
  have e2 := fun h => l01In_run (Z := Z) hS g 0 99 h
  have hwl := w.len
  have hle := w.le2
  rw [call_run F Z (hS11.lk (g := 221) rfl) _ _ rfl]
  cases hr : rangesOk xs with
  | false =>
    rw [hr, cond_false] at e1
    rw [split_bad (by simp [hr])]
    simp only [run0, run1, run2, run3, run4, noSlot, ownS, ownK, memN, RO.dst, lk, drop, forget, number, Nat.reduceBEq, cut?, splice?, builds, List.length_cons, List.length_nil, List.drop_succ_cons, List.drop_zero, List.take_succ_cons, List.take_zero, List.cons_append, List.nil_append, List.append_nil, List.drop_nil, List.take_nil, Nat.reduceAdd, Nat.reduceLeDiff, Nat.zero_add, Nat.add_zero, ↓reduceIte, Bool.not_true, Bool.not_false, decide_true, decide_false, eq_self, bne_self_eq_false, List.getElem?_cons_zero, List.getElem?_cons_succ, decide_eq_true_eq, Bool.false_eq_true, Bool.true_eq_false, reduceCtorEq, Nat.le_refl, e1, Int.reduceLT, Int.reduceNeg]
    exact ⟨_, _, _, rfl, On.refl h, SlR.nil _ _ _, Fre.nil h⟩
  | true =>
    obtain ⟨k, hk, q1, q2, q3, q4⟩ := (rangesOk_fit hr).has ha.1 ha.2
    rw [hr, cond_true, q2] at e1
    have g0 : ¬ (k : Int) < 0 := by omega
    have hxk := w.idx hk
    have hlk := w.load hk
    rw [← at_get hk] at hlk
    simp only [Range.enc] at hlk
    by_cases c1 : (Range.at_ xs k).lo = a
    · have c1' : ((Range.at_ xs k).lo == a) = true := by simpa using c1
      have hd : splitRg xs a g = ([], false) := by
        cases hb : (rangesOk xs && (inR g 0 99 && !((xs.length : Int) == 24))) with
        | false => exact split_bad hb
        | true => rw [split_at hb q1, c1']; rfl
      rw [hd]
      simp only [run0, run1, run2, run3, run4, noSlot, ownS, ownK, memN, RO.dst, lk, drop, forget, number, Nat.reduceBEq, cut?, splice?, builds, List.length_cons, List.length_nil, List.drop_succ_cons, List.drop_zero, List.take_succ_cons, List.take_zero, List.cons_append, List.nil_append, List.append_nil, List.drop_nil, List.take_nil, Nat.reduceAdd, Nat.reduceLeDiff, Nat.zero_add, Nat.add_zero, ↓reduceIte, Bool.not_true, Bool.not_false, decide_true, decide_false, eq_self, bne_self_eq_false, List.getElem?_cons_zero, List.getElem?_cons_succ, decide_eq_true_eq, Bool.false_eq_true, Bool.true_eq_false, reduceCtorEq, Nat.le_refl, e1, g0, hxk, hlk, c1']
      exact ⟨_, _, _, rfl, On.refl h, SlR.nil _ _ _, Fre.nil h⟩
    have c1' : ((Range.at_ xs k).lo == a) = false := by simpa using c1
    cases hg : inR g 0 99 with
    | false =>
      rw [hg] at e2
      rw [split_bad (by simp [hg])]
      simp only [run0, run1, run2, run3, run4, noSlot, ownS, ownK, memN, RO.dst, lk, drop, forget, number, Nat.reduceBEq, cut?, splice?, builds, List.length_cons, List.length_nil, List.drop_succ_cons, List.drop_zero, List.take_succ_cons, List.take_zero, List.cons_append, List.nil_append, List.append_nil, List.drop_nil, List.take_nil, Nat.reduceAdd, Nat.reduceLeDiff, Nat.zero_add, Nat.add_zero, ↓reduceIte, Bool.not_true, Bool.not_false, decide_true, decide_false, eq_self, bne_self_eq_false, List.getElem?_cons_zero, List.getElem?_cons_succ, decide_eq_true_eq, Bool.false_eq_true, Bool.true_eq_false, reduceCtorEq, Nat.le_refl, e1, e2, g0, hxk, hlk, c1']
      exact ⟨_, _, _, rfl, On.refl h, SlR.nil _ _ _, Fre.nil h⟩
    | true =>
      rw [hg] at e2
      cases hl : ((xs.length : Int) == 24) with
      | true =>
        rw [split_bad (by simp [hl])]
        simp only [run0, run1, run2, run3, run4, noSlot, ownS, ownK, memN, RO.dst, lk, drop, forget, number, Nat.reduceBEq, cut?, splice?, builds, List.length_cons, List.length_nil, List.drop_succ_cons, List.drop_zero, List.take_succ_cons, List.take_zero, List.cons_append, List.nil_append, List.append_nil, List.drop_nil, List.take_nil, Nat.reduceAdd, Nat.reduceLeDiff, Nat.zero_add, Nat.add_zero, ↓reduceIte, Bool.not_true, Bool.not_false, decide_true, decide_false, eq_self, bne_self_eq_false, List.getElem?_cons_zero, List.getElem?_cons_succ, decide_eq_true_eq, Bool.false_eq_true, Bool.true_eq_false, reduceCtorEq, Nat.le_refl, e1, e2, g0, hxk, hlk, c1', hwl, hl]
        exact ⟨_, _, _, rfl, On.refl h, SlR.nil _ _ _, Fre.nil h⟩
      | false =>
        rw [split_at (by simp [hr, hg, hl]) q1, c1']
        simp only [cond_false]
        have hlo := (hok _ (List.getElem_mem hk)).lo
        rw [← at_get hk] at hlo
        have hwa : IntKind.u64.wrap (a - 1) = a - 1 := wrapU _ (by omega) (by omega)
        have hl24 : xs.length ≤ 24 := by
          simp only [rangesOk, inR, Bool.and_eq_true, decide_eq_true_eq] at hr; omega
        simp only [run0, run1, run2, run3, run4, noSlot, ownS, ownK, memN, RO.dst, lk, drop, forget, number, Nat.reduceBEq, cut?, splice?, builds, List.length_cons, List.length_nil, List.drop_succ_cons, List.drop_zero, List.take_succ_cons, List.take_zero, List.cons_append, List.nil_append, List.append_nil, List.drop_nil, List.take_nil, Nat.reduceAdd, Nat.reduceLeDiff, Nat.zero_add, Nat.add_zero, ↓reduceIte, Bool.not_true, Bool.not_false, decide_true, decide_false, eq_self, bne_self_eq_false, List.getElem?_cons_zero, List.getElem?_cons_succ, decide_eq_true_eq, Bool.false_eq_true, Bool.true_eq_false, reduceCtorEq, Nat.le_refl, e1, e2, g0, hxk, hlk, c1', hwl, hl, List.replicate_zero, fills]
        obtain ⟨s', ⟨y, gH, hs, ac⟩, lp⟩ := loop_goes (F := F) (Z := Z) (live := [0, 1, 2, 8, 9, 10]) (b := r221L0) xs.length (fun i st => ∃ y gH, st = ⟨[(0, .c x), (1, .c (.int .u64 a)), (2, .c (.int .i64 g)), (8, .c (.int .i64 (k : Nat))), (9, .c y), (10, .c (.int .i64 (i : Nat)))], [], [], gH⟩ ∧ Acc 7 h gH y ((lcut xs ⟨(Range.at_ xs k).lo, a - 1, (Range.at_ xs k).group⟩ ⟨a, (Range.at_ xs k).hi, g⟩ k i).map Range.enc)) (fun i st hi ⟨y, gH, hs, ac⟩ => by
          subst hs
          have hlt : (i : Int) < xs.length := by omega
          have hws := wrapS i (by omega)
          have hxi := w.idx hi
          have hpl := lcut_len xs ⟨(Range.at_ xs k).lo, a - 1, (Range.at_ xs k).group⟩ ⟨a, (Range.at_ xs k).hi, g⟩ k i
          have hld := (w.on (Fl.ok _) ac.on).load hi
          rw [loop_run]
          conv in (codeF _ _ r221L0 _) => unfold r221L0
          by_cases hik : i = k
          · subst hik
            have hself : ((i : Int) != (i : Int)) = false := by simp
            rw [← at_get hk] at hld
            have e3 := ac.one_eq hf (bytes := 24) (by rw [List.length_map]; omega) (⟨(Range.at_ xs i).lo, a - 1, (Range.at_ xs i).group⟩ : Range).enc
            have a2 := ac.one hf (by rw [List.length_map]; omega) (⟨(Range.at_ xs i).lo, a - 1, (Range.at_ xs i).group⟩ : Range).enc
            have hld2 := (w.on (Fl.ok _) a2.on).load hi
            rw [← at_get hk] at hld2
            have e4 := a2.one_eq hf (bytes := 24) (by simp; omega) (⟨a, (Range.at_ xs i).hi, g⟩ : Range).enc
            have a3 := a2.one hf (by simp; omega) (⟨a, (Range.at_ xs i).hi, g⟩ : Range).enc
            rw [show (lcut xs ⟨(Range.at_ xs i).lo, a - 1, (Range.at_ xs i).group⟩ ⟨a, (Range.at_ xs i).hi, g⟩ i i).map Range.enc ++ [(⟨(Range.at_ xs i).lo, a - 1, (Range.at_ xs i).group⟩ : Range).enc] ++ [(⟨a, (Range.at_ xs i).hi, g⟩ : Range).enc] = (lcut xs ⟨(Range.at_ xs i).lo, a - 1, (Range.at_ xs i).group⟩ ⟨a, (Range.at_ xs i).hi, g⟩ i (i + 1)).map Range.enc from by rw [lcut_at hi]; simp] at a3
            simp only [Range.enc] at hld hld2 e3 e4 a3
            simp only [run0, run1, run2, run3, run4, noSlot, ownS, ownK, memN, RO.dst, lk, drop, forget, number, Nat.reduceBEq, cut?, splice?, builds, List.length_cons, List.length_nil, List.drop_succ_cons, List.drop_zero, List.take_succ_cons, List.take_zero, List.cons_append, List.nil_append, List.append_nil, List.drop_nil, List.take_nil, Nat.reduceAdd, Nat.reduceLeDiff, Nat.zero_add, Nat.add_zero, ↓reduceIte, Bool.not_true, Bool.not_false, decide_true, decide_false, eq_self, bne_self_eq_false, List.getElem?_cons_zero, List.getElem?_cons_succ, decide_eq_true_eq, Bool.false_eq_true, Bool.true_eq_false, reduceCtorEq, Nat.le_refl, hwl, hlt, hxi, hself, hld, hwa, List.replicate_succ, List.replicate_zero, fills, and_self, Nat.zero_lt_one, List.set_cons_zero, e3, hld2, e4, hws, Range.enc]
            exact ⟨_, ⟨_, _, rfl, a3⟩, rfl⟩
          · have hne0 : ¬ (i : Int) = (k : Int) := by omega
            have hne : ((i : Int) != (k : Int)) = true := by simpa using hne0
            have e3 := ac.one_eq hf (bytes := 24) (by rw [List.length_map]; omega) xs[i].enc
            have a2 := ac.one hf (by rw [List.length_map]; omega) xs[i].enc
            rw [show (lcut xs ⟨(Range.at_ xs k).lo, a - 1, (Range.at_ xs k).group⟩ ⟨a, (Range.at_ xs k).hi, g⟩ k i).map Range.enc ++ [xs[i].enc] = (lcut xs ⟨(Range.at_ xs k).lo, a - 1, (Range.at_ xs k).group⟩ ⟨a, (Range.at_ xs k).hi, g⟩ k (i + 1)).map Range.enc from by rw [lcut_next hi hik]; simp] at a2
            simp only [Range.enc] at hld e3 a2
            simp only [run0, run1, run2, run3, run4, noSlot, ownS, ownK, memN, RO.dst, lk, drop, forget, number, Nat.reduceBEq, cut?, splice?, builds, List.length_cons, List.length_nil, List.drop_succ_cons, List.drop_zero, List.take_succ_cons, List.take_zero, List.cons_append, List.nil_append, List.append_nil, List.drop_nil, List.take_nil, Nat.reduceAdd, Nat.reduceLeDiff, Nat.zero_add, Nat.add_zero, ↓reduceIte, Bool.not_true, Bool.not_false, decide_true, decide_false, eq_self, bne_self_eq_false, List.getElem?_cons_zero, List.getElem?_cons_succ, decide_eq_true_eq, Bool.false_eq_true, Bool.true_eq_false, reduceCtorEq, Nat.le_refl, hwl, hlt, hxi, hne, hld, List.replicate_succ, List.replicate_zero, fills, and_self, Nat.zero_lt_one, List.set_cons_zero, e3, hws, Range.enc]
            exact ⟨_, ⟨_, _, rfl, a2⟩, rfl⟩) (s := ⟨[(0, .c x), (1, .c (.int .u64 a)), (2, .c (.int .i64 g)), (8, .c (.int .i64 (k : Nat))), (9, .c (.sl 7 h.next 0 0)), (10, .c (.int .i64 (0 : Nat)))], [], [], h.push []⟩) ⟨_, _, rfl, by simpa [lcut] using Acc.lit0 (tag := 7) (On.refl h)⟩
        subst hs
        rw [lcut_end hk] at ac
        obtain ⟨o3, fr, w3, f3⟩ := ac.flat (enc := Range.enc)
        simp only [show ((0 : Nat) : Int) = 0 from rfl] at lp
        have hlt : ¬ (xs.length : Int) < xs.length := by omega
        rw [lp, loop_run]
        conv in (codeF _ _ r221L0 _) => unfold r221L0
        simp only [run0, run1, run2, run3, run4, noSlot, ownS, ownK, memN, RO.dst, lk, drop, forget, number, Nat.reduceBEq, cut?, splice?, builds, List.length_cons, List.length_nil, List.drop_succ_cons, List.drop_zero, List.take_succ_cons, List.take_zero, List.cons_append, List.nil_append, List.append_nil, List.drop_nil, List.take_nil, Nat.reduceAdd, Nat.reduceLeDiff, Nat.zero_add, Nat.add_zero, ↓reduceIte, Bool.not_true, Bool.not_false, decide_true, decide_false, eq_self, bne_self_eq_false, List.getElem?_cons_zero, List.getElem?_cons_succ, decide_eq_true_eq, Bool.false_eq_true, Bool.true_eq_false, reduceCtorEq, Nat.le_refl, hwl, hlt]
        exact ⟨_, _, _, rfl, o3, w3, f3⟩
end
end Go.Proofs.Ytcdlbjomdokmiaa.A
/- Ranges are merged and moved, the reference's way. -/
namespace Go.Proofs.Ytcdlbjomdokmiaa.A
open Go
set_option linter.unusedSimpArgs false
set_option linter.unusedVariables false
def moveRg (xs : List Range) (k g : Int) : List Range × Bool := bif rangesOk xs && (inR k 0 ((xs.length : Int) - 1) && inR g 0 99) then (xs.set k.toNat ⟨(Range.at_ xs k.toNat).lo, (Range.at_ xs k.toNat).hi, g⟩, true) else ([], false)
theorem move_bad_ {xs : List Range} {k g : Int} (h : (rangesOk xs && (inR k 0 ((xs.length : Int) - 1) && inR g 0 99)) = false) : moveRg xs k g = ([], false) := by simp [moveRg, h]
theorem move_yes_ {xs : List Range} {k g : Int} (h : (rangesOk xs && (inR k 0 ((xs.length : Int) - 1) && inR g 0 99)) = true) : moveRg xs k g = (xs.set k.toNat ⟨(Range.at_ xs k.toNat).lo, (Range.at_ xs k.toNat).hi, g⟩, true) := by simp [moveRg, h]
def mpart (xs : List Range) (r : Range) (k i : Nat) : List Range := if i ≤ k + 1 then xs.take i else (xs.set k r).take (k + 1) ++ (xs.take i).drop (k + 2)
section
variable {xs : List Range} {r : Range}
theorem mpart_lo {k i : Nat} (hi : i < xs.length) (h : i ≤ k) : mpart xs r k (i + 1) = mpart xs r k i ++ [xs[i]] := by
  simp only [mpart]
  rw [if_pos (by omega), if_pos (by omega), List.take_add_one, List.getElem?_eq_getElem hi]; rfl
theorem mpart_at {k : Nat} (hk : k + 1 < xs.length) : mpart xs r k (k + 1 + 1) = (mpart xs r k (k + 1)).set k r := by
  simp only [mpart]
  rw [if_neg (by omega), if_pos (Nat.le_refl _), List.drop_eq_nil_of_le (by rw [List.length_take]; omega), List.append_nil, List.take_set]
theorem mpart_hi {k i : Nat} (hi : i < xs.length) (h : k + 1 < i) : mpart xs r k (i + 1) = mpart xs r k i ++ [xs[i]] := by
  simp only [mpart]
  have ht : xs.take (i + 1) = xs.take i ++ [xs[i]] := by rw [List.take_add_one, List.getElem?_eq_getElem hi]; rfl
  rw [if_neg (by omega), if_neg (by omega), ht, List.drop_append_of_le_length (by rw [List.length_take]; omega), ← List.append_assoc]
theorem mpart_end {k : Nat} (hk : k + 1 < xs.length) : mpart xs r k xs.length = (xs.set k r).eraseIdx (k + 1) := by
  simp only [mpart]
  split
  · omega
  · rw [List.take_length, List.eraseIdx_eq_take_drop_succ, List.drop_set_of_lt (by omega)]
theorem mpart_len (k i : Nat) : (mpart xs r k i).length ≤ xs.length + 1 := by
  simp only [mpart]
  split <;> simp only [List.length_append, List.length_take, List.length_drop, List.length_set] <;> omega
end
section
variable {F : Nat → Option RF} {Z : CallF} {h hp : Heap} {x : Cell} {xs : List Range} {fp : List Nat}
/-- A store into what was gathered. -/
theorem Acc.putRow {g : Heap} {y : Cell} {rows : List (List Cell)} (a : Acc 7 h g y rows) (hf : h.floor ≤ h.next) {k : Nat} (hk : k < rows.length) :
    (∀ j n, loadP g y.sid k j n = cut? rows[k] j n) ∧ idxR 7 (some y) (some (k : Int)) = some (.ptr y.sid k 0) ∧ ∀ j new r', splice? rows[k] j new = some r' → ∃ g', storeP g y.sid k j new = some g' ∧ Acc 7 h g' y (rows.set k r') := by
  obtain ⟨o, fp, w, f⟩ := a
  obtain ⟨r, f2, rws, hR, hs, hld, hself, hst, hl2, fin⟩ := w.putRow (Fl.ok _) f.nd (f.own o hf) hk
  obtain ⟨rfl, rfl⟩ := hR
  refine ⟨hld, w.idx hk, fun j new r' hs => ?_⟩
  have h1 := hst rows[k] j new
  rw [hself, hs] at h1
  obtain ⟨u, m⟩ := fin r' r' ⟨rfl, rfl⟩
  exact ⟨_, h1, o.turned m f, fp, u, f⟩
set_option maxHeartbeats 2000000 in
theorem sMergeRange_c (hS : Has F tS01d) (hS11 : Has F tS11) (hf : h.floor ≤ h.next) (w : SlR 7 (Fl Range.enc) h x xs fp) (k : Int) (hok : ∀ t, t ∈ xs → t.Ok) (sm : xs.length ≤ 1048576) :
    ∃ y h' fq, call F Z 222 [.c x, .c (.int .i64 k)] h = some (.tup [.c y, .c (.bool (mergeRg xs k).2)], h') ∧ On h h' ∧ SlR 7 (Fl Range.enc) h' y (mergeRg xs k).1 fq ∧ Fre h fq := by
  have e1 := sRangesOk_run (Z := Z) hS hS11 (w.up (Fl.ok _) h.next) hok
  have e2 := fun h => l01In_run (Z := Z) hS k 0 ((xs.length : Int) - 2) h
  have hwl := w.len
  have hle := w.le2
  rw [call_run F Z (hS11.lk (g := 222) rfl) _ _ rfl]
  cases hr : rangesOk xs with
  | false =>
    rw [hr] at e1
    rw [merge_bad (by simp [hr])]
    simp only [run0, run1, run2, run3, run4, noSlot, ownS, ownK, memN, RO.dst, lk, drop, forget, number, Nat.reduceBEq, cut?, splice?, builds, List.length_cons, List.length_nil, List.drop_succ_cons, List.drop_zero, List.take_succ_cons, List.take_zero, List.cons_append, List.nil_append, List.append_nil, List.drop_nil, List.take_nil, Nat.reduceAdd, Nat.reduceLeDiff, Nat.zero_add, Nat.add_zero, ↓reduceIte, Bool.not_true, Bool.not_false, decide_true, decide_false, eq_self, bne_self_eq_false, List.getElem?_cons_zero, List.getElem?_cons_succ, decide_eq_true_eq, Bool.false_eq_true, Bool.true_eq_false, reduceCtorEq, Nat.le_refl, e1]
    exact ⟨_, _, _, rfl, On.refl h, SlR.nil _ _ _, Fre.nil h⟩
  | true =>
    rw [hr] at e1
    have hl1 : 1 ≤ xs.length := (rangesOk_fit hr).pos
    have hwn : IntKind.i64.wrap ((xs.length : Int) - 2) = (xs.length : Int) - 2 := wrapI _ (by omega) (by omega)
    cases hin : inR k 0 ((xs.length : Int) - 2) with
    | false =>
      rw [hin] at e2
      have hd : mergeRg xs k = ([], false) := by
        have hn : ¬ (0 ≤ k ∧ k ≤ (xs.length : Int) - 2) := fun hc => by simp [inR, hc.1, hc.2] at hin
        apply merge_bad
        by_cases h0 : 0 ≤ k
        · have : ¬ k < (xs.length : Int) - 1 := by omega
          simp [this]
        · simp [h0]
      rw [hd]
      simp only [run0, run1, run2, run3, run4, noSlot, ownS, ownK, memN, RO.dst, lk, drop, forget, number, Nat.reduceBEq, cut?, splice?, builds, List.length_cons, List.length_nil, List.drop_succ_cons, List.drop_zero, List.take_succ_cons, List.take_zero, List.cons_append, List.nil_append, List.append_nil, List.drop_nil, List.take_nil, Nat.reduceAdd, Nat.reduceLeDiff, Nat.zero_add, Nat.add_zero, ↓reduceIte, Bool.not_true, Bool.not_false, decide_true, decide_false, eq_self, bne_self_eq_false, List.getElem?_cons_zero, List.getElem?_cons_succ, decide_eq_true_eq, Bool.false_eq_true, Bool.true_eq_false, reduceCtorEq, Nat.le_refl, e1, hwl, hwn, e2]
      exact ⟨_, _, _, rfl, On.refl h, SlR.nil _ _ _, Fre.nil h⟩
    | true =>
      rw [hin] at e2
      simp only [inR, Bool.and_eq_true, decide_eq_true_eq] at hin
      obtain ⟨i, hi⟩ : ∃ i : Nat, k = (i : Int) := ⟨k.toNat, by omega⟩
      have hk : i < xs.length := by omega
      have hk1 : i + 1 < xs.length := by omega
      have hxi := w.idx hk
      have hxj := w.idx hk1
      have hli := w.load hk
      have hlj := w.load hk1
      rw [← at_get hk] at hli
      rw [← at_get hk1] at hlj
      simp only [Range.enc] at hli hlj
      have hw1 : IntKind.i64.wrap (k + 1) = ((i + 1 : Nat) : Int) := by rw [hi]; exact wrapS i (by omega)
      by_cases c3 : (Range.at_ xs i).group = (Range.at_ xs (i + 1)).group
      case neg =>
        have c3n : ((Range.at_ xs i).group != (Range.at_ xs (i + 1)).group) = true := by simpa using c3
        have c3' : ((Range.at_ xs i).group == (Range.at_ xs (i + 1)).group) = false := by simpa using c3
        rw [merge_bad (by rw [hi]; simp [c3'])]
        subst hi
        simp only [run0, run1, run2, run3, run4, noSlot, ownS, ownK, memN, RO.dst, lk, drop, forget, number, Nat.reduceBEq, cut?, splice?, builds, List.length_cons, List.length_nil, List.drop_succ_cons, List.drop_zero, List.take_succ_cons, List.take_zero, List.cons_append, List.nil_append, List.append_nil, List.drop_nil, List.take_nil, Nat.reduceAdd, Nat.reduceLeDiff, Nat.zero_add, Nat.add_zero, ↓reduceIte, Bool.not_true, Bool.not_false, decide_true, decide_false, eq_self, bne_self_eq_false, List.getElem?_cons_zero, List.getElem?_cons_succ, decide_eq_true_eq, Bool.false_eq_true, Bool.true_eq_false, reduceCtorEq, Nat.le_refl, e1, hwl, hwn, e2, hxi, hw1, hxj, hli, hlj, c3n]
        exact ⟨_, _, _, rfl, On.refl h, SlR.nil _ _ _, Fre.nil h⟩
      have c3n : ((Range.at_ xs i).group != (Range.at_ xs (i + 1)).group) = false := by simpa using c3
      rw [merge_yes hr hi (by omega) c3]
      have hl24 : xs.length ≤ 24 := by
        simp only [rangesOk, inR, Bool.and_eq_true, decide_eq_true_eq] at hr; omega
      subst hi
      simp only [run0, run1, run2, run3, run4, noSlot, ownS, ownK, memN, RO.dst, lk, drop, forget, number, Nat.reduceBEq, cut?, splice?, builds, List.length_cons, List.length_nil, List.drop_succ_cons, List.drop_zero, List.take_succ_cons, List.take_zero, List.cons_append, List.nil_append, List.append_nil, List.drop_nil, List.take_nil, Nat.reduceAdd, Nat.reduceLeDiff, Nat.zero_add, Nat.add_zero, ↓reduceIte, Bool.not_true, Bool.not_false, decide_true, decide_false, eq_self, bne_self_eq_false, List.getElem?_cons_zero, List.getElem?_cons_succ, decide_eq_true_eq, Bool.false_eq_true, Bool.true_eq_false, reduceCtorEq, Nat.le_refl, e1, hwl, hwn, e2, hxi, hw1, hxj, hli, hlj, c3n, List.replicate_zero, fills]
      obtain ⟨s', ⟨y, gH, hs, ac⟩, lp⟩ := loop_goes (F := F) (Z := Z) (live := [0, 1, 6, 7]) (b := r222L0) xs.length (fun j st => ∃ y gH, st = ⟨[(0, .c x), (1, .c (.int .i64 (i : Nat))), (6, .c y), (7, .c (.int .i64 (j : Nat)))], [], [], gH⟩ ∧ Acc 7 h gH y ((mpart xs ⟨(Range.at_ xs i).lo, (Range.at_ xs (i + 1)).hi, (Range.at_ xs i).group⟩ i j).map Range.enc)) (fun j st hj ⟨y, gH, hs, ac⟩ => by
        subst hs
        have hlt : (j : Int) < xs.length := by omega
        have hws := wrapS j (by omega)
        have hxj := w.idx hj
        have hpl := mpart_len (xs := xs) (r := ⟨(Range.at_ xs i).lo, (Range.at_ xs (i + 1)).hi, (Range.at_ xs i).group⟩) i j
        have hld := (w.on (Fl.ok _) ac.on).load hj
        rw [loop_run]
        conv in (codeF _ _ r222L0 _) => unfold r222L0
        by_cases hjk : j = i + 1
        · subst hjk
          have hself : (((i + 1 : Nat) : Int) == ((i + 1 : Nat) : Int)) = true := by simp
          rw [← at_get hk1] at hld
          have hmi : mpart xs ⟨(Range.at_ xs i).lo, (Range.at_ xs (i + 1)).hi, (Range.at_ xs i).group⟩ i (i + 1) = xs.take (i + 1) := by simp [mpart]
          have hlm : i < ((mpart xs ⟨(Range.at_ xs i).lo, (Range.at_ xs (i + 1)).hi, (Range.at_ xs i).group⟩ i (i + 1)).map Range.enc).length := by rw [hmi, List.length_map, List.length_take]; omega
          have hrow : ((mpart xs ⟨(Range.at_ xs i).lo, (Range.at_ xs (i + 1)).hi, (Range.at_ xs i).group⟩ i (i + 1)).map Range.enc)[i] = (Range.at_ xs i).enc := by
            simp only [List.getElem_map, hmi, List.getElem_take]
            exact congrArg Range.enc (at_get hk).symm
          obtain ⟨a1, a2, a3⟩ := ac.putRow hf hlm
          rw [hrow] at a3
          obtain ⟨g', a4, a5⟩ := a3 1 [.int .u64 (Range.at_ xs (i + 1)).hi] (⟨(Range.at_ xs i).lo, (Range.at_ xs (i + 1)).hi, (Range.at_ xs i).group⟩ : Range).enc rfl
          rw [show ((mpart xs ⟨(Range.at_ xs i).lo, (Range.at_ xs (i + 1)).hi, (Range.at_ xs i).group⟩ i (i + 1)).map Range.enc).set i (⟨(Range.at_ xs i).lo, (Range.at_ xs (i + 1)).hi, (Range.at_ xs i).group⟩ : Range).enc = (mpart xs ⟨(Range.at_ xs i).lo, (Range.at_ xs (i + 1)).hi, (Range.at_ xs i).group⟩ i (i + 1 + 1)).map Range.enc from by rw [mpart_at hk1, List.map_set]] at a5
          simp only [Range.enc] at hld
          simp only [run0, run1, run2, run3, run4, noSlot, ownS, ownK, memN, RO.dst, lk, drop, forget, number, Nat.reduceBEq, cut?, splice?, builds, List.length_cons, List.length_nil, List.drop_succ_cons, List.drop_zero, List.take_succ_cons, List.take_zero, List.cons_append, List.nil_append, List.append_nil, List.drop_nil, List.take_nil, Nat.reduceAdd, Nat.reduceLeDiff, Nat.zero_add, Nat.add_zero, ↓reduceIte, Bool.not_true, Bool.not_false, decide_true, decide_false, eq_self, bne_self_eq_false, List.getElem?_cons_zero, List.getElem?_cons_succ, decide_eq_true_eq, Bool.false_eq_true, Bool.true_eq_false, reduceCtorEq, Nat.le_refl, hwl, hlt, hxj, hw1, hself, hld, a2, a4, hws]
          exact ⟨_, ⟨_, _, rfl, a5⟩, rfl⟩
        · have hne0 : ¬ (j : Int) = ((i + 1 : Nat) : Int) := by omega
          have hne : ((j : Int) == ((i + 1 : Nat) : Int)) = false := by simpa using hne0
          have e3 := ac.one_eq hf (bytes := 24) (by rw [List.length_map]; omega) xs[j].enc
          have a2 := ac.one hf (by rw [List.length_map]; omega) xs[j].enc
          rw [show (mpart xs ⟨(Range.at_ xs i).lo, (Range.at_ xs (i + 1)).hi, (Range.at_ xs i).group⟩ i j).map Range.enc ++ [xs[j].enc] = (mpart xs ⟨(Range.at_ xs i).lo, (Range.at_ xs (i + 1)).hi, (Range.at_ xs i).group⟩ i (j + 1)).map Range.enc from by
            rcases Nat.lt_or_ge i j with hij | hij
            · rw [mpart_hi hj (by omega)]; simp
            · rw [mpart_lo hj hij]; simp] at a2
          simp only [Range.enc] at hld e3 a2
          simp only [run0, run1, run2, run3, run4, noSlot, ownS, ownK, memN, RO.dst, lk, drop, forget, number, Nat.reduceBEq, cut?, splice?, builds, List.length_cons, List.length_nil, List.drop_succ_cons, List.drop_zero, List.take_succ_cons, List.take_zero, List.cons_append, List.nil_append, List.append_nil, List.drop_nil, List.take_nil, Nat.reduceAdd, Nat.reduceLeDiff, Nat.zero_add, Nat.add_zero, ↓reduceIte, Bool.not_true, Bool.not_false, decide_true, decide_false, eq_self, bne_self_eq_false, List.getElem?_cons_zero, List.getElem?_cons_succ, decide_eq_true_eq, Bool.false_eq_true, Bool.true_eq_false, reduceCtorEq, Nat.le_refl, hwl, hlt, hxj, hw1, hne, hld, List.replicate_succ, List.replicate_zero, fills, and_self, Nat.zero_lt_one, List.set_cons_zero, e3, hws, Range.enc]
          exact ⟨_, ⟨_, _, rfl, a2⟩, rfl⟩) (s := ⟨[(0, .c x), (1, .c (.int .i64 (i : Nat))), (6, .c (.sl 7 h.next 0 0)), (7, .c (.int .i64 (0 : Nat)))], [], [], h.push []⟩) ⟨_, _, rfl, by simpa [mpart] using Acc.lit0 (tag := 7) (On.refl h)⟩
      subst hs
      rw [mpart_end hk1] at ac
      obtain ⟨o3, fr, w3, f3⟩ := ac.flat (enc := Range.enc)
      simp only [show ((0 : Nat) : Int) = 0 from rfl] at lp
      have hlt : ¬ (xs.length : Int) < xs.length := by omega
      rw [lp, loop_run]
      conv in (codeF _ _ r222L0 _) => unfold r222L0
      simp only [run0, run1, run2, run3, run4, noSlot, ownS, ownK, memN, RO.dst, lk, drop, forget, number, Nat.reduceBEq, cut?, splice?, builds, List.length_cons, List.length_nil, List.drop_succ_cons, List.drop_zero, List.take_succ_cons, List.take_zero, List.cons_append, List.nil_append, List.append_nil, List.drop_nil, List.take_nil, Nat.reduceAdd, Nat.reduceLeDiff, Nat.zero_add, Nat.add_zero, ↓reduceIte, Bool.not_true, Bool.not_false, decide_true, decide_false, eq_self, bne_self_eq_false, List.getElem?_cons_zero, List.getElem?_cons_succ, decide_eq_true_eq, Bool.false_eq_true, Bool.true_eq_false, reduceCtorEq, Nat.le_refl, hwl, hlt]
      exact ⟨_, _, _, rfl, o3, w3, f3⟩
set_option maxHeartbeats 2000000 in
theorem sMoveRange_c (hS : Has F tS01d) (hS11 : Has F tS11) (hf : h.floor ≤ h.next) (w : SlR 7 (Fl Range.enc) h x xs fp) (k g : Int) (hok : ∀ t, t ∈ xs → t.Ok) (sm : xs.length ≤ 1048576) :
    ∃ y h' fq, call F Z 223 [.c x, .c (.int .i64 k), .c (.int .i64 g)] h = some (.tup [.c y, .c (.bool (moveRg xs k g).2)], h') ∧ On h h' ∧ SlR 7 (Fl Range.enc) h' y (moveRg xs k g).1 fq ∧ Fre h fq := by
  have e1 := sRangesOk_run (Z := Z) hS hS11 w hok
  have e2 := fun h => l01In_run (Z := Z) hS k 0 ((xs.length : Int) - 1) h
  have e3 := fun h => l01In_run (Z := Z) hS g 0 99 h
  have hwl := w.len
  have hle := w.le2
  rw [call_run F Z (hS11.lk (g := 223) rfl) _ _ rfl]
  cases hr : rangesOk xs with
  | false =>
    rw [hr] at e1
    rw [move_bad_ (by simp [hr])]
    simp only [run0, run1, run2, run3, run4, noSlot, ownS, ownK, memN, RO.dst, lk, drop, forget, number, Nat.reduceBEq, cut?, splice?, builds, List.length_cons, List.length_nil, List.drop_succ_cons, List.drop_zero, List.take_succ_cons, List.take_zero, List.cons_append, List.nil_append, List.append_nil, List.drop_nil, List.take_nil, Nat.reduceAdd, Nat.reduceLeDiff, Nat.zero_add, Nat.add_zero, ↓reduceIte, Bool.not_true, Bool.not_false, decide_true, decide_false, eq_self, bne_self_eq_false, List.getElem?_cons_zero, List.getElem?_cons_succ, decide_eq_true_eq, Bool.false_eq_true, Bool.true_eq_false, reduceCtorEq, Nat.le_refl, e1]
    exact ⟨_, _, _, rfl, On.refl h, SlR.nil _ _ _, Fre.nil h⟩
  | true =>
    rw [hr] at e1
    have hl1 : 1 ≤ xs.length := (rangesOk_fit hr).pos
    have hwn : IntKind.i64.wrap ((xs.length : Int) - 1) = (xs.length : Int) - 1 := wrapI _ (by omega) (by omega)
    cases hin : inR k 0 ((xs.length : Int) - 1) with
    | false =>
      rw [hin] at e2
      rw [move_bad_ (by simp [hin])]
      simp only [run0, run1, run2, run3, run4, noSlot, ownS, ownK, memN, RO.dst, lk, drop, forget, number, Nat.reduceBEq, cut?, splice?, builds, List.length_cons, List.length_nil, List.drop_succ_cons, List.drop_zero, List.take_succ_cons, List.take_zero, List.cons_append, List.nil_append, List.append_nil, List.drop_nil, List.take_nil, Nat.reduceAdd, Nat.reduceLeDiff, Nat.zero_add, Nat.add_zero, ↓reduceIte, Bool.not_true, Bool.not_false, decide_true, decide_false, eq_self, bne_self_eq_false, List.getElem?_cons_zero, List.getElem?_cons_succ, decide_eq_true_eq, Bool.false_eq_true, Bool.true_eq_false, reduceCtorEq, Nat.le_refl, e1, hwl, hwn, e2]
      exact ⟨_, _, _, rfl, On.refl h, SlR.nil _ _ _, Fre.nil h⟩
    | true =>
      rw [hin] at e2
      cases hg : inR g 0 99 with
      | false =>
        rw [hg] at e3
        rw [move_bad_ (by simp [hg])]
        simp only [run0, run1, run2, run3, run4, noSlot, ownS, ownK, memN, RO.dst, lk, drop, forget, number, Nat.reduceBEq, cut?, splice?, builds, List.length_cons, List.length_nil, List.drop_succ_cons, List.drop_zero, List.take_succ_cons, List.take_zero, List.cons_append, List.nil_append, List.append_nil, List.drop_nil, List.take_nil, Nat.reduceAdd, Nat.reduceLeDiff, Nat.zero_add, Nat.add_zero, ↓reduceIte, Bool.not_true, Bool.not_false, decide_true, decide_false, eq_self, bne_self_eq_false, List.getElem?_cons_zero, List.getElem?_cons_succ, decide_eq_true_eq, Bool.false_eq_true, Bool.true_eq_false, reduceCtorEq, Nat.le_refl, e1, hwl, hwn, e2, e3]
        exact ⟨_, _, _, rfl, On.refl h, SlR.nil _ _ _, Fre.nil h⟩
      | true =>
        rw [hg] at e3
        rw [move_yes_ (by simp [hr, hin, hg])]
        simp only [inR, Bool.and_eq_true, decide_eq_true_eq] at hin
        obtain ⟨i, hi⟩ : ∃ i : Nat, k = (i : Int) := ⟨k.toNat, by omega⟩
        subst hi
        simp only [Int.toNat_natCast]
        have hk : i < xs.length := by omega
        have hl24 : xs.length ≤ 24 := by
          simp only [rangesOk, inR, Bool.and_eq_true, decide_eq_true_eq] at hr; omega
        simp only [run0, run1, run2, run3, run4, noSlot, ownS, ownK, memN, RO.dst, lk, drop, forget, number, Nat.reduceBEq, cut?, splice?, builds, List.length_cons, List.length_nil, List.drop_succ_cons, List.drop_zero, List.take_succ_cons, List.take_zero, List.cons_append, List.nil_append, List.append_nil, List.drop_nil, List.take_nil, Nat.reduceAdd, Nat.reduceLeDiff, Nat.zero_add, Nat.add_zero, ↓reduceIte, Bool.not_true, Bool.not_false, decide_true, decide_false, eq_self, bne_self_eq_false, List.getElem?_cons_zero, List.getElem?_cons_succ, decide_eq_true_eq, Bool.false_eq_true, Bool.true_eq_false, reduceCtorEq, Nat.le_refl, e1, hwl, hwn, e2, e3, List.replicate_zero, fills]
        obtain ⟨s', ⟨y, gH, hs, ac⟩, lp⟩ := loop_goes (F := F) (Z := Z) (live := [0, 1, 2, 8, 9]) (b := r223L0) xs.length (fun j st => ∃ y gH, st = ⟨[(0, .c x), (1, .c (.int .i64 (i : Nat))), (2, .c (.int .i64 g)), (8, .c y), (9, .c (.int .i64 (j : Nat)))], [], [], gH⟩ ∧ Acc 7 h gH y (((xs.set i ⟨(Range.at_ xs i).lo, (Range.at_ xs i).hi, g⟩).take j).map Range.enc)) (fun j st hj ⟨y, gH, hs, ac⟩ => by
          subst hs
          have hlt : (j : Int) < xs.length := by omega
          have hws := wrapS j (by omega)
          have hxj := w.idx hj
          have hld := (w.on (Fl.ok _) ac.on).load hj
          have hj' : j < (xs.set i ⟨(Range.at_ xs i).lo, (Range.at_ xs i).hi, g⟩).length := by rw [List.length_set]; exact hj
          have hpl : ((xs.set i ⟨(Range.at_ xs i).lo, (Range.at_ xs i).hi, g⟩).take j).length ≤ xs.length := by rw [List.length_take, List.length_set]; omega
          have htk : (xs.set i ⟨(Range.at_ xs i).lo, (Range.at_ xs i).hi, g⟩).take (j + 1) = (xs.set i ⟨(Range.at_ xs i).lo, (Range.at_ xs i).hi, g⟩).take j ++ [(xs.set i ⟨(Range.at_ xs i).lo, (Range.at_ xs i).hi, g⟩)[j]] := by rw [List.take_add_one, List.getElem?_eq_getElem hj']; rfl
          rw [loop_run]
          conv in (codeF _ _ r223L0 _) => unfold r223L0
          by_cases hji : j = i
          · subst hji
            have hself : ((j : Int) == (j : Int)) = true := by simp
            rw [List.getElem_set_self] at htk
            rw [← at_get hk] at hld
            have e5 := ac.one_eq hf (bytes := 24) (by rw [List.length_map]; omega) (⟨(Range.at_ xs j).lo, (Range.at_ xs j).hi, g⟩ : Range).enc
            have a2 := ac.one hf (by rw [List.length_map]; omega) (⟨(Range.at_ xs j).lo, (Range.at_ xs j).hi, g⟩ : Range).enc
            rw [show ((xs.set j ⟨(Range.at_ xs j).lo, (Range.at_ xs j).hi, g⟩).take j).map Range.enc ++ [(⟨(Range.at_ xs j).lo, (Range.at_ xs j).hi, g⟩ : Range).enc] = ((xs.set j ⟨(Range.at_ xs j).lo, (Range.at_ xs j).hi, g⟩).take (j + 1)).map Range.enc from by rw [htk]; simp] at a2
            simp only [Range.enc] at hld e5 a2
            simp only [run0, run1, run2, run3, run4, noSlot, ownS, ownK, memN, RO.dst, lk, drop, forget, number, Nat.reduceBEq, cut?, splice?, builds, List.length_cons, List.length_nil, List.drop_succ_cons, List.drop_zero, List.take_succ_cons, List.take_zero, List.cons_append, List.nil_append, List.append_nil, List.drop_nil, List.take_nil, Nat.reduceAdd, Nat.reduceLeDiff, Nat.zero_add, Nat.add_zero, ↓reduceIte, Bool.not_true, Bool.not_false, decide_true, decide_false, eq_self, bne_self_eq_false, List.getElem?_cons_zero, List.getElem?_cons_succ, decide_eq_true_eq, Bool.false_eq_true, Bool.true_eq_false, reduceCtorEq, Nat.le_refl, hwl, hlt, hxj, hself, hld, List.replicate_succ, List.replicate_zero, fills, and_self, Nat.zero_lt_one, List.set_cons_zero, e5, hws, Range.enc]
            exact ⟨_, ⟨_, _, rfl, a2⟩, rfl⟩
          · have hne0 : ¬ (j : Int) = (i : Int) := by omega
            have hne : ((j : Int) == (i : Int)) = false := by simpa using hne0
            rw [List.getElem_set_ne (Ne.symm hji)] at htk
            have e5 := ac.one_eq hf (bytes := 24) (by rw [List.length_map]; omega) xs[j].enc
            have a2 := ac.one hf (by rw [List.length_map]; omega) xs[j].enc
            rw [show ((xs.set i ⟨(Range.at_ xs i).lo, (Range.at_ xs i).hi, g⟩).take j).map Range.enc ++ [xs[j].enc] = ((xs.set i ⟨(Range.at_ xs i).lo, (Range.at_ xs i).hi, g⟩).take (j + 1)).map Range.enc from by rw [htk]; simp] at a2
            simp only [Range.enc] at hld e5 a2
            simp only [run0, run1, run2, run3, run4, noSlot, ownS, ownK, memN, RO.dst, lk, drop, forget, number, Nat.reduceBEq, cut?, splice?, builds, List.length_cons, List.length_nil, List.drop_succ_cons, List.drop_zero, List.take_succ_cons, List.take_zero, List.cons_append, List.nil_append, List.append_nil, List.drop_nil, List.take_nil, Nat.reduceAdd, Nat.reduceLeDiff, Nat.zero_add, Nat.add_zero, ↓reduceIte, Bool.not_true, Bool.not_false, decide_true, decide_false, eq_self, bne_self_eq_false, List.getElem?_cons_zero, List.getElem?_cons_succ, decide_eq_true_eq, Bool.false_eq_true, Bool.true_eq_false, reduceCtorEq, Nat.le_refl, hwl, hlt, hxj, hne, hld, List.replicate_succ, List.replicate_zero, fills, and_self, Nat.zero_lt_one, List.set_cons_zero, e5, hws, Range.enc]
            exact ⟨_, ⟨_, _, rfl, a2⟩, rfl⟩) (s := ⟨[(0, .c x), (1, .c (.int .i64 (i : Nat))), (2, .c (.int .i64 g)), (8, .c (.sl 7 h.next 0 0)), (9, .c (.int .i64 (0 : Nat)))], [], [], h.push []⟩) ⟨_, _, rfl, by simpa using Acc.lit0 (tag := 7) (On.refl h)⟩
        subst hs
        rw [List.take_of_length_le (by rw [List.length_set]; exact Nat.le_refl _)] at ac
        obtain ⟨o3, fr, w3, f3⟩ := ac.flat (enc := Range.enc)
        simp only [show ((0 : Nat) : Int) = 0 from rfl] at lp
        have hlt : ¬ (xs.length : Int) < xs.length := by omega
        rw [lp, loop_run]
        conv in (codeF _ _ r223L0 _) => unfold r223L0
        simp only [run0, run1, run2, run3, run4, noSlot, ownS, ownK, memN, RO.dst, lk, drop, forget, number, Nat.reduceBEq, cut?, splice?, builds, List.length_cons, List.length_nil, List.drop_succ_cons, List.drop_zero, List.take_succ_cons, List.take_zero, List.cons_append, List.nil_append, List.append_nil, List.drop_nil, List.take_nil, Nat.reduceAdd, Nat.reduceLeDiff, Nat.zero_add, Nat.add_zero, ↓reduceIte, Bool.not_true, Bool.not_false, decide_true, decide_false, eq_self, bne_self_eq_false, List.getElem?_cons_zero, List.getElem?_cons_succ, decide_eq_true_eq, Bool.false_eq_true, Bool.true_eq_false, reduceCtorEq, Nat.le_refl, hwl, hlt]
        exact ⟨_, _, _, rfl, o3, w3, f3⟩
end
end Go.Proofs.Ytcdlbjomdokmiaa.A
/- Whether an id has moved, by the program. -/
namespace Go.Proofs.Ytcdlbjomdokmiaa.A
open Go
set_option linter.unusedSimpArgs false
set_option linter.unusedVariables false
section
variable {F : Nat → Option RF} {Z : CallF} {h : Heap} {cs cs' : List Cell} {c d : Chart} {fp fq : List Nat}
theorem MovedBetween_run (hI11 : Has F tI11) (hI12 : Has F tI12) (hLi : Has F tLibslicesIndexFuncimplRangeimplRange) (v : Chart.RI h cs c fp) (u : Chart.RI h cs' d fq) (ok : c.Ok) (ok' : d.Ok) {id : Int} (g0 : 0 ≤ id) (g1 : id ≤ 18446744073709551615) :
    ∃ h', call F Z 74 [.agg cs, .agg cs', .c (.int .u64 id)] h = some (.c (.bool (c.moved d id)), h') ∧ On h h' := by
  obtain ⟨_, k1, e1, m1, o1⟩ := isChart_q (Z := Z) hI11 hI12 hLi v ok
  obtain ⟨_, k2, e2, m2, o2⟩ := isChart_q (Z := Z) hI11 hI12 hLi (Chart.okI.mono u o1.ext) ok'
  rw [o1.fl] at m2
  obtain ⟨x, p, rfl, rfl, w⟩ := v
  obtain ⟨x', p', rfl, rfl, w'⟩ := u
  rw [call_run F Z (hI12.lk (g := 74) rfl) _ _ rfl]
  have o12 := o1.trans o2
  cases hg : c.good with
  | false =>
    rw [hg] at e1
    simp only [run0, run1, run2, run3, run4, noSlot, ownS, ownK, memN, RO.dst, lk, drop, forget, number, Nat.reduceBEq, cut?, splice?, builds, List.length_cons, List.length_nil, List.drop_succ_cons, List.drop_zero, List.take_succ_cons, List.take_zero, List.cons_append, List.nil_append, List.append_nil, List.drop_nil, List.take_nil, Nat.reduceAdd, Nat.reduceLeDiff, Nat.zero_add, Nat.add_zero, ↓reduceIte, Bool.not_true, Bool.not_false, decide_true, decide_false, eq_self, bne_self_eq_false, List.getElem?_cons_zero, List.getElem?_cons_succ, decide_eq_true_eq, Bool.false_eq_true, Bool.true_eq_false, reduceCtorEq, Nat.le_refl, e1, m1]
    exact ⟨_, by simp [Chart.moved, hg], o1⟩
  | true =>
    rw [hg] at e1
    cases hg' : d.good with
    | false =>
      rw [hg'] at e2
      have f1 := o1.fl
      simp only [run0, run1, run2, run3, run4, noSlot, ownS, ownK, memN, RO.dst, lk, drop, forget, number, Nat.reduceBEq, cut?, splice?, builds, List.length_cons, List.length_nil, List.drop_succ_cons, List.drop_zero, List.take_succ_cons, List.take_zero, List.cons_append, List.nil_append, List.append_nil, List.drop_nil, List.take_nil, Nat.reduceAdd, Nat.reduceLeDiff, Nat.zero_add, Nat.add_zero, ↓reduceIte, Bool.not_true, Bool.not_false, decide_true, decide_false, eq_self, bne_self_eq_false, List.getElem?_cons_zero, List.getElem?_cons_succ, decide_eq_true_eq, Bool.false_eq_true, Bool.true_eq_false, reduceCtorEq, Nat.le_refl, e1, m1, e2, f1, m2]
      exact ⟨_, by simp [Chart.moved, hg, hg'], o12⟩
    | true =>
      rw [hg'] at e2
      obtain ⟨i, hi, q1, _, q2, _, _⟩ := Chart.has (c := c) (Chart.good_ranges hg) g0 g1
      obtain ⟨i', hi', q1', _, q2', _, _⟩ := Chart.has (c := d) (Chart.good_ranges hg') g0 g1
      obtain ⟨_, k3, e3, m3, o3⟩ := findRange_q (Z := Z) hI11 hLi (w.on (Fl.ok _) o12) id
      have o13 := o12.trans o3
      obtain ⟨_, k4, e4, m4, o4⟩ := findRange_q (Z := Z) hI11 hLi (w'.on (Fl.ok _) o13) id
      rw [o12.fl] at m3
      rw [o13.fl] at m4
      rw [q1] at e3
      rw [q1'] at e4
      have f1 := o1.fl
      have f2 := o12.fl
      have f3 := o13.fl
      have l3 : ∀ j n, loadP k3 x.sid i j n = cut? (Range.at_ c.ranges i).enc j n := (w.on (Fl.ok _) o13).loadD Range.none_ hi
      have l4 : ∀ j n, loadP k4 x'.sid i' j n = cut? (Range.at_ d.ranges i').enc j n := (w'.on (Fl.ok _) (o13.trans o4)).loadD Range.none_ hi'
      simp only [run0, run1, run2, run3, run4, noSlot, ownS, ownK, memN, RO.dst, lk, drop, forget, number, Nat.reduceBEq, cut?, splice?, builds, List.length_cons, List.length_nil, List.drop_succ_cons, List.drop_zero, List.take_succ_cons, List.take_zero, List.cons_append, List.nil_append, List.append_nil, List.drop_nil, List.take_nil, Nat.reduceAdd, Nat.reduceLeDiff, Nat.zero_add, Nat.add_zero, ↓reduceIte, Bool.not_true, Bool.not_false, decide_true, decide_false, eq_self, bne_self_eq_false, List.getElem?_cons_zero, List.getElem?_cons_succ, decide_eq_true_eq, Bool.false_eq_true, Bool.true_eq_false, reduceCtorEq, Nat.le_refl, e1, m1, e2, f1, m2, e3, f2, m3, e4, f3, m4, l3, l4, w.idx hi, w'.idx hi', Range.enc]
      exact ⟨_, by simp [Chart.moved, hg, hg', q2, q2'], o13.trans o4⟩
end
end Go.Proofs.Ytcdlbjomdokmiaa.A
/- Routes, as the laws need them. -/
namespace Go.Proofs.Ytcdlbjomdokmiaa.A
open Go
set_option linter.unusedSimpArgs false
set_option linter.unusedVariables false
section
variable {F : Nat → Option RF} {Z : CallF} {h : Heap} {cs cs' : List Cell} {c d : Chart} {fp fq : List Nat}
theorem RouteOf_c (hI11 : Has F tI11) (hI12 : Has F tI12) (hLi : Has F tLibslicesIndexFuncimplRangeimplRange) (hf : h.floor ≤ h.next) (v : Chart.RI h cs c fp) (id : Int) (ok : c.Ok) (g : 0 ≤ id ∧ id ≤ 18446744073709551615) :
    ∃ h', call F Z 70 [.agg cs, .c (.int .u64 id)] h = some (.tup [.c (.int .i64 (c.route id).1), .c (.int .i64 (c.route id).2)], h') ∧ On h h' := RouteOf_run hI11 hI12 hLi v ok g.1 g.2
theorem sRouteOf_c (hS : Has F tS01d) (hS11 : Has F tS11) (hS12 : Has F tS12) (hf : h.floor ≤ h.next) (v : Chart.RI h cs c fp) (id : Int) (ok : c.Ok) (g : 0 ≤ id ∧ id ≤ 18446744073709551615) :
    ∃ h', call F Z 69 [.agg cs, .c (.int .u64 id)] h = some (.tup [.c (.int .i64 (c.route id).1), .c (.int .i64 (c.route id).2)], h') ∧ On h h' := sRouteOf_run hS hS11 hS12 v ok g.1 g.2
theorem MovedBetween_c (hI11 : Has F tI11) (hI12 : Has F tI12) (hLi : Has F tLibslicesIndexFuncimplRangeimplRange) (hf : h.floor ≤ h.next) (v : Chart.RI h cs c fp) (u : Chart.RI h cs' d fq) (id : Int) (ok : c.Ok) (ok' : d.Ok) (g : 0 ≤ id ∧ id ≤ 18446744073709551615) :
    ∃ h', call F Z 74 [.agg cs, .agg cs', .c (.int .u64 id)] h = some (.c (.bool (c.moved d id)), h') ∧ On h h' := MovedBetween_run hI11 hI12 hLi v u ok ok' g.1 g.2
theorem sMovedBetween_c (hS : Has F tS01d) (hS11 : Has F tS11) (hS12 : Has F tS12) (hf : h.floor ≤ h.next) (v : Chart.RI h cs c fp) (u : Chart.RI h cs' d fq) (id : Int) (ok : c.Ok) (ok' : d.Ok) (g : 0 ≤ id ∧ id ≤ 18446744073709551615) :
    ∃ h', call F Z 73 [.agg cs, .agg cs', .c (.int .u64 id)] h = some (.c (.bool (c.moved d id)), h') ∧ On h h' := sMovedBetween_run hS hS11 hS12 v u ok ok' g.1 g.2
end
end Go.Proofs.Ytcdlbjomdokmiaa.A
/- The data of a MapCmd, and its cells. -/
namespace Go.Proofs.Ytcdlbjomdokmiaa.A
open Go
set_option linter.unusedSimpArgs false
set_option linter.unusedVariables false
structure MapCmd where
  kind : Int
  at_ : Int
  group : Int
  deriving DecidableEq
namespace MapCmd
def enc (t : MapCmd) : List Cell := [.int .i64 t.kind, .int .u64 t.at_, .int .i64 t.group]
theorem len (t : MapCmd) : t.enc.length = 3 := rfl
theorem tak (t : MapCmd) : t.enc.take 3 = t.enc := rfl
def none_ : MapCmd := ⟨0, 0, 0⟩
/-- The numbers are those of the machine. -/
structure Ok (t : MapCmd) : Prop where
  kind : -9223372036854775808 ≤ t.kind ∧ t.kind ≤ 9223372036854775807
  at_ : 0 ≤ t.at_ ∧ t.at_ ≤ 18446744073709551615
  group : -9223372036854775808 ≤ t.group ∧ t.group ≤ 9223372036854775807
end MapCmd
theorem Wf.isMapCmd {h : Heap} {n : Nat} {cs : List Cell} (w : Wf h (n + 2) shMapCmd cs) : ∃ t : MapCmd, cs = t.enc ∧ t.Ok := by
  obtain ⟨_, _, rfl, _, ⟨kind0, rfl, h0⟩, _, _, rfl, _, ⟨at_0, rfl, h1⟩, _, _, rfl, _, ⟨group0, rfl, h2⟩, rfl⟩ := w
  exact ⟨⟨kind0, at_0, group0⟩, rfl, ⟨wfI h0, wfU h1, wfI h2⟩⟩
theorem Wf.isMapCmdS {h : Heap} {n : Nat} {x : Cell} (w : Wf h (n + 3) shMapCmdS [x]) : ∃ xs fp, SlR 21 (Fl MapCmd.enc) h x xs fp ∧ ∀ t, t ∈ xs → t.Ok :=
  SlR.ofWf (fun r hr => by obtain ⟨t, rfl, ht⟩ := Wf.isMapCmd hr.2; exact ⟨t, [], ⟨rfl, rfl⟩, ht⟩) w
theorem Wf.isMapCmdS' {h : Heap} {n : Nat} {a : List Cell} (w : Wf h (n + 3) shMapCmdS a) : ∃ x xs fp, a = [x] ∧ SlR 21 (Fl MapCmd.enc) h x xs fp ∧ ∀ t, t ∈ xs → t.Ok := by
  have hx : ∃ x, a = [x] := by rcases w with w | ⟨_, _, w, _⟩ <;> exact ⟨_, w⟩
  obtain ⟨x, rfl⟩ := hx
  obtain ⟨xs, fp, v, ok⟩ := Wf.isMapCmdS w
  exact ⟨x, xs, fp, rfl, v, ok⟩
end Go.Proofs.Ytcdlbjomdokmiaa.A
/- What a command does with a chart. -/
namespace Go.Proofs.Ytcdlbjomdokmiaa.A
open Go
set_option linter.unusedSimpArgs false
set_option linter.unusedVariables false
/-- Is a range the one that moves? -/
def Chart.mv (c : Chart) (i : Nat) : Bool := c.moving && ((Range.at_ c.ranges i).lo == c.lo)
def Chart.fin (c : Chart) (p : List Range × Bool) : Chart × Int := bif p.2 then ({ c with epoch := c.epoch + 1, ranges := p.1 }, 0) else (c, 4)
def Chart.pl (c : Chart) (id : Int) : Nat := (findHi c.ranges id).toNat
def Chart.act (c : Chart) (q : MapCmd) : Chart × Int :=
  bif q.kind == 0 then (bif c.mv (c.pl q.at_) then (c, 2) else c.fin (splitRg c.ranges q.at_ (Range.at_ c.ranges (c.pl q.at_)).group))
  else bif q.kind == 1 then (bif ((Range.at_ c.ranges (c.pl q.at_)).lo != q.at_) || (q.at_ == 0) then (c, 4) else bif c.mv (c.pl q.at_) || c.mv (c.pl q.at_ - 1) then (c, 2) else c.fin (mergeRg c.ranges ((c.pl q.at_ : Nat) - 1 : Int)))
  else bif q.kind == 2 then (bif c.moving then (c, 2) else bif inR q.group 0 99 && (q.group != (Range.at_ c.ranges (c.pl q.at_)).group) then (⟨c.epoch + 1, c.ranges, true, (Range.at_ c.ranges (c.pl q.at_)).lo, q.group⟩, 0) else (c, 4))
  else bif c.moving then (⟨c.epoch + 1, bif q.kind == 3 then c.ranges.set (c.pl c.lo) ⟨(Range.at_ c.ranges (c.pl c.lo)).lo, (Range.at_ c.ranges (c.pl c.lo)).hi, c.to⟩ else c.ranges, false, 0, 0⟩, 0) else (c, 3)
def doMap (c : Chart) (q : MapCmd) : Chart × Int := bif c.good && (inR q.kind 0 4 && !(c.epoch == 1000000)) then c.act q else (c, 1)
theorem cutRg_len (xs : List Range) (k : Nat) (a g : Int) : (cutRg xs k a g).length ≤ xs.length + 2 := by
  simp only [cutRg, List.length_append, List.length_take, List.length_drop, List.length_cons, List.length_nil]; omega
theorem splitRg_len (xs : List Range) (a g : Int) : (splitRg xs a g).1.length ≤ xs.length + 2 := by
  unfold splitRg
  cases (rangesOk xs && (inR g 0 99 && !((xs.length : Int) == 24))) <;> simp only [cond_true, cond_false]
  · simp
  · cases ((Range.at_ xs (findHi xs a).toNat).lo == a) <;> simp only [cond_true, cond_false]
    · exact cutRg_len _ _ _ _
    · simp
theorem mergeRg_len (xs : List Range) (k : Int) : (mergeRg xs k).1.length ≤ xs.length := by
  unfold mergeRg
  cases (rangesOk xs && (decide (0 ≤ k) && (decide (k < (xs.length : Int) - 1) && ((Range.at_ xs k.toNat).group == (Range.at_ xs (k.toNat + 1)).group)))) <;> simp only [cond_true, cond_false]
  · simp
  · exact Nat.le_trans (List.length_eraseIdx_le _ _) (by simp)
theorem Chart.fin_len (c : Chart) (p : List Range × Bool) (h : p.1.length ≤ c.ranges.length + 2) : (c.fin p).1.ranges.length ≤ c.ranges.length + 2 := by
  unfold Chart.fin
  cases p.2
  · simp
  · exact h
theorem doMap_len (c : Chart) (q : MapCmd) : (doMap c q).1.ranges.length ≤ c.ranges.length + 2 := by
  have h1 := c.fin_len (splitRg c.ranges q.at_ (Range.at_ c.ranges (c.pl q.at_)).group) (splitRg_len _ _ _)
  have h2 := c.fin_len (mergeRg c.ranges ((c.pl q.at_ : Nat) - 1 : Int)) (Nat.le_trans (mergeRg_len _ _) (by omega))
  unfold doMap Chart.act
  cases (c.good && (inR q.kind 0 4 && !(c.epoch == 1000000))) <;> simp only [cond_true, cond_false]
  · omega
  cases (q.kind == 0) <;> simp only [cond_true, cond_false]
  · cases (q.kind == 1) <;> simp only [cond_true, cond_false]
    · cases (q.kind == 2) <;> simp only [cond_true, cond_false]
      · cases c.moving <;> simp only [cond_true, cond_false]
        · omega
        · cases (q.kind == 3) <;> simp
      · cases c.moving <;> simp only [cond_true, cond_false]
        · cases (inR q.group 0 99 && (q.group != (Range.at_ c.ranges (c.pl q.at_)).group)) <;> simp
        · omega
    · cases (((Range.at_ c.ranges (c.pl q.at_)).lo != q.at_) || (q.at_ == 0)) <;> simp only [cond_true, cond_false]
      · cases (c.mv (c.pl q.at_) || c.mv (c.pl q.at_ - 1)) <;> simp only [cond_true, cond_false]
        · exact h2
        · omega
      · omega
  · cases c.mv (c.pl q.at_) <;> simp only [cond_true, cond_false]
    · exact h1
    · omega
/-- The range that moves is found by its first id. -/
theorem Chart.mv_place {c : Chart} (g : c.good = true) (hm : c.moving = true) (hlo : 0 ≤ c.lo ∧ c.lo ≤ 18446744073709551615) : ∃ j, j < c.ranges.length ∧ findLo c.ranges c.lo = (j : Int) ∧ c.pl c.lo = j ∧ findHi c.ranges c.lo = (j : Int) ∧ (Range.at_ c.ranges j).lo = c.lo ∧ ∀ i, i < c.ranges.length → (c.mv i = true ↔ i = j) := by
  have hr := Chart.good_ranges g
  have hfit := rangesOk_fit hr
  obtain ⟨j, hj, q1, q2, q3, q4, q5⟩ := Chart.has (c := c) hr hlo.1 hlo.2
  have hb := hfit.begins hj q4 q5
  have hgl : (Range.at_ c.ranges j).lo = c.lo := by
    simp only [Chart.good, hm, cond_true, Bool.and_eq_true, beq_iff_eq, q3] at g
    exact g.2.2.1
  rw [if_pos hgl] at hb
  refine ⟨j, hj, hb, by simp [Chart.pl, q1], q1, hgl, fun i hi => ?_⟩
  simp only [Chart.mv, hm, Bool.true_and, beq_iff_eq]
  constructor
  · intro he
    have hj2 := hfit.le i hi
    have hj3 := hfit.le j hj
    rcases Nat.lt_trichotomy i j with h | h | h
    · have := hfit.apart h hj; omega
    · exact h
    · have := hfit.apart h hi; omega
  · intro he; subst he; exact hgl
end Go.Proofs.Ytcdlbjomdokmiaa.A
/- The data of a Request, and its cells. -/
namespace Go.Proofs.Ytcdlbjomdokmiaa.A
open Go
set_option linter.unusedSimpArgs false
set_option linter.unusedVariables false
structure Request where
  epoch : Int
  op : Int
  id : Int
  amount : Int
  tx : Int
  deriving DecidableEq
namespace Request
def enc (t : Request) : List Cell := [.int .i64 t.epoch, .int .i64 t.op, .int .u64 t.id, .int .u64 t.amount, .int .i64 t.tx]
theorem len (t : Request) : t.enc.length = 5 := rfl
theorem tak (t : Request) : t.enc.take 5 = t.enc := rfl
def none_ : Request := ⟨0, 0, 0, 0, 0⟩
/-- The numbers are those of the machine. -/
structure Ok (t : Request) : Prop where
  epoch : -9223372036854775808 ≤ t.epoch ∧ t.epoch ≤ 9223372036854775807
  op : -9223372036854775808 ≤ t.op ∧ t.op ≤ 9223372036854775807
  id : 0 ≤ t.id ∧ t.id ≤ 18446744073709551615
  amount : 0 ≤ t.amount ∧ t.amount ≤ 18446744073709551615
  tx : -9223372036854775808 ≤ t.tx ∧ t.tx ≤ 9223372036854775807
end Request
theorem Wf.isRequest {h : Heap} {n : Nat} {cs : List Cell} (w : Wf h (n + 2) shRequest cs) : ∃ t : Request, cs = t.enc ∧ t.Ok := by
  obtain ⟨_, _, rfl, _, ⟨epoch0, rfl, h0⟩, _, _, rfl, _, ⟨op0, rfl, h1⟩, _, _, rfl, _, ⟨id0, rfl, h2⟩, _, _, rfl, _, ⟨amount0, rfl, h3⟩, _, _, rfl, _, ⟨tx0, rfl, h4⟩, rfl⟩ := w
  exact ⟨⟨epoch0, op0, id0, amount0, tx0⟩, rfl, ⟨wfI h0, wfI h1, wfU h2, wfU h3, wfI h4⟩⟩
end Go.Proofs.Ytcdlbjomdokmiaa.A
/- The compact code of some functions: laws.eqRequestS, laws.markRequestS, laws.heldRequestS, laws.eqRequest, laws.toRequest. -/
namespace Go.Proofs.Ytcdlbjomdokmiaa.A
open Go
/-- A loop of laws.eqRequestS. -/
def r48L0 : RC :=
 .seq (.seq (.reg [⟨none, .mov 11 (.t 5)⟩,
      ⟨none, .mov 12 (.t 0)⟩,
      ⟨none, .len 13 (.t 12)⟩,
      ⟨none, .bin 14 .lss (.t 11) (.t 13)⟩])
     (.cond (.t 14)
     (.skip)
     (.exit 0)))
    (.seq (.block 1 (.seq (.reg [⟨none, .chk []⟩,
       ⟨none, .mov 17 (.t 0)⟩,
       ⟨none, .mov 18 (.t 5)⟩,
       ⟨none, .idx 19 3 (.t 17) (.t 18)⟩,
       ⟨none, .mov 21 (.t 1)⟩,
       ⟨none, .mov 22 (.t 5)⟩,
       ⟨none, .idx 23 3 (.t 21) (.t 22)⟩,
       ⟨none, .load 20 19 5 true⟩,
       ⟨none, .load 24 23 5 true⟩,
       ⟨none, .call (some 25) 99 [(.t 20), (.t 24)] true⟩,
       ⟨none, .not 26 (.t 25)⟩])
      (.cond (.t 26)
      (.seq (.reg [⟨none, .mov 4 (.k (.bool false))⟩])
       (.ret))
      (.skip))))
    (.reg [⟨none, .mov 15 (.t 5)⟩,
    ⟨none, .bin 16 .add (.t 15) (.k (.int .i64 1))⟩,
    ⟨none, .mov 5 (.t 16)⟩]))
/-- laws.eqRequestS -/
def r48 : RF :=
 ⟨2, [.tmp 4],
 .seq (.reg [⟨none, .mov 4 (.k (.bool false))⟩])
 (.seq (.seq (.reg [⟨none, .mov 6 (.t 0)⟩,
   ⟨none, .len 7 (.t 6)⟩,
   ⟨none, .mov 8 (.t 1)⟩,
   ⟨none, .len 9 (.t 8)⟩,
   ⟨none, .bin 10 .neq (.t 7) (.t 9)⟩])
  (.cond (.t 10)
  (.seq (.reg [⟨none, .mov 4 (.k (.bool false))⟩])
   (.ret))
  (.skip)))
 (.seq (.seq (.reg [⟨none, .mov 5 (.k (.int .i64 0))⟩])
  (.block 0 (.loop [0, 1, 5]
   r48L0)))
 (.seq (.reg [⟨none, .mov 4 (.k (.bool true))⟩])
 (.ret))))⟩
/-- A loop of laws.markRequestS. -/
def r49L0 : RC :=
 .seq (.seq (.reg [⟨none, .mov 6 (.t 5)⟩,
      ⟨none, .mov 7 (.t 0)⟩,
      ⟨none, .len 8 (.t 7)⟩,
      ⟨none, .bin 9 .lss (.t 6) (.t 8)⟩])
     (.cond (.t 9)
     (.skip)
     (.exit 0)))
    (.seq (.block 1 (.seq (.reg [⟨none, .mov 12 (.t 0)⟩,
       ⟨none, .mov 13 (.t 5)⟩,
       ⟨none, .mov 14 (.t 1)⟩,
       ⟨none, .idx 15 3 (.t 12) (.t 13)⟩,
       ⟨none, .fad 16 15 0⟩,
       ⟨none, .store 16 1 (.t 14)⟩])
      (.seq (.reg [⟨none, .mov 17 (.t 1)⟩,
       ⟨none, .bin 18 .add (.t 17) (.k (.int .i64 1))⟩,
       ⟨none, .mov 1 (.t 18)⟩])
      (.seq (.reg [⟨none, .mov 19 (.t 0)⟩,
       ⟨none, .mov 20 (.t 5)⟩,
       ⟨none, .mov 21 (.t 1)⟩,
       ⟨none, .idx 22 3 (.t 19) (.t 20)⟩,
       ⟨none, .fad 23 22 1⟩,
       ⟨none, .store 23 1 (.t 21)⟩])
      (.seq (.reg [⟨none, .mov 24 (.t 1)⟩,
       ⟨none, .bin 25 .add (.t 24) (.k (.int .i64 1))⟩,
       ⟨none, .mov 1 (.t 25)⟩])
      (.seq (.reg [⟨none, .mov 26 (.t 0)⟩,
       ⟨none, .mov 27 (.t 5)⟩,
       ⟨none, .mov 28 (.t 1)⟩,
       ⟨none, .conv 29 .u64 (.t 28)⟩,
       ⟨none, .idx 30 3 (.t 26) (.t 27)⟩,
       ⟨none, .fad 31 30 2⟩,
       ⟨none, .store 31 1 (.t 29)⟩])
      (.seq (.reg [⟨none, .mov 32 (.t 1)⟩,
       ⟨none, .bin 33 .add (.t 32) (.k (.int .i64 1))⟩,
       ⟨none, .mov 1 (.t 33)⟩])
      (.seq (.reg [⟨none, .mov 34 (.t 0)⟩,
       ⟨none, .mov 35 (.t 5)⟩,
       ⟨none, .mov 36 (.t 1)⟩,
       ⟨none, .conv 37 .u64 (.t 36)⟩,
       ⟨none, .idx 38 3 (.t 34) (.t 35)⟩,
       ⟨none, .fad 39 38 3⟩,
       ⟨none, .store 39 1 (.t 37)⟩])
      (.seq (.reg [⟨none, .mov 40 (.t 1)⟩,
       ⟨none, .bin 41 .add (.t 40) (.k (.int .i64 1))⟩,
       ⟨none, .mov 1 (.t 41)⟩])
      (.seq (.reg [⟨none, .mov 42 (.t 0)⟩,
       ⟨none, .mov 43 (.t 5)⟩,
       ⟨none, .mov 44 (.t 1)⟩,
       ⟨none, .idx 45 3 (.t 42) (.t 43)⟩,
       ⟨none, .fad 46 45 4⟩,
       ⟨none, .store 46 1 (.t 44)⟩])
      (.reg [⟨none, .mov 47 (.t 1)⟩,
      ⟨none, .bin 48 .add (.t 47) (.k (.int .i64 1))⟩,
      ⟨none, .mov 1 (.t 48)⟩])))))))))))
    (.reg [⟨none, .mov 10 (.t 5)⟩,
    ⟨none, .bin 11 .add (.t 10) (.k (.int .i64 1))⟩,
    ⟨none, .mov 5 (.t 11)⟩]))
/-- laws.markRequestS -/
def r49 : RF :=
 ⟨2, [.tmp 4],
 .seq (.reg [⟨none, .mov 4 (.k (.int .i64 0))⟩])
 (.seq (.seq (.reg [⟨none, .mov 5 (.k (.int .i64 0))⟩])
  (.block 0 (.loop [0, 1, 5]
   r49L0)))
 (.seq (.reg [⟨none, .mov 49 (.t 1)⟩,
  ⟨none, .mov 4 (.t 49)⟩])
 (.ret)))⟩
/-- A loop of laws.heldRequestS. -/
def r50L0 : RC :=
 .seq (.seq (.reg [⟨none, .mov 6 (.t 5)⟩,
      ⟨none, .mov 7 (.t 0)⟩,
      ⟨none, .len 8 (.t 7)⟩,
      ⟨none, .bin 9 .lss (.t 6) (.t 8)⟩])
     (.cond (.t 9)
     (.skip)
     (.exit 0)))
    (.seq (.block 1 (.seq (.seq (.reg [⟨none, .mov 12 (.t 0)⟩,
        ⟨none, .mov 13 (.t 5)⟩,
        ⟨none, .idx 14 3 (.t 12) (.t 13)⟩,
        ⟨none, .fad 15 14 0⟩,
        ⟨none, .load 16 15 1 false⟩,
        ⟨none, .mov 17 (.t 1)⟩,
        ⟨none, .bin 18 .neq (.t 16) (.t 17)⟩])
       (.cond (.t 18)
       (.seq (.reg [⟨none, .mov 4 (.k (.int .i64 (-1)))⟩])
        (.ret))
       (.skip)))
      (.seq (.reg [⟨none, .mov 19 (.t 1)⟩,
       ⟨none, .bin 20 .add (.t 19) (.k (.int .i64 1))⟩,
       ⟨none, .mov 1 (.t 20)⟩])
      (.seq (.seq (.reg [⟨none, .mov 21 (.t 0)⟩,
        ⟨none, .mov 22 (.t 5)⟩,
        ⟨none, .idx 23 3 (.t 21) (.t 22)⟩,
        ⟨none, .fad 24 23 1⟩,
        ⟨none, .load 25 24 1 false⟩,
        ⟨none, .mov 26 (.t 1)⟩,
        ⟨none, .bin 27 .neq (.t 25) (.t 26)⟩])
       (.cond (.t 27)
       (.seq (.reg [⟨none, .mov 4 (.k (.int .i64 (-1)))⟩])
        (.ret))
       (.skip)))
      (.seq (.reg [⟨none, .mov 28 (.t 1)⟩,
       ⟨none, .bin 29 .add (.t 28) (.k (.int .i64 1))⟩,
       ⟨none, .mov 1 (.t 29)⟩])
      (.seq (.seq (.reg [⟨none, .mov 30 (.t 0)⟩,
        ⟨none, .mov 31 (.t 5)⟩,
        ⟨none, .idx 32 3 (.t 30) (.t 31)⟩,
        ⟨none, .fad 33 32 2⟩,
        ⟨none, .load 34 33 1 false⟩,
        ⟨none, .mov 35 (.t 1)⟩,
        ⟨none, .conv 36 .u64 (.t 35)⟩,
        ⟨none, .bin 37 .neq (.t 34) (.t 36)⟩])
       (.cond (.t 37)
       (.seq (.reg [⟨none, .mov 4 (.k (.int .i64 (-1)))⟩])
        (.ret))
       (.skip)))
      (.seq (.reg [⟨none, .mov 38 (.t 1)⟩,
       ⟨none, .bin 39 .add (.t 38) (.k (.int .i64 1))⟩,
       ⟨none, .mov 1 (.t 39)⟩])
      (.seq (.seq (.reg [⟨none, .mov 40 (.t 0)⟩,
        ⟨none, .mov 41 (.t 5)⟩,
        ⟨none, .idx 42 3 (.t 40) (.t 41)⟩,
        ⟨none, .fad 43 42 3⟩,
        ⟨none, .load 44 43 1 false⟩,
        ⟨none, .mov 45 (.t 1)⟩,
        ⟨none, .conv 46 .u64 (.t 45)⟩,
        ⟨none, .bin 47 .neq (.t 44) (.t 46)⟩])
       (.cond (.t 47)
       (.seq (.reg [⟨none, .mov 4 (.k (.int .i64 (-1)))⟩])
        (.ret))
       (.skip)))
      (.seq (.reg [⟨none, .mov 48 (.t 1)⟩,
       ⟨none, .bin 49 .add (.t 48) (.k (.int .i64 1))⟩,
       ⟨none, .mov 1 (.t 49)⟩])
      (.seq (.seq (.reg [⟨none, .mov 50 (.t 0)⟩,
        ⟨none, .mov 51 (.t 5)⟩,
        ⟨none, .idx 52 3 (.t 50) (.t 51)⟩,
        ⟨none, .fad 53 52 4⟩,
        ⟨none, .load 54 53 1 false⟩,
        ⟨none, .mov 55 (.t 1)⟩,
        ⟨none, .bin 56 .neq (.t 54) (.t 55)⟩])
       (.cond (.t 56)
       (.seq (.reg [⟨none, .mov 4 (.k (.int .i64 (-1)))⟩])
        (.ret))
       (.skip)))
      (.reg [⟨none, .mov 57 (.t 1)⟩,
      ⟨none, .bin 58 .add (.t 57) (.k (.int .i64 1))⟩,
      ⟨none, .mov 1 (.t 58)⟩])))))))))))
    (.reg [⟨none, .mov 10 (.t 5)⟩,
    ⟨none, .bin 11 .add (.t 10) (.k (.int .i64 1))⟩,
    ⟨none, .mov 5 (.t 11)⟩]))
/-- laws.heldRequestS -/
def r50 : RF :=
 ⟨2, [.tmp 4],
 .seq (.reg [⟨none, .mov 4 (.k (.int .i64 0))⟩])
 (.seq (.seq (.reg [⟨none, .mov 5 (.k (.int .i64 0))⟩])
  (.block 0 (.loop [0, 1, 5]
   r50L0)))
 (.seq (.reg [⟨none, .mov 59 (.t 1)⟩,
  ⟨none, .mov 4 (.t 59)⟩])
 (.ret)))⟩
/-- laws.eqRequest -/
def r99 : RF :=
 ⟨2, [.tmp 4],
 .seq (.reg [⟨none, .locb 2 (.t 0)⟩,
  ⟨none, .locb 3 (.t 1)⟩,
  ⟨none, .mov 4 (.k (.bool false))⟩])
 (.seq (.seq (.reg [⟨none, .fad 5 2 0⟩,
   ⟨none, .load 6 5 1 false⟩,
   ⟨none, .fad 7 3 0⟩,
   ⟨none, .load 8 7 1 false⟩,
   ⟨none, .bin 9 .neq (.t 6) (.t 8)⟩])
  (.cond (.t 9)
  (.seq (.reg [⟨none, .mov 4 (.k (.bool false))⟩])
   (.ret))
  (.skip)))
 (.seq (.seq (.reg [⟨none, .fad 10 2 1⟩,
   ⟨none, .load 11 10 1 false⟩,
   ⟨none, .fad 12 3 1⟩,
   ⟨none, .load 13 12 1 false⟩,
   ⟨none, .bin 14 .neq (.t 11) (.t 13)⟩])
  (.cond (.t 14)
  (.seq (.reg [⟨none, .mov 4 (.k (.bool false))⟩])
   (.ret))
  (.skip)))
 (.seq (.seq (.reg [⟨none, .fad 15 2 2⟩,
   ⟨none, .load 16 15 1 false⟩,
   ⟨none, .fad 17 3 2⟩,
   ⟨none, .load 18 17 1 false⟩,
   ⟨none, .bin 19 .neq (.t 16) (.t 18)⟩])
  (.cond (.t 19)
  (.seq (.reg [⟨none, .mov 4 (.k (.bool false))⟩])
   (.ret))
  (.skip)))
 (.seq (.seq (.reg [⟨none, .fad 20 2 3⟩,
   ⟨none, .load 21 20 1 false⟩,
   ⟨none, .fad 22 3 3⟩,
   ⟨none, .load 23 22 1 false⟩,
   ⟨none, .bin 24 .neq (.t 21) (.t 23)⟩])
  (.cond (.t 24)
  (.seq (.reg [⟨none, .mov 4 (.k (.bool false))⟩])
   (.ret))
  (.skip)))
 (.seq (.seq (.reg [⟨none, .fad 25 2 4⟩,
   ⟨none, .load 26 25 1 false⟩,
   ⟨none, .fad 27 3 4⟩,
   ⟨none, .load 28 27 1 false⟩,
   ⟨none, .bin 29 .neq (.t 26) (.t 28)⟩])
  (.cond (.t 29)
  (.seq (.reg [⟨none, .mov 4 (.k (.bool false))⟩])
   (.ret))
  (.skip)))
 (.seq (.reg [⟨none, .mov 4 (.k (.bool true))⟩])
 (.ret)))))))⟩
/-- laws.toRequest -/
def r109 : RF :=
 ⟨1, [.cell 2 5 true],
 .seq (.reg [⟨none, .locb 1 (.t 0)⟩,
  ⟨none, .loc 2 [.int .i64 0, .int .i64 0, .int .u64 0, .int .u64 0, .int .i64 0]⟩])
 (.seq (.reg [⟨none, .loc 3 [.int .i64 0, .int .i64 0, .int .u64 0, .int .u64 0, .int .i64 0]⟩])
 (.seq (.reg [⟨none, .fad 4 1 0⟩,
  ⟨none, .load 5 4 1 false⟩,
  ⟨none, .fad 6 3 0⟩,
  ⟨none, .store 6 1 (.t 5)⟩])
 (.seq (.reg [⟨none, .fad 7 1 1⟩,
  ⟨none, .load 8 7 1 false⟩,
  ⟨none, .fad 9 3 1⟩,
  ⟨none, .store 9 1 (.t 8)⟩])
 (.seq (.reg [⟨none, .fad 10 1 2⟩,
  ⟨none, .load 11 10 1 false⟩,
  ⟨none, .fad 12 3 2⟩,
  ⟨none, .store 12 1 (.t 11)⟩])
 (.seq (.reg [⟨none, .fad 13 1 3⟩,
  ⟨none, .load 14 13 1 false⟩,
  ⟨none, .fad 15 3 3⟩,
  ⟨none, .store 15 1 (.t 14)⟩])
 (.seq (.reg [⟨none, .fad 16 1 4⟩,
  ⟨none, .load 17 16 1 false⟩,
  ⟨none, .fad 18 3 4⟩,
  ⟨none, .store 18 1 (.t 17)⟩])
 (.seq (.reg [⟨none, .load 19 3 5 true⟩,
  ⟨none, .store 2 5 (.t 19)⟩])
 (.ret))))))))⟩
/-- The functions of this text, with their numbers. -/
def tLRequest : List (Nat × RF) := [(48, r48), (49, r49), (50, r50), (99, r99), (109, r109)]
end Go.Proofs.Ytcdlbjomdokmiaa.A
/- What the converters of Request compute. -/
namespace Go.Proofs.Ytcdlbjomdokmiaa.A
open Go
set_option linter.unusedSimpArgs false
set_option linter.unusedVariables false
section
variable {F : Nat → Option RF} {Z : CallF} {h : Heap} {x y : Cell} {xs ys : List Request} {fp fq : List Nat}
def Request.zero : List Cell := [.int .i64 0, .int .i64 0, .int .u64 0, .int .u64 0, .int .i64 0]
theorem toRequest_run (hL : Has F tLRequest) (p : Request) (h : Heap) : call F Z 109 [.agg p.enc] h = some (.agg p.enc, h) := by
  rw [call_run F Z (hL.lk (g := 109) rfl) _ _ rfl]
  simp only [Request.enc, run0, run1, run2, run3, run4, noSlot, ownS, ownK, memN, RO.dst, lk, drop, forget, number, Nat.reduceBEq, cut?, splice?, builds, List.length_cons, List.length_nil, List.drop_succ_cons, List.drop_zero, List.take_succ_cons, List.take_zero, List.cons_append, List.nil_append, List.append_nil, List.drop_nil, List.take_nil, Nat.reduceAdd, Nat.reduceLeDiff, Nat.zero_add, Nat.add_zero, ↓reduceIte, Bool.not_true, Bool.not_false, decide_true, decide_false, eq_self, bne_self_eq_false, List.getElem?_cons_zero, List.getElem?_cons_succ, decide_eq_true_eq, Bool.false_eq_true, Bool.true_eq_false, reduceCtorEq, Nat.le_refl]
set_option maxHeartbeats 1000000 in
theorem eqRequest_run (hL : Has F tLRequest) (p q : Request) (h : Heap) : call F Z 99 [.agg p.enc, .agg q.enc] h = some (.c (.bool (decide (p = q))), h) := by
  rw [call_run F Z (hL.lk (g := 99) rfl) _ _ rfl]
  obtain ⟨epoch1, op1, id1, amount1, tx1⟩ := p
  obtain ⟨epoch2, op2, id2, amount2, tx2⟩ := q
  simp only [Request.enc, run0, run1, run2, run3, run4, noSlot, ownS, ownK, memN, RO.dst, lk, drop, forget, number, Nat.reduceBEq, cut?, splice?, builds, List.length_cons, List.length_nil, List.drop_succ_cons, List.drop_zero, List.take_succ_cons, List.take_zero, List.cons_append, List.nil_append, List.append_nil, List.drop_nil, List.take_nil, Nat.reduceAdd, Nat.reduceLeDiff, Nat.zero_add, Nat.add_zero, ↓reduceIte, Bool.not_true, Bool.not_false, decide_true, decide_false, eq_self, bne_self_eq_false, List.getElem?_cons_zero, List.getElem?_cons_succ, decide_eq_true_eq, Bool.false_eq_true, Bool.true_eq_false, reduceCtorEq, Nat.le_refl]
  (repeat' ((first | (rw [gF_if]; split) | (rw [condC_if]; split) | (rw [pickR_if]; split)) <;> (rename_i hh; (try simp only [Bool.not_eq_true, decide_eq_true_eq] at hh); simp only [hh, run0, run1, run2, run3, run4, noSlot, ownS, ownK, memN, RO.dst, lk, drop, forget, number, Nat.reduceBEq, cut?, splice?, builds, List.length_cons, List.length_nil, List.drop_succ_cons, List.drop_zero, List.take_succ_cons, List.take_zero, List.cons_append, List.nil_append, List.append_nil, List.drop_nil, List.take_nil, Nat.reduceAdd, Nat.reduceLeDiff, Nat.zero_add, Nat.add_zero, ↓reduceIte, Bool.not_true, Bool.not_false, decide_true, decide_false, eq_self, bne_self_eq_false, List.getElem?_cons_zero, List.getElem?_cons_succ, decide_eq_true_eq, Bool.false_eq_true, Bool.true_eq_false, reduceCtorEq, Nat.le_refl]))) <;> refine fin_bool ?_ <;> simp_all
theorem toRequest_lit (hL : Has F tLRequest) (epoch1 op1 id1 amount1 tx1 : Int) (h : Heap) : call F Z 109 [.agg [.int .i64 epoch1, .int .i64 op1, .int .u64 id1, .int .u64 amount1, .int .i64 tx1]] h = some (.agg [.int .i64 epoch1, .int .i64 op1, .int .u64 id1, .int .u64 amount1, .int .i64 tx1], h) := toRequest_run hL ⟨epoch1, op1, id1, amount1, tx1⟩ h
theorem eqRequest_lit (hL : Has F tLRequest) (epoch1 op1 id1 amount1 tx1 epoch2 op2 id2 amount2 tx2 : Int) (h : Heap) : call F Z 99 [.agg [.int .i64 epoch1, .int .i64 op1, .int .u64 id1, .int .u64 amount1, .int .i64 tx1], .agg [.int .i64 epoch2, .int .i64 op2, .int .u64 id2, .int .u64 amount2, .int .i64 tx2]] h = some (.c (.bool (decide ((⟨epoch1, op1, id1, amount1, tx1⟩ : Request) = ⟨epoch2, op2, id2, amount2, tx2⟩))), h) := eqRequest_run hL ⟨epoch1, op1, id1, amount1, tx1⟩ ⟨epoch2, op2, id2, amount2, tx2⟩ h
theorem eqRequestS_run (hL : Has F tLRequest) (w : SlR 3 (Fl Request.enc) h x xs fp) (v : SlR 3 (Fl Request.enc) h y ys fq) : call F Z 48 [.c x, .c y] h = some (.c (.bool (decide (xs = ys))), h) := by
  have hw := w.le2
  have hv := v.le2
  rw [call_run F Z (hL.lk (g := 48) rfl) _ _ rfl]
  simp only [run0, run1, run2, run3, run4, noSlot, ownS, ownK, memN, RO.dst, lk, drop, forget, number, Nat.reduceBEq, cut?, splice?, builds, List.length_cons, List.length_nil, List.drop_succ_cons, List.drop_zero, List.take_succ_cons, List.take_zero, List.cons_append, List.nil_append, List.append_nil, List.drop_nil, List.take_nil, Nat.reduceAdd, Nat.reduceLeDiff, Nat.zero_add, Nat.add_zero, ↓reduceIte, Bool.not_true, Bool.not_false, decide_true, decide_false, eq_self, bne_self_eq_false, List.getElem?_cons_zero, List.getElem?_cons_succ, decide_eq_true_eq, Bool.false_eq_true, Bool.true_eq_false, reduceCtorEq, Nat.le_refl, w.len, v.len]
  rw [condC_if]
  split
  · rename_i hne
    have : xs ≠ ys := by rintro rfl; simp at hne
    simp only [run0, run1, run2, run3, run4, noSlot, ownS, ownK, memN, RO.dst, lk, drop, forget, number, Nat.reduceBEq, cut?, splice?, builds, List.length_cons, List.length_nil, List.drop_succ_cons, List.drop_zero, List.take_succ_cons, List.take_zero, List.cons_append, List.nil_append, List.append_nil, List.drop_nil, List.take_nil, Nat.reduceAdd, Nat.reduceLeDiff, Nat.zero_add, Nat.add_zero, ↓reduceIte, Bool.not_true, Bool.not_false, decide_true, decide_false, eq_self, bne_self_eq_false, List.getElem?_cons_zero, List.getElem?_cons_succ, decide_eq_true_eq, Bool.false_eq_true, Bool.true_eq_false, reduceCtorEq, Nat.le_refl, this]
  · rename_i he
    have he : xs.length = ys.length := by simp at he; omega
    simp only [run0, run1, run2, run3, run4, noSlot, ownS, ownK, memN, RO.dst, lk, drop, forget, number, Nat.reduceBEq, cut?, splice?, builds, List.length_cons, List.length_nil, List.drop_succ_cons, List.drop_zero, List.take_succ_cons, List.take_zero, List.cons_append, List.nil_append, List.append_nil, List.drop_nil, List.take_nil, Nat.reduceAdd, Nat.reduceLeDiff, Nat.zero_add, Nat.add_zero, ↓reduceIte, Bool.not_true, Bool.not_false, decide_true, decide_false, eq_self, bne_self_eq_false, List.getElem?_cons_zero, List.getElem?_cons_succ, decide_eq_true_eq, Bool.false_eq_true, Bool.true_eq_false, reduceCtorEq, Nat.le_refl]
    have key := loop_allN (F := F) (Z := Z) (live := [0, 1, 5]) (b := r48L0) xs.length (fun i => ⟨[(0, .c x), (1, .c y), (5, .c (.int .i64 (i : Nat)))], [], [], h⟩) (fun i => decide (xs[i]? = ys[i]?)) (fun s => lk s.env 4 = some (.c (.bool false)) ∧ s.hp = h) fun i hi => by
      have hi' : i < ys.length := by omega
      have hlt : (i : Int) < xs.length := by omega
      rw [loop_run]
      simp only [r48L0, run0, run1, run2, run3, run4, noSlot, ownS, ownK, memN, RO.dst, lk, drop, forget, number, Nat.reduceBEq, cut?, splice?, builds, List.length_cons, List.length_nil, List.drop_succ_cons, List.drop_zero, List.take_succ_cons, List.take_zero, List.cons_append, List.nil_append, List.append_nil, List.drop_nil, List.take_nil, Nat.reduceAdd, Nat.reduceLeDiff, Nat.zero_add, Nat.add_zero, ↓reduceIte, Bool.not_true, Bool.not_false, decide_true, decide_false, eq_self, bne_self_eq_false, List.getElem?_cons_zero, List.getElem?_cons_succ, decide_eq_true_eq, Bool.false_eq_true, Bool.true_eq_false, reduceCtorEq, Nat.le_refl, w.len, hlt, w.idx hi, v.idx hi', w.load hi, v.load hi', Request.len, Request.tak, eqRequest_run hL, wrapS i (by omega)]
      rw [List.getElem?_eq_getElem hi, List.getElem?_eq_getElem hi']
      (repeat' ((first | (rw [gF_if]; split) | (rw [condC_if]; split) | (rw [pickR_if]; split)) <;> (rename_i hh; (try simp only [Bool.not_eq_true, decide_eq_true_eq] at hh); simp only [hh, run0, run1, run2, run3, run4, noSlot, ownS, ownK, memN, RO.dst, lk, drop, forget, number, Nat.reduceBEq, cut?, splice?, builds, List.length_cons, List.length_nil, List.drop_succ_cons, List.drop_zero, List.take_succ_cons, List.take_zero, List.cons_append, List.nil_append, List.append_nil, List.drop_nil, List.take_nil, Nat.reduceAdd, Nat.reduceLeDiff, Nat.zero_add, Nat.add_zero, ↓reduceIte, Bool.not_true, Bool.not_false, decide_true, decide_false, eq_self, bne_self_eq_false, List.getElem?_cons_zero, List.getElem?_cons_succ, decide_eq_true_eq, Bool.false_eq_true, Bool.true_eq_false, reduceCtorEq, Nat.le_refl, wrapS i (by omega)])))
      · exact .inr ⟨by simp_all, _, rfl, rfl, rfl⟩
      · exact .inl ⟨by simp_all, rfl⟩
    rw [all_same he] at key
    rcases key with ⟨k1, k2⟩ | ⟨k1, s, k2, k3, k4⟩
    · simp only [show ((0 : Nat) : Int) = 0 from rfl] at k2
      rw [k2, loop_run]
      have hlt : ¬ (xs.length : Int) < xs.length := by omega
      simp only [r48L0, run0, run1, run2, run3, run4, noSlot, ownS, ownK, memN, RO.dst, lk, drop, forget, number, Nat.reduceBEq, cut?, splice?, builds, List.length_cons, List.length_nil, List.drop_succ_cons, List.drop_zero, List.take_succ_cons, List.take_zero, List.cons_append, List.nil_append, List.append_nil, List.drop_nil, List.take_nil, Nat.reduceAdd, Nat.reduceLeDiff, Nat.zero_add, Nat.add_zero, ↓reduceIte, Bool.not_true, Bool.not_false, decide_true, decide_false, eq_self, bne_self_eq_false, List.getElem?_cons_zero, List.getElem?_cons_succ, decide_eq_true_eq, Bool.false_eq_true, Bool.true_eq_false, reduceCtorEq, Nat.le_refl, w.len, hlt, k1]
    · simp only [show ((0 : Nat) : Int) = 0 from rfl] at k2
      rw [k2]
      simp only [run0, run1, run2, run3, run4, noSlot, ownS, ownK, memN, RO.dst, lk, drop, forget, number, Nat.reduceBEq, cut?, splice?, builds, List.length_cons, List.length_nil, List.drop_succ_cons, List.drop_zero, List.take_succ_cons, List.take_zero, List.cons_append, List.nil_append, List.append_nil, List.drop_nil, List.take_nil, Nat.reduceAdd, Nat.reduceLeDiff, Nat.zero_add, Nat.add_zero, ↓reduceIte, Bool.not_true, Bool.not_false, decide_true, decide_false, eq_self, bne_self_eq_false, List.getElem?_cons_zero, List.getElem?_cons_succ, decide_eq_true_eq, Bool.false_eq_true, Bool.true_eq_false, reduceCtorEq, Nat.le_refl, k3, k4, k1]
/-- What is written to mark one. -/
def Request.mk_ (k : Int) : Request := ⟨k, k + 1, k + 1 + 1, k + 1 + 1 + 1, k + 1 + 1 + 1 + 1⟩
def Request.marks (n : Nat) (k : Int) : List Request := (List.range n).map fun i : Nat => Request.mk_ (k + 5 * (i : Int))
theorem Request.marks_len (n : Nat) (k : Int) : (Request.marks n k).length = n := by simp [Request.marks]
set_option maxHeartbeats 1000000 in
theorem markRequestS_run (hL : Has F tLRequest) (w : SlR 3 (Fl Request.enc) h x xs fp) (hlo : ∀ id, id ∈ fp → h.floor ≤ id) (k : Int) (h1 : 0 ≤ k) (h2 : k + 5 * xs.length ≤ 9200000000000000000) :
    ∃ h', call F Z 49 [.c x, .c (.int .i64 k)] h = some (.c (.int .i64 (k + 5 * xs.length)), h') ∧ Mk h h' fp ∧ SlR 3 (Fl Request.enc) h' x (Request.marks xs.length k) fp := by
  have hle := w.le2
  have hlm := Request.marks_len xs.length k
  rw [call_run F Z (hL.lk (g := 49) rfl) _ _ rfl]
  simp only [run0, run1, run2, run3, run4, noSlot, ownS, ownK, memN, RO.dst, lk, drop, forget, number, Nat.reduceBEq, cut?, splice?, builds, List.length_cons, List.length_nil, List.drop_succ_cons, List.drop_zero, List.take_succ_cons, List.take_zero, List.cons_append, List.nil_append, List.append_nil, List.drop_nil, List.take_nil, Nat.reduceAdd, Nat.reduceLeDiff, Nat.zero_add, Nat.add_zero, ↓reduceIte, Bool.not_true, Bool.not_false, decide_true, decide_false, eq_self, bne_self_eq_false, List.getElem?_cons_zero, List.getElem?_cons_succ, decide_eq_true_eq, Bool.false_eq_true, Bool.true_eq_false, reduceCtorEq, Nat.le_refl]
  rcases w.flat with ⟨rfl, rfl, rfl⟩ | ⟨hx, hg, hn, rfl⟩
  · rw [loop_run]
    simp only [r49L0, run0, run1, run2, run3, run4, noSlot, ownS, ownK, memN, RO.dst, lk, drop, forget, number, Nat.reduceBEq, cut?, splice?, builds, List.length_cons, List.length_nil, List.drop_succ_cons, List.drop_zero, List.take_succ_cons, List.take_zero, List.cons_append, List.nil_append, List.append_nil, List.drop_nil, List.take_nil, Nat.reduceAdd, Nat.reduceLeDiff, Nat.zero_add, Nat.add_zero, ↓reduceIte, Bool.not_true, Bool.not_false, decide_true, decide_false, eq_self, bne_self_eq_false, List.getElem?_cons_zero, List.getElem?_cons_succ, decide_eq_true_eq, Bool.false_eq_true, Bool.true_eq_false, reduceCtorEq, Nat.le_refl, show ¬ ((0 : Int) < 0) from by omega]
    exact ⟨h, by simp, Mk.refl _ _, by simpa [Request.marks] using w⟩
  · have hfl : h.floor ≤ x.sid := hlo _ (by simp)
    have key : loop F Z [0, 1, 5] r49L0 ⟨[(0, .c x), (1, .c (.int .i64 (k + 5 * (0 : Nat)))), (5, .c (.int .i64 (0 : Nat)))], [], [], h.put x.sid (mixR Request.enc (Request.marks xs.length k) xs 0)⟩ = loop F Z [0, 1, 5] r49L0 ⟨[(0, .c x), (1, .c (.int .i64 (k + 5 * (xs.length : Nat)))), (5, .c (.int .i64 (xs.length : Nat)))], [], [], h.put x.sid (mixR Request.enc (Request.marks xs.length k) xs xs.length)⟩ :=
      loop_goesF xs.length (fun i => ⟨[(0, .c x), (1, .c (.int .i64 (k + 5 * (i : Nat)))), (5, .c (.int .i64 (i : Nat)))], [], [], h.put x.sid (mixR Request.enc (Request.marks xs.length k) xs i)⟩) fun i hi => by
        have hlt : (i : Int) < xs.length := by omega
        have hi2 : i < (mixR Request.enc (Request.marks xs.length k) xs i).length := by rw [mixR_len _ hlm]; exact hi
        have hms : (Request.marks xs.length k)[i]'(by omega) = Request.mk_ (k + 5 * i) := by simp [Request.marks]
        have hset := mixR_set Request.enc hlm hi
        rw [hms] at hset
        have hput := storeP_put (h := h) hfl hi2
        rw [← mixR_cur Request.enc hlm hi, ← hset, loop_run]
        simp (disch := omega) only [r49L0, run0, run1, run2, run3, run4, noSlot, ownS, ownK, memN, RO.dst, lk, drop, forget, number, Nat.reduceBEq, cut?, splice?, builds, List.length_cons, List.length_nil, List.drop_succ_cons, List.drop_zero, List.take_succ_cons, List.take_zero, List.cons_append, List.nil_append, List.append_nil, List.drop_nil, List.take_nil, Nat.reduceAdd, Nat.reduceLeDiff, Nat.zero_add, Nat.add_zero, ↓reduceIte, Bool.not_true, Bool.not_false, decide_true, decide_false, eq_self, bne_self_eq_false, List.getElem?_cons_zero, List.getElem?_cons_succ, decide_eq_true_eq, Bool.false_eq_true, Bool.true_eq_false, reduceCtorEq, Nat.le_refl, w.len, hlt, w.idx hi, hput, putM_s, wrapI1, wrapU1, Request.enc, Int.reduceEq, Request.mk_]
        rw [show k + 5 * ((i : Nat) : Int) + 1 + 1 + 1 + 1 + 1 = k + 5 * ((i + 1 : Nat) : Int) from by omega, show ((i : Nat) : Int) + 1 = ((i + 1 : Nat) : Int) from rfl]
    rw [mixR_0, put_same hg, mixR_n _ hlm] at key
    simp only [show ((0 : Nat) : Int) = 0 from rfl, Int.mul_zero, Int.add_zero] at key
    rw [key, loop_run]
    have hlt : ¬ (xs.length : Int) < xs.length := by omega
    simp only [r49L0, run0, run1, run2, run3, run4, noSlot, ownS, ownK, memN, RO.dst, lk, drop, forget, number, Nat.reduceBEq, cut?, splice?, builds, List.length_cons, List.length_nil, List.drop_succ_cons, List.drop_zero, List.take_succ_cons, List.take_zero, List.cons_append, List.nil_append, List.append_nil, List.drop_nil, List.take_nil, Nat.reduceAdd, Nat.reduceLeDiff, Nat.zero_add, Nat.add_zero, ↓reduceIte, Bool.not_true, Bool.not_false, decide_true, decide_false, eq_self, bne_self_eq_false, List.getElem?_cons_zero, List.getElem?_cons_succ, decide_eq_true_eq, Bool.false_eq_true, Bool.true_eq_false, reduceCtorEq, Nat.le_refl, w.len, hlt]
    refine ⟨_, rfl, Mk.put _ _ _, ?_⟩
    have := SlR.ofFlat (tag := 3) (h := h.put x.sid ((Request.marks xs.length k).map Request.enc)) (enc := Request.enc) (xs := Request.marks xs.length k) (id := x.sid) (by rw [hlm]; exact w.le) (by simp [Heap.put]) hn
    rw [hlm, ← hx] at this
    exact this
set_option maxHeartbeats 1000000 in
theorem heldRequestS_run (hL : Has F tLRequest) {n : Nat} {k : Int} (w : SlR 3 (Fl Request.enc) h x (Request.marks n k) fp) (h1 : 0 ≤ k) (h2 : k + 5 * n ≤ 9200000000000000000) :
    call F Z 50 [.c x, .c (.int .i64 k)] h = some (.c (.int .i64 (k + 5 * n)), h) := by
  have hle := w.le2
  have hwl := w.len
  rw [Request.marks_len] at hle hwl
  rw [call_run F Z (hL.lk (g := 50) rfl) _ _ rfl]
  simp only [run0, run1, run2, run3, run4, noSlot, ownS, ownK, memN, RO.dst, lk, drop, forget, number, Nat.reduceBEq, cut?, splice?, builds, List.length_cons, List.length_nil, List.drop_succ_cons, List.drop_zero, List.take_succ_cons, List.take_zero, List.cons_append, List.nil_append, List.append_nil, List.drop_nil, List.take_nil, Nat.reduceAdd, Nat.reduceLeDiff, Nat.zero_add, Nat.add_zero, ↓reduceIte, Bool.not_true, Bool.not_false, decide_true, decide_false, eq_self, bne_self_eq_false, List.getElem?_cons_zero, List.getElem?_cons_succ, decide_eq_true_eq, Bool.false_eq_true, Bool.true_eq_false, reduceCtorEq, Nat.le_refl]
  have key : loop F Z [0, 1, 5] r50L0 ⟨[(0, .c x), (1, .c (.int .i64 (k + 5 * (0 : Nat)))), (5, .c (.int .i64 (0 : Nat)))], [], [], h⟩ = loop F Z [0, 1, 5] r50L0 ⟨[(0, .c x), (1, .c (.int .i64 (k + 5 * (n : Nat)))), (5, .c (.int .i64 (n : Nat)))], [], [], h⟩ :=
    loop_goesF n (fun i => ⟨[(0, .c x), (1, .c (.int .i64 (k + 5 * (i : Nat)))), (5, .c (.int .i64 (i : Nat)))], [], [], h⟩) fun i hi0 => by
      have hi : i < (Request.marks n k).length := by rw [Request.marks_len]; exact hi0
      have hlt : (i : Int) < n := by omega
      have hms : (Request.marks n k)[i] = Request.mk_ (k + 5 * i) := by simp [Request.marks]
      have hld := w.load hi
      rw [hms] at hld
      rw [loop_run]
      simp (disch := omega) only [r50L0, run0, run1, run2, run3, run4, noSlot, ownS, ownK, memN, RO.dst, lk, drop, forget, number, Nat.reduceBEq, cut?, splice?, builds, List.length_cons, List.length_nil, List.drop_succ_cons, List.drop_zero, List.take_succ_cons, List.take_zero, List.cons_append, List.nil_append, List.append_nil, List.drop_nil, List.take_nil, Nat.reduceAdd, Nat.reduceLeDiff, Nat.zero_add, Nat.add_zero, ↓reduceIte, Bool.not_true, Bool.not_false, decide_true, decide_false, eq_self, bne_self_eq_false, List.getElem?_cons_zero, List.getElem?_cons_succ, decide_eq_true_eq, Bool.false_eq_true, Bool.true_eq_false, reduceCtorEq, Nat.le_refl, hwl, hlt, w.idx hi, hld, wrapI1, wrapU1, Request.enc, Request.mk_, Int.reduceEq]
      rw [show k + 5 * ((i : Nat) : Int) + 1 + 1 + 1 + 1 + 1 = k + 5 * ((i + 1 : Nat) : Int) from by omega, show ((i : Nat) : Int) + 1 = ((i + 1 : Nat) : Int) from rfl]
  simp only [show ((0 : Nat) : Int) = 0 from rfl, Int.mul_zero, Int.add_zero] at key
  rw [key, loop_run]
  have hlt : ¬ (n : Int) < n := by omega
  simp only [r50L0, run0, run1, run2, run3, run4, noSlot, ownS, ownK, memN, RO.dst, lk, drop, forget, number, Nat.reduceBEq, cut?, splice?, builds, List.length_cons, List.length_nil, List.drop_succ_cons, List.drop_zero, List.take_succ_cons, List.take_zero, List.cons_append, List.nil_append, List.append_nil, List.drop_nil, List.take_nil, Nat.reduceAdd, Nat.reduceLeDiff, Nat.zero_add, Nat.add_zero, ↓reduceIte, Bool.not_true, Bool.not_false, decide_true, decide_false, eq_self, bne_self_eq_false, List.getElem?_cons_zero, List.getElem?_cons_succ, decide_eq_true_eq, Bool.false_eq_true, Bool.true_eq_false, reduceCtorEq, Nat.le_refl, hwl, hlt]
end
end Go.Proofs.Ytcdlbjomdokmiaa.A
/- The compact code of some functions: laws.szClient, laws.toClient, laws.eqClient, laws.markClient, laws.heldClient. -/
namespace Go.Proofs.Ytcdlbjomdokmiaa.A
open Go
/-- laws.szClient -/
def r76 : RF :=
 ⟨2, [.tmp 4],
 .seq (.reg [⟨none, .locb 2 (.t 0)⟩,
  ⟨none, .mov 4 (.k (.int .i64 0))⟩])
 (.seq (.reg [⟨none, .fad 5 2 2⟩,
  ⟨none, .load 6 5 5 true⟩,
  ⟨none, .mov 7 (.t 1)⟩,
  ⟨none, .call (some 8) 67 [(.t 6), (.t 7)] false⟩,
  ⟨none, .mov 1 (.t 8)⟩])
 (.seq (.seq (.reg [⟨none, .mov 9 (.t 1)⟩,
   ⟨none, .bin 10 .lss (.t 9) (.k (.int .i64 0))⟩])
  (.cond (.t 10)
  (.seq (.reg [⟨none, .mov 4 (.k (.int .i64 (-1)))⟩])
   (.ret))
  (.skip)))
 (.seq (.reg [⟨none, .mov 11 (.t 1)⟩,
  ⟨none, .mov 4 (.t 11)⟩])
 (.ret))))⟩
/-- laws.toClient -/
def r77 : RF :=
 ⟨1, [.cell 2 14 true],
 .seq (.reg [⟨none, .locb 1 (.t 0)⟩,
  ⟨none, .loc 2 [.int .i64 0, .int .i64 0, .int .i64 0, .nil, .bool false, .int .u64 0, .int .i64 0, .bool false, .int .i64 0, .int .i64 0, .int .i64 0, .int .u64 0, .int .u64 0, .int .i64 0]⟩])
 (.seq (.reg [⟨none, .loc 3 [.int .i64 0, .int .i64 0, .int .i64 0, .nil, .bool false, .int .u64 0, .int .i64 0, .bool false, .int .i64 0, .int .i64 0, .int .i64 0, .int .u64 0, .int .u64 0, .int .i64 0]⟩])
 (.seq (.reg [⟨none, .fad 4 1 0⟩,
  ⟨none, .load 5 4 1 false⟩,
  ⟨none, .fad 6 3 0⟩,
  ⟨none, .store 6 1 (.t 5)⟩])
 (.seq (.reg [⟨none, .fad 7 1 1⟩,
  ⟨none, .load 8 7 1 false⟩,
  ⟨none, .fad 9 3 1⟩,
  ⟨none, .store 9 1 (.t 8)⟩])
 (.seq (.reg [⟨none, .fad 10 1 2⟩,
  ⟨none, .load 11 10 5 true⟩,
  ⟨none, .call (some 12) 68 [(.t 11)] false⟩,
  ⟨none, .fad 13 3 2⟩,
  ⟨none, .store 13 5 (.t 12)⟩])
 (.seq (.reg [⟨none, .fad 14 1 7⟩,
  ⟨none, .load 15 14 1 false⟩,
  ⟨none, .fad 16 3 7⟩,
  ⟨none, .store 16 1 (.t 15)⟩])
 (.seq (.reg [⟨none, .fad 17 1 8⟩,
  ⟨none, .load 18 17 1 false⟩,
  ⟨none, .fad 19 3 8⟩,
  ⟨none, .store 19 1 (.t 18)⟩])
 (.seq (.reg [⟨none, .fad 20 1 9⟩,
  ⟨none, .load 21 20 5 true⟩,
  ⟨none, .call (some 22) 109 [(.t 21)] false⟩,
  ⟨none, .fad 23 3 9⟩,
  ⟨none, .store 23 5 (.t 22)⟩])
 (.seq (.reg [⟨none, .load 24 3 14 true⟩,
  ⟨none, .store 2 14 (.t 24)⟩])
 (.ret)))))))))⟩
/-- laws.eqClient -/
def r80 : RF :=
 ⟨2, [.tmp 4],
 .seq (.reg [⟨none, .locb 2 (.t 0)⟩,
  ⟨none, .locb 3 (.t 1)⟩,
  ⟨none, .mov 4 (.k (.bool false))⟩])
 (.seq (.seq (.reg [⟨none, .fad 5 2 0⟩,
   ⟨none, .load 6 5 1 false⟩,
   ⟨none, .fad 7 3 0⟩,
   ⟨none, .load 8 7 1 false⟩,
   ⟨none, .bin 9 .neq (.t 6) (.t 8)⟩])
  (.cond (.t 9)
  (.seq (.reg [⟨none, .mov 4 (.k (.bool false))⟩])
   (.ret))
  (.skip)))
 (.seq (.seq (.reg [⟨none, .fad 10 2 1⟩,
   ⟨none, .load 11 10 1 false⟩,
   ⟨none, .fad 12 3 1⟩,
   ⟨none, .load 13 12 1 false⟩,
   ⟨none, .bin 14 .neq (.t 11) (.t 13)⟩])
  (.cond (.t 14)
  (.seq (.reg [⟨none, .mov 4 (.k (.bool false))⟩])
   (.ret))
  (.skip)))
 (.seq (.seq (.reg [⟨none, .fad 15 2 2⟩,
   ⟨none, .load 16 15 5 true⟩,
   ⟨none, .fad 17 3 2⟩,
   ⟨none, .load 18 17 5 true⟩,
   ⟨none, .call (some 19) 71 [(.t 16), (.t 18)] false⟩,
   ⟨none, .not 20 (.t 19)⟩])
  (.cond (.t 20)
  (.seq (.reg [⟨none, .mov 4 (.k (.bool false))⟩])
   (.ret))
  (.skip)))
 (.seq (.seq (.reg [⟨none, .fad 21 2 7⟩,
   ⟨none, .load 22 21 1 false⟩,
   ⟨none, .fad 23 3 7⟩,
   ⟨none, .load 24 23 1 false⟩,
   ⟨none, .beq 25 true (.t 22) (.t 24)⟩])
  (.cond (.t 25)
  (.seq (.reg [⟨none, .mov 4 (.k (.bool false))⟩])
   (.ret))
  (.skip)))
 (.seq (.seq (.reg [⟨none, .fad 26 2 8⟩,
   ⟨none, .load 27 26 1 false⟩,
   ⟨none, .fad 28 3 8⟩,
   ⟨none, .load 29 28 1 false⟩,
   ⟨none, .bin 30 .neq (.t 27) (.t 29)⟩])
  (.cond (.t 30)
  (.seq (.reg [⟨none, .mov 4 (.k (.bool false))⟩])
   (.ret))
  (.skip)))
 (.seq (.seq (.reg [⟨none, .fad 31 2 9⟩,
   ⟨none, .load 32 31 5 true⟩,
   ⟨none, .fad 33 3 9⟩,
   ⟨none, .load 34 33 5 true⟩,
   ⟨none, .call (some 35) 99 [(.t 32), (.t 34)] false⟩,
   ⟨none, .not 36 (.t 35)⟩])
  (.cond (.t 36)
  (.seq (.reg [⟨none, .mov 4 (.k (.bool false))⟩])
   (.ret))
  (.skip)))
 (.seq (.reg [⟨none, .mov 4 (.k (.bool true))⟩])
 (.ret))))))))⟩
/-- laws.markClient -/
def r95 : RF :=
 ⟨2, [.tmp 4],
 .seq (.reg [⟨none, .locb 2 (.t 0)⟩,
  ⟨none, .mov 4 (.k (.int .i64 0))⟩])
 (.seq (.reg [⟨none, .fad 5 2 2⟩,
  ⟨none, .load 6 5 5 true⟩,
  ⟨none, .mov 7 (.t 1)⟩,
  ⟨none, .call (some 8) 94 [(.t 6), (.t 7)] false⟩,
  ⟨none, .mov 1 (.t 8)⟩])
 (.seq (.reg [⟨none, .mov 9 (.t 1)⟩,
  ⟨none, .mov 4 (.t 9)⟩])
 (.ret)))⟩
/-- laws.heldClient -/
def r96 : RF :=
 ⟨2, [.tmp 4],
 .seq (.reg [⟨none, .locb 2 (.t 0)⟩,
  ⟨none, .mov 4 (.k (.int .i64 0))⟩])
 (.seq (.reg [⟨none, .fad 5 2 2⟩,
  ⟨none, .load 6 5 5 true⟩,
  ⟨none, .mov 7 (.t 1)⟩,
  ⟨none, .call (some 8) 118 [(.t 6), (.t 7)] false⟩,
  ⟨none, .mov 1 (.t 8)⟩])
 (.seq (.seq (.reg [⟨none, .mov 9 (.t 1)⟩,
   ⟨none, .bin 10 .lss (.t 9) (.k (.int .i64 0))⟩])
  (.cond (.t 10)
  (.seq (.reg [⟨none, .mov 4 (.k (.int .i64 (-1)))⟩])
   (.ret))
  (.skip)))
 (.seq (.reg [⟨none, .mov 11 (.t 1)⟩,
  ⟨none, .mov 4 (.t 11)⟩])
 (.ret))))⟩
/-- The functions of this text, with their numbers. -/
def tLClient : List (Nat × RF) := [(76, r76), (77, r77), (80, r80), (95, r95), (96, r96)]
end Go.Proofs.Ytcdlbjomdokmiaa.A
/- The data of a Client with its memory, and what its converters compute. -/
namespace Go.Proofs.Ytcdlbjomdokmiaa.A
open Go
set_option linter.unusedSimpArgs false
set_option linter.unusedVariables false
structure Client where
  id : Int
  seq : Int
  chart : Chart
  busy : Bool
  tries : Int
  ask : Request
  deriving DecidableEq
def Client.RL : Rel Client := fun h cs t fp => ∃ x1 p1, cs = [.int .i64 t.id, .int .i64 t.seq, .int .i64 t.chart.epoch, x1, .bool t.chart.moving, .int .u64 t.chart.lo, .int .i64 t.chart.to, .bool t.busy, .int .i64 t.tries, .int .i64 t.ask.epoch, .int .i64 t.ask.op, .int .u64 t.ask.id, .int .u64 t.ask.amount, .int .i64 t.ask.tx] ∧ fp = p1 ∧ SlR 8 (Fl Range.enc) h x1 t.chart.ranges p1
theorem Client.okL : RelOk Client.RL where
  lt := by
    rintro h cs t fp ⟨x1, p1, rfl, rfl, w1⟩ id hid
    exact w1.lt (Fl.ok _) id hid
  mv := by
    rintro h h' cs t fp ⟨x1, p1, rfl, rfl, w1⟩ hn hg
    exact ⟨x1, _, rfl, rfl, w1.mv (Fl.ok _) hn hg⟩
def Client.RI : Rel Client := fun h cs t fp => ∃ x1 p1, cs = [.int .i64 t.id, .int .i64 t.seq, .int .i64 t.chart.epoch, x1, .bool t.chart.moving, .int .u64 t.chart.lo, .int .i64 t.chart.to, .bool t.busy, .int .i64 t.tries, .int .i64 t.ask.epoch, .int .i64 t.ask.op, .int .u64 t.ask.id, .int .u64 t.ask.amount, .int .i64 t.ask.tx] ∧ fp = p1 ∧ SlR 7 (Fl Range.enc) h x1 t.chart.ranges p1
theorem Client.okI : RelOk Client.RI where
  lt := by
    rintro h cs t fp ⟨x1, p1, rfl, rfl, w1⟩ id hid
    exact w1.lt (Fl.ok _) id hid
  mv := by
    rintro h h' cs t fp ⟨x1, p1, rfl, rfl, w1⟩ hn hg
    exact ⟨x1, _, rfl, rfl, w1.mv (Fl.ok _) hn hg⟩
theorem Client.lenL {h : Heap} {cs : List Cell} {t : Client} {fp : List Nat} (v : Client.RL h cs t fp) : cs.length = 14 ∧ cs.take 14 = cs ∧ cs.drop 14 = [] := by
  obtain ⟨x1, p1, rfl, _⟩ := v
  exact ⟨rfl, rfl, rfl⟩
theorem Client.lenI {h : Heap} {cs : List Cell} {t : Client} {fp : List Nat} (v : Client.RI h cs t fp) : cs.length = 14 ∧ cs.take 14 = cs ∧ cs.drop 14 = [] := by
  obtain ⟨x1, p1, rfl, _⟩ := v
  exact ⟨rfl, rfl, rfl⟩
namespace Client
/-- The numbers are those of the machine. -/
structure Ok (t : Client) : Prop where
  id : -9223372036854775808 ≤ t.id ∧ t.id ≤ 9223372036854775807
  seq : -9223372036854775808 ≤ t.seq ∧ t.seq ≤ 9223372036854775807
  chart : t.chart.Ok
  tries : -9223372036854775808 ≤ t.tries ∧ t.tries ≤ 9223372036854775807
  ask : t.ask.Ok
def Small (t : Client) : Prop := t.chart.Small
def wt (t : Client) : Int := t.chart.wt
def marked (t : Client) (k : Int) : Client := { t with chart := t.chart.marked (k) }
theorem wt_nn (t : Client) : 0 ≤ t.wt := by
  have := t.chart.wt_nn
  simp only [wt]; omega
theorem wt_le {t : Client} (sm : t.Small) : t.wt ≤ 3145728 := by
  unfold Small at sm
  have := Chart.wt_le sm
  simp only [wt]; omega
end Client
theorem Wf.isClient {h : Heap} {n : Nat} {cs : List Cell} (w : Wf h (n + 5) shClient cs) : ∃ t fp, Client.RL h cs t fp ∧ t.Ok := by
  obtain ⟨_, _, rfl, _, ⟨i1, rfl, j1⟩, _, _, rfl, _, ⟨i2, rfl, j2⟩, _, _, rfl, _, ⟨_, _, rfl, _, ⟨i3, rfl, j3⟩, _, _, rfl, _, m4, _, _, rfl, _, ⟨b5, rfl⟩, _, _, rfl, _, ⟨i6, rfl, j6⟩, _, _, rfl, _, ⟨i7, rfl, j7⟩, rfl⟩, _, _, rfl, _, ⟨b8, rfl⟩, _, _, rfl, _, ⟨i9, rfl, j9⟩, _, _, rfl, _, ⟨_, _, rfl, _, ⟨i10, rfl, j10⟩, _, _, rfl, _, ⟨i11, rfl, j11⟩, _, _, rfl, _, ⟨i12, rfl, j12⟩, _, _, rfl, _, ⟨i13, rfl, j13⟩, _, _, rfl, _, ⟨i14, rfl, j14⟩, rfl⟩, rfl⟩ := w
  obtain ⟨x1, l1, p1, rfl, w1, o1⟩ := Wf.isRangeS' m4
  exact ⟨⟨i1, i2, ⟨i3, l1, b5, i6, i7⟩, b8, i9, ⟨i10, i11, i12, i13, i14⟩⟩, _, ⟨x1, _, rfl, rfl, w1⟩, ⟨wfI j1, wfI j2, ⟨wfI j3, o1, wfU j6, wfI j7⟩, wfI j9, ⟨wfI j10, wfI j11, wfU j12, wfU j13, wfI j14⟩⟩⟩
section
variable {F : Nat → Option RF} {Z : CallF} {h : Heap} {cs cs' : List Cell} {t u : Client} {fp fq : List Nat}
theorem szClient_c (hLClient : Has F tLClient) (hLChart : Has F tLChart) (hLRange : Has F tLRange) (hLRequest : Has F tLRequest) (v : Client.RL h cs t fp) (left : Int) (h1 : 0 ≤ left) (h2 : left ≤ 1048576) : ∃ r, call F Z 76 [.agg cs, .c (.int .i64 left)] h = some (.c (.int .i64 r), h) ∧ r ≤ left ∧ (0 ≤ r → t.Small) := by
  obtain ⟨x1, p1, rfl, rfl, w1⟩ := v
  rw [call_run F Z (hLClient.lk (g := 76) rfl) _ _ rfl]
  simp only [run0, run1, run2, run3, run4, noSlot, ownS, ownK, memN, RO.dst, lk, drop, forget, number, Nat.reduceBEq, cut?, splice?, builds, List.length_cons, List.length_nil, List.drop_succ_cons, List.drop_zero, List.take_succ_cons, List.take_zero, List.cons_append, List.nil_append, List.append_nil, List.drop_nil, List.take_nil, Nat.reduceAdd, Nat.reduceLeDiff, Nat.zero_add, Nat.add_zero, ↓reduceIte, Bool.not_true, Bool.not_false, decide_true, decide_false, eq_self, bne_self_eq_false, List.getElem?_cons_zero, List.getElem?_cons_succ, decide_eq_true_eq, Bool.false_eq_true, Bool.true_eq_false, reduceCtorEq, Nat.le_refl]
  obtain ⟨l0, s0, a0, b0⟩ := szChart_c (Z := Z) hLChart hLRange (⟨x1, _, rfl, rfl, w1⟩ : Chart.RL _ _ _ _) left (by omega) (by omega)
  simp only [run0, run1, run2, run3, run4, noSlot, ownS, ownK, memN, RO.dst, lk, drop, forget, number, Nat.reduceBEq, cut?, splice?, builds, List.length_cons, List.length_nil, List.drop_succ_cons, List.drop_zero, List.take_succ_cons, List.take_zero, List.cons_append, List.nil_append, List.append_nil, List.drop_nil, List.take_nil, Nat.reduceAdd, Nat.reduceLeDiff, Nat.zero_add, Nat.add_zero, ↓reduceIte, Bool.not_true, Bool.not_false, decide_true, decide_false, eq_self, bne_self_eq_false, List.getElem?_cons_zero, List.getElem?_cons_succ, decide_eq_true_eq, Bool.false_eq_true, Bool.true_eq_false, reduceCtorEq, Nat.le_refl, s0]
  by_cases n0 : l0 < 0
  · simp only [run0, run1, run2, run3, run4, noSlot, ownS, ownK, memN, RO.dst, lk, drop, forget, number, Nat.reduceBEq, cut?, splice?, builds, List.length_cons, List.length_nil, List.drop_succ_cons, List.drop_zero, List.take_succ_cons, List.take_zero, List.cons_append, List.nil_append, List.append_nil, List.drop_nil, List.take_nil, Nat.reduceAdd, Nat.reduceLeDiff, Nat.zero_add, Nat.add_zero, ↓reduceIte, Bool.not_true, Bool.not_false, decide_true, decide_false, eq_self, bne_self_eq_false, List.getElem?_cons_zero, List.getElem?_cons_succ, decide_eq_true_eq, Bool.false_eq_true, Bool.true_eq_false, reduceCtorEq, Nat.le_refl, n0]
    exact ⟨_, rfl, by omega, by omega⟩
  simp only [run0, run1, run2, run3, run4, noSlot, ownS, ownK, memN, RO.dst, lk, drop, forget, number, Nat.reduceBEq, cut?, splice?, builds, List.length_cons, List.length_nil, List.drop_succ_cons, List.drop_zero, List.take_succ_cons, List.take_zero, List.cons_append, List.nil_append, List.append_nil, List.drop_nil, List.take_nil, Nat.reduceAdd, Nat.reduceLeDiff, Nat.zero_add, Nat.add_zero, ↓reduceIte, Bool.not_true, Bool.not_false, decide_true, decide_false, eq_self, bne_self_eq_false, List.getElem?_cons_zero, List.getElem?_cons_succ, decide_eq_true_eq, Bool.false_eq_true, Bool.true_eq_false, reduceCtorEq, Nat.le_refl, n0]
  exact ⟨_, rfl, by omega, fun _ => b0 (by omega)⟩
theorem toClient_c (hLClient : Has F tLClient) (hLChart : Has F tLChart) (hLRange : Has F tLRange) (hLRequest : Has F tLRequest) (hf : h.floor ≤ h.next) (v : Client.RL h cs t fp) (sm : t.Small) : ∃ cs' h' fq, call F Z 77 [.agg cs] h = some (.agg cs', h') ∧ On h h' ∧ Client.RI h' cs' t fq ∧ Fre h fq := by
  obtain ⟨x1, p1, rfl, rfl, w1⟩ := v
  have sm0 := sm
  obtain ⟨_, g0, _, e0, o0, ⟨y1, q1, rfl, rfl, u1⟩, r0⟩ := toChart_c (Z := Z) hLChart hLRange hf (⟨x1, _, rfl, rfl, w1⟩ : Chart.RL _ _ _ _) sm0
  rw [call_run F Z (hLClient.lk (g := 77) rfl) _ _ rfl]
  simp only [run0, run1, run2, run3, run4, noSlot, ownS, ownK, memN, RO.dst, lk, drop, forget, number, Nat.reduceBEq, cut?, splice?, builds, List.length_cons, List.length_nil, List.drop_succ_cons, List.drop_zero, List.take_succ_cons, List.take_zero, List.cons_append, List.nil_append, List.append_nil, List.drop_nil, List.take_nil, Nat.reduceAdd, Nat.reduceLeDiff, Nat.zero_add, Nat.add_zero, ↓reduceIte, Bool.not_true, Bool.not_false, decide_true, decide_false, eq_self, bne_self_eq_false, List.getElem?_cons_zero, List.getElem?_cons_succ, decide_eq_true_eq, Bool.false_eq_true, Bool.true_eq_false, reduceCtorEq, Nat.le_refl, e0, toRequest_lit hLRequest]
  exact ⟨_, _, _, rfl, o0, ⟨y1, _, rfl, rfl, u1⟩, r0⟩
set_option maxHeartbeats 1000000 in
theorem eqClient_r (hLClient : Has F tLClient) (hLChart : Has F tLChart) (hLRange : Has F tLRange) (hLRequest : Has F tLRequest) (v : Client.RI h cs t fp) (v' : Client.RI h cs' u fq) : call F Z 80 [.agg cs, .agg cs'] h = some (.c (.bool (decide (t = u))), h) := by
  obtain ⟨x1, p1, rfl, rfl, w1⟩ := v
  obtain ⟨x1', p1', rfl, rfl, w1'⟩ := v'
  obtain ⟨id1, seq1, chart1, busy1, tries1, ask1⟩ := t
  obtain ⟨id2, seq2, chart2, busy2, tries2, ask2⟩ := u
  have e0 := eqChart_r (Z := Z) hLChart hLRange (⟨x1, _, rfl, rfl, w1⟩ : Chart.RI h _ chart1 _) (⟨x1', _, rfl, rfl, w1'⟩ : Chart.RI h _ chart2 _)
  cases ask1
  cases ask2
  clear w1 w1'
  rw [call_run F Z (hLClient.lk (g := 80) rfl) _ _ rfl]
  simp only [run0, run1, run2, run3, run4, noSlot, ownS, ownK, memN, RO.dst, lk, drop, forget, number, Nat.reduceBEq, cut?, splice?, builds, List.length_cons, List.length_nil, List.drop_succ_cons, List.drop_zero, List.take_succ_cons, List.take_zero, List.cons_append, List.nil_append, List.append_nil, List.drop_nil, List.take_nil, Nat.reduceAdd, Nat.reduceLeDiff, Nat.zero_add, Nat.add_zero, ↓reduceIte, Bool.not_true, Bool.not_false, decide_true, decide_false, eq_self, bne_self_eq_false, List.getElem?_cons_zero, List.getElem?_cons_succ, decide_eq_true_eq, Bool.false_eq_true, Bool.true_eq_false, reduceCtorEq, Nat.le_refl, e0, eqRequest_lit hLRequest]
  (repeat' ((first | (rw [gF_if]; split) | (rw [condC_if]; split) | (rw [pickR_if]; split)) <;> (rename_i hh; (try simp only [Bool.not_eq_true, decide_eq_true_eq] at hh); simp only [hh, run0, run1, run2, run3, run4, noSlot, ownS, ownK, memN, RO.dst, lk, drop, forget, number, Nat.reduceBEq, cut?, splice?, builds, List.length_cons, List.length_nil, List.drop_succ_cons, List.drop_zero, List.take_succ_cons, List.take_zero, List.cons_append, List.nil_append, List.append_nil, List.drop_nil, List.take_nil, Nat.reduceAdd, Nat.reduceLeDiff, Nat.zero_add, Nat.add_zero, ↓reduceIte, Bool.not_true, Bool.not_false, decide_true, decide_false, eq_self, bne_self_eq_false, List.getElem?_cons_zero, List.getElem?_cons_succ, decide_eq_true_eq, Bool.false_eq_true, Bool.true_eq_false, reduceCtorEq, Nat.le_refl, e0, eqRequest_lit hLRequest]))) <;> clear e0 <;> refine fin_bool ?_ <;> simp_all <;> (try (intros; omega))
theorem markClient_r (hLClient : Has F tLClient) (hLChart : Has F tLChart) (hLRange : Has F tLRange) (hLRequest : Has F tLRequest) (v : Client.RI h cs t fp) (nd : fp.Nodup) (hlo : ∀ id, id ∈ fp → h.floor ≤ id) (k : Int) (h1 : 0 ≤ k) (h2 : k + t.wt ≤ 9200000000000000000) : ∃ h', call F Z 95 [.agg cs, .c (.int .i64 k)] h = some (.c (.int .i64 (k + t.wt)), h') ∧ Mk h h' fp ∧ Client.RI h' cs (t.marked k) fp := by
  obtain ⟨x1, p1, rfl, rfl, w1⟩ := v
  simp only [Client.wt] at h2 ⊢
  obtain ⟨h', e0, m0, ⟨y1, q1, uc, rfl, u1⟩⟩ := markChart_r (Z := Z) hLChart hLRange (⟨x1, _, rfl, rfl, w1⟩ : Chart.RI _ _ _ _) nd hlo k h1 h2
  rw [call_run F Z (hLClient.lk (g := 95) rfl) _ _ rfl]
  simp only [run0, run1, run2, run3, run4, noSlot, ownS, ownK, memN, RO.dst, lk, drop, forget, number, Nat.reduceBEq, cut?, splice?, builds, List.length_cons, List.length_nil, List.drop_succ_cons, List.drop_zero, List.take_succ_cons, List.take_zero, List.cons_append, List.nil_append, List.append_nil, List.drop_nil, List.take_nil, Nat.reduceAdd, Nat.reduceLeDiff, Nat.zero_add, Nat.add_zero, ↓reduceIte, Bool.not_true, Bool.not_false, decide_true, decide_false, eq_self, bne_self_eq_false, List.getElem?_cons_zero, List.getElem?_cons_succ, decide_eq_true_eq, Bool.false_eq_true, Bool.true_eq_false, reduceCtorEq, Nat.le_refl, e0]
  refine ⟨_, rfl, m0, ⟨y1, _, ?_, rfl, u1⟩⟩
  simp_all [Client.marked, Chart.marked]
theorem heldClient_r (hLClient : Has F tLClient) (hLChart : Has F tLChart) (hLRange : Has F tLRange) (hLRequest : Has F tLRequest) {k : Int} (v : Client.RI h cs (t.marked k) fp) (h1 : 0 ≤ k) (h2 : k + t.wt ≤ 9200000000000000000) : call F Z 96 [.agg cs, .c (.int .i64 k)] h = some (.c (.int .i64 (k + t.wt)), h) := by
  obtain ⟨x1, p1, rfl, rfl, w1⟩ := v
  simp only [Client.wt] at h2 ⊢
  have e0 := heldChart_r (Z := Z) hLChart hLRange (t := t.chart) (⟨x1, _, rfl, rfl, w1⟩ : Chart.RI _ _ _ _) h1 h2
  have w0 := t.chart.wt_nn
  have n0 : ¬ k + t.chart.wt < 0 := by omega
  rw [call_run F Z (hLClient.lk (g := 96) rfl) _ _ rfl]
  simp only [Client.marked, run0, run1, run2, run3, run4, noSlot, ownS, ownK, memN, RO.dst, lk, drop, forget, number, Nat.reduceBEq, cut?, splice?, builds, List.length_cons, List.length_nil, List.drop_succ_cons, List.drop_zero, List.take_succ_cons, List.take_zero, List.cons_append, List.nil_append, List.append_nil, List.drop_nil, List.take_nil, Nat.reduceAdd, Nat.reduceLeDiff, Nat.zero_add, Nat.add_zero, ↓reduceIte, Bool.not_true, Bool.not_false, decide_true, decide_false, eq_self, bne_self_eq_false, List.getElem?_cons_zero, List.getElem?_cons_succ, decide_eq_true_eq, Bool.false_eq_true, Bool.true_eq_false, reduceCtorEq, Nat.le_refl] at e0 ⊢
  simp only [run0, run1, run2, run3, run4, noSlot, ownS, ownK, memN, RO.dst, lk, drop, forget, number, Nat.reduceBEq, cut?, splice?, builds, List.length_cons, List.length_nil, List.drop_succ_cons, List.drop_zero, List.take_succ_cons, List.take_zero, List.cons_append, List.nil_append, List.append_nil, List.drop_nil, List.take_nil, Nat.reduceAdd, Nat.reduceLeDiff, Nat.zero_add, Nat.add_zero, ↓reduceIte, Bool.not_true, Bool.not_false, decide_true, decide_false, eq_self, bne_self_eq_false, List.getElem?_cons_zero, List.getElem?_cons_succ, decide_eq_true_eq, Bool.false_eq_true, Bool.true_eq_false, reduceCtorEq, Nat.le_refl, e0, n0]
end
end Go.Proofs.Ytcdlbjomdokmiaa.A
/- The compact code of some functions: impl.ClientOk, impl.ClientWhere, impl.NewClient, impl.isClient, impl.ClientStop, impl.ClientAgain, impl.ClientAsk, impl.ClientHear, impl.copyClient, (*impl.Client).stop, (impl.Client).message. -/
namespace Go.Proofs.Ytcdlbjomdokmiaa.A
open Go
/-- impl.ClientOk -/
def r79 : RF :=
 ⟨1, [.tmp 2],
 .seq (.reg [⟨none, .locb 1 (.t 0)⟩,
  ⟨none, .mov 2 (.k (.bool false))⟩])
 (.seq (.reg [⟨none, .load 3 1 14 true⟩,
  ⟨none, .call (some 4) 110 [(.t 3)] false⟩,
  ⟨none, .mov 2 (.t 4)⟩])
 (.ret))⟩
/-- impl.ClientWhere -/
def r90 : RF :=
 ⟨2, [.tmp 4],
 .seq (.reg [⟨none, .locb 2 (.t 0)⟩,
  ⟨none, .mov 4 (.k (.int .i64 0))⟩])
 (.seq (.seq (.reg [⟨none, .load 5 2 14 true⟩,
   ⟨none, .call (some 6) 110 [(.t 5)] false⟩,
   ⟨none, .not 7 (.t 6)⟩])
  (.cond (.t 7)
  (.seq (.reg [⟨none, .mov 4 (.k (.int .i64 (-1)))⟩])
   (.ret))
  (.skip)))
 (.seq (.reg [⟨none, .chk []⟩,
  ⟨none, .mov 14 (.t 1)⟩,
  ⟨none, .fad 8 2 2⟩,
  ⟨none, .fad 9 8 1⟩,
  ⟨none, .load 10 9 1 false⟩,
  ⟨none, .fad 11 2 2⟩,
  ⟨none, .fad 12 11 1⟩,
  ⟨none, .load 13 12 1 false⟩,
  ⟨none, .call (some 15) 107 [(.t 13), (.t 14)] true⟩,
  ⟨none, .idx 16 7 (.t 10) (.t 15)⟩,
  ⟨none, .fad 17 16 2⟩,
  ⟨none, .load 18 17 1 false⟩,
  ⟨none, .mov 4 (.t 18)⟩])
 (.ret)))⟩
/-- impl.NewClient -/
def r93 : RF :=
 ⟨2, [.cell 4 14 true],
 .seq (.reg [⟨none, .locb 3 (.t 1)⟩,
  ⟨none, .loc 4 [.int .i64 0, .int .i64 0, .int .i64 0, .nil, .bool false, .int .u64 0, .int .i64 0, .bool false, .int .i64 0, .int .i64 0, .int .i64 0, .int .u64 0, .int .u64 0, .int .i64 0]⟩])
 (.seq (.reg [⟨none, .mov 6 (.t 0)⟩,
  ⟨none, .load 7 3 5 true⟩,
  ⟨none, .call (some 8) 116 [(.t 7)] false⟩,
  ⟨none, .build 9 [.int .i64 0, .int .i64 0, .int .i64 0, .nil, .bool false, .int .u64 0, .int .i64 0, .bool false, .int .i64 0, .int .i64 0, .int .i64 0, .int .u64 0, .int .u64 0, .int .i64 0] [(0, 1, (.t 6)), (2, 5, (.t 8))]⟩,
  ⟨none, .loc 5 [.int .i64 0, .int .i64 0, .int .i64 0, .nil, .bool false, .int .u64 0, .int .i64 0, .bool false, .int .i64 0, .int .i64 0, .int .i64 0, .int .u64 0, .int .u64 0, .int .i64 0]⟩,
  ⟨none, .store 5 14 (.t 9)⟩])
 (.seq (.seq (.reg [⟨none, .load 10 5 14 true⟩,
   ⟨none, .call (some 11) 110 [(.t 10)] false⟩,
   ⟨none, .not 12 (.t 11)⟩])
  (.cond (.t 12)
  (.seq (.reg [⟨none, .build 13 [.int .i64 0, .int .i64 0, .int .i64 0, .nil, .bool false, .int .u64 0, .int .i64 0, .bool false, .int .i64 0, .int .i64 0, .int .i64 0, .int .u64 0, .int .u64 0, .int .i64 0] []⟩,
    ⟨none, .store 4 14 (.t 13)⟩])
   (.ret))
  (.skip)))
 (.seq (.reg [⟨none, .load 14 5 14 true⟩,
  ⟨none, .store 4 14 (.t 14)⟩])
 (.ret))))⟩
/-- impl.isClient -/
def r110 : RF :=
 ⟨1, [.tmp 2],
 .seq (.reg [⟨none, .locb 1 (.t 0)⟩,
  ⟨none, .mov 2 (.k (.bool false))⟩])
 (.seq (.seq (.reg [⟨none, .fad 3 1 0⟩,
   ⟨none, .load 4 3 1 false⟩,
   ⟨none, .bin 5 .lss (.t 4) (.k (.int .i64 1))⟩,
   ⟨none, .mov 6 (.t 5)⟩,
   ⟨some (6, false), .fad 7 1 0⟩,
   ⟨some (6, false), .load 8 7 1 false⟩,
   ⟨some (6, false), .bin 9 .gtr (.t 8) (.k (.int .i64 999))⟩,
   ⟨none, .pick 10 (.t 6) (.k (.bool true)) (.t 9)⟩,
   ⟨none, .mov 11 (.t 10)⟩,
   ⟨some (11, false), .fad 12 1 1⟩,
   ⟨some (11, false), .load 13 12 1 false⟩,
   ⟨some (11, false), .bin 14 .lss (.t 13) (.k (.int .i64 0))⟩,
   ⟨none, .pick 15 (.t 11) (.k (.bool true)) (.t 14)⟩,
   ⟨none, .mov 16 (.t 15)⟩,
   ⟨some (16, false), .fad 17 1 1⟩,
   ⟨some (16, false), .load 18 17 1 false⟩,
   ⟨some (16, false), .bin 19 .gtr (.t 18) (.k (.int .i64 1000000))⟩,
   ⟨none, .pick 20 (.t 16) (.k (.bool true)) (.t 19)⟩,
   ⟨none, .mov 21 (.t 20)⟩,
   ⟨some (21, false), .fad 22 1 2⟩,
   ⟨some (21, false), .load 23 22 5 true⟩,
   ⟨some (21, false), .call (some 24) 106 [(.t 23)] false⟩,
   ⟨some (21, false), .not 25 (.t 24)⟩,
   ⟨none, .pick 26 (.t 21) (.k (.bool true)) (.t 25)⟩])
  (.cond (.t 26)
  (.seq (.reg [⟨none, .mov 2 (.k (.bool false))⟩])
   (.ret))
  (.skip)))
 (.seq (.seq (.reg [⟨none, .fad 27 1 7⟩,
   ⟨none, .load 28 27 1 false⟩,
   ⟨none, .not 29 (.t 28)⟩])
  (.cond (.t 29)
  (.seq (.reg [⟨none, .fad 30 1 8⟩,
    ⟨none, .load 31 30 1 false⟩,
    ⟨none, .bin 32 .eql (.t 31) (.k (.int .i64 0))⟩,
    ⟨none, .mov 33 (.t 32)⟩,
    ⟨some (33, true), .fad 34 1 9⟩,
    ⟨some (33, true), .load 35 34 5 true⟩,
    ⟨some (33, true), .build 36 [.int .i64 0, .int .i64 0, .int .u64 0, .int .u64 0, .int .i64 0] []⟩,
    ⟨some (33, true), .eqs 37 false [.i .i64, .i .i64, .i .u64, .i .u64, .i .i64] (.t 35) (.t 36)⟩,
    ⟨none, .pick 38 (.t 33) (.t 37) (.k (.bool false))⟩,
    ⟨none, .mov 2 (.t 38)⟩])
   (.ret))
  (.skip)))
 (.seq (.reg [⟨none, .fad 39 1 9⟩,
  ⟨none, .fad 40 39 1⟩,
  ⟨none, .load 41 40 1 false⟩,
  ⟨none, .bin 42 .geq (.t 41) (.k (.int .i64 0))⟩,
  ⟨none, .mov 43 (.t 42)⟩,
  ⟨some (43, true), .fad 44 1 9⟩,
  ⟨some (43, true), .fad 45 44 1⟩,
  ⟨some (43, true), .load 46 45 1 false⟩,
  ⟨some (43, true), .bin 47 .leq (.t 46) (.k (.int .i64 8))⟩,
  ⟨none, .pick 48 (.t 43) (.t 47) (.k (.bool false))⟩,
  ⟨none, .mov 49 (.t 48)⟩,
  ⟨some (49, true), .fad 50 1 9⟩,
  ⟨some (49, true), .fad 51 50 0⟩,
  ⟨some (49, true), .load 52 51 1 false⟩,
  ⟨some (49, true), .bin 53 .eql (.t 52) (.k (.int .i64 0))⟩,
  ⟨none, .pick 54 (.t 49) (.t 53) (.k (.bool false))⟩,
  ⟨none, .mov 55 (.t 54)⟩,
  ⟨some (55, true), .fad 56 1 8⟩,
  ⟨some (55, true), .load 57 56 1 false⟩,
  ⟨some (55, true), .bin 58 .geq (.t 57) (.k (.int .i64 1))⟩,
  ⟨none, .pick 59 (.t 55) (.t 58) (.k (.bool false))⟩,
  ⟨none, .mov 60 (.t 59)⟩,
  ⟨some (60, true), .fad 61 1 8⟩,
  ⟨some (60, true), .load 62 61 1 false⟩,
  ⟨some (60, true), .bin 63 .leq (.t 62) (.k (.int .i64 6))⟩,
  ⟨none, .pick 64 (.t 60) (.t 63) (.k (.bool false))⟩,
  ⟨none, .mov 65 (.t 64)⟩,
  ⟨some (65, true), .fad 66 1 1⟩,
  ⟨some (65, true), .load 67 66 1 false⟩,
  ⟨some (65, true), .bin 68 .gtr (.t 67) (.k (.int .i64 0))⟩,
  ⟨none, .pick 69 (.t 65) (.t 68) (.k (.bool false))⟩,
  ⟨none, .mov 2 (.t 69)⟩])
 (.ret))))⟩
/-- impl.ClientStop -/
def r148 : RF :=
 ⟨1, [.cell 2 14 true, .tmp 3],
 .seq (.reg [⟨none, .locb 1 (.t 0)⟩,
  ⟨none, .loc 2 [.int .i64 0, .int .i64 0, .int .i64 0, .nil, .bool false, .int .u64 0, .int .i64 0, .bool false, .int .i64 0, .int .i64 0, .int .i64 0, .int .u64 0, .int .u64 0, .int .i64 0]⟩,
  ⟨none, .mov 3 (.k (.bool false))⟩])
 (.seq (.reg [⟨none, .load 5 1 14 true⟩,
  ⟨none, .call (some 6) 199 [(.t 5)] false⟩,
  ⟨none, .new 4 [.int .i64 0, .int .i64 0, .int .i64 0, .nil, .bool false, .int .u64 0, .int .i64 0, .bool false, .int .i64 0, .int .i64 0, .int .i64 0, .int .u64 0, .int .u64 0, .int .i64 0]⟩,
  ⟨none, .store 4 14 (.t 6)⟩])
 (.seq (.seq (.reg [⟨none, .load 7 1 14 true⟩,
   ⟨none, .call (some 8) 110 [(.t 7)] false⟩,
   ⟨none, .not 9 (.t 8)⟩,
   ⟨none, .mov 10 (.t 9)⟩,
   ⟨some (10, false), .fad 11 1 7⟩,
   ⟨some (10, false), .load 12 11 1 false⟩,
   ⟨some (10, false), .not 13 (.t 12)⟩,
   ⟨none, .pick 14 (.t 10) (.k (.bool true)) (.t 13)⟩])
  (.cond (.t 14)
  (.seq (.reg [⟨none, .load 15 4 14 true⟩,
    ⟨none, .store 2 14 (.t 15)⟩,
    ⟨none, .mov 3 (.k (.bool false))⟩])
   (.ret))
  (.skip)))
 (.seq (.reg [⟨none, .call (some 16) 200 [(.t 4)] false⟩])
 (.seq (.reg [⟨none, .load 17 4 14 true⟩,
  ⟨none, .store 2 14 (.t 17)⟩,
  ⟨none, .mov 3 (.k (.bool true))⟩])
 (.ret)))))⟩
/-- impl.ClientAgain -/
def r151 : RF :=
 ⟨1, [.cell 2 14 true, .cell 3 8 true, .tmp 4],
 .seq (.reg [⟨none, .locb 1 (.t 0)⟩,
  ⟨none, .loc 2 [.int .i64 0, .int .i64 0, .int .i64 0, .nil, .bool false, .int .u64 0, .int .i64 0, .bool false, .int .i64 0, .int .i64 0, .int .i64 0, .int .u64 0, .int .u64 0, .int .i64 0]⟩,
  ⟨none, .loc 3 [.int .i64 0, .int .i64 0, .int .i64 0, .int .i64 0, .int .i64 0, .int .u64 0, .int .u64 0, .int .i64 0]⟩,
  ⟨none, .mov 4 (.k (.bool false))⟩])
 (.seq (.reg [⟨none, .load 6 1 14 true⟩,
  ⟨none, .call (some 7) 199 [(.t 6)] false⟩,
  ⟨none, .loc 5 [.int .i64 0, .int .i64 0, .int .i64 0, .nil, .bool false, .int .u64 0, .int .i64 0, .bool false, .int .i64 0, .int .i64 0, .int .i64 0, .int .u64 0, .int .u64 0, .int .i64 0]⟩,
  ⟨none, .store 5 14 (.t 7)⟩])
 (.seq (.seq (.reg [⟨none, .load 8 1 14 true⟩,
   ⟨none, .call (some 9) 110 [(.t 8)] false⟩,
   ⟨none, .not 10 (.t 9)⟩,
   ⟨none, .mov 11 (.t 10)⟩,
   ⟨some (11, false), .fad 12 1 7⟩,
   ⟨some (11, false), .load 13 12 1 false⟩,
   ⟨some (11, false), .not 14 (.t 13)⟩,
   ⟨none, .pick 15 (.t 11) (.k (.bool true)) (.t 14)⟩,
   ⟨none, .mov 16 (.t 15)⟩,
   ⟨some (16, false), .fad 17 1 8⟩,
   ⟨some (16, false), .load 18 17 1 false⟩,
   ⟨some (16, false), .bin 19 .eql (.t 18) (.k (.int .i64 6))⟩,
   ⟨none, .pick 20 (.t 16) (.k (.bool true)) (.t 19)⟩])
  (.cond (.t 20)
  (.seq (.reg [⟨none, .load 21 5 14 true⟩,
    ⟨none, .build 22 [.int .i64 0, .int .i64 0, .int .i64 0, .int .i64 0, .int .i64 0, .int .u64 0, .int .u64 0, .int .i64 0] []⟩,
    ⟨none, .store 2 14 (.t 21)⟩,
    ⟨none, .store 3 8 (.t 22)⟩,
    ⟨none, .mov 4 (.k (.bool false))⟩])
   (.ret))
  (.skip)))
 (.seq (.reg [⟨none, .fad 23 5 8⟩,
  ⟨none, .load 24 23 1 false⟩,
  ⟨none, .bin 25 .add (.t 24) (.k (.int .i64 1))⟩,
  ⟨none, .fad 26 5 8⟩,
  ⟨none, .store 26 1 (.t 25)⟩])
 (.seq (.reg [⟨none, .chk []⟩,
  ⟨none, .load 27 5 14 true⟩,
  ⟨none, .load 28 5 14 true⟩,
  ⟨none, .call (some 29) 202 [(.t 28)] true⟩,
  ⟨none, .store 2 14 (.t 27)⟩,
  ⟨none, .store 3 8 (.t 29)⟩,
  ⟨none, .mov 4 (.k (.bool true))⟩])
 (.ret)))))⟩
/-- impl.ClientAsk -/
def r161 : RF :=
 ⟨2, [.cell 4 14 true, .cell 5 8 true, .tmp 6],
 .seq (.reg [⟨none, .locb 2 (.t 0)⟩,
  ⟨none, .locb 3 (.t 1)⟩,
  ⟨none, .loc 4 [.int .i64 0, .int .i64 0, .int .i64 0, .nil, .bool false, .int .u64 0, .int .i64 0, .bool false, .int .i64 0, .int .i64 0, .int .i64 0, .int .u64 0, .int .u64 0, .int .i64 0]⟩,
  ⟨none, .loc 5 [.int .i64 0, .int .i64 0, .int .i64 0, .int .i64 0, .int .i64 0, .int .u64 0, .int .u64 0, .int .i64 0]⟩,
  ⟨none, .mov 6 (.k (.bool false))⟩])
 (.seq (.reg [⟨none, .load 8 2 14 true⟩,
  ⟨none, .call (some 9) 199 [(.t 8)] false⟩,
  ⟨none, .loc 7 [.int .i64 0, .int .i64 0, .int .i64 0, .nil, .bool false, .int .u64 0, .int .i64 0, .bool false, .int .i64 0, .int .i64 0, .int .i64 0, .int .u64 0, .int .u64 0, .int .i64 0]⟩,
  ⟨none, .store 7 14 (.t 9)⟩])
 (.seq (.seq (.reg [⟨none, .load 10 2 14 true⟩,
   ⟨none, .call (some 11) 110 [(.t 10)] false⟩,
   ⟨none, .not 12 (.t 11)⟩,
   ⟨none, .mov 13 (.t 12)⟩,
   ⟨some (13, false), .fad 14 2 7⟩,
   ⟨some (13, false), .load 15 14 1 false⟩,
   ⟨none, .pick 16 (.t 13) (.k (.bool true)) (.t 15)⟩,
   ⟨none, .mov 17 (.t 16)⟩,
   ⟨some (17, false), .fad 18 3 1⟩,
   ⟨some (17, false), .load 19 18 1 false⟩,
   ⟨some (17, false), .bin 20 .lss (.t 19) (.k (.int .i64 0))⟩,
   ⟨none, .pick 21 (.t 17) (.k (.bool true)) (.t 20)⟩,
   ⟨none, .mov 22 (.t 21)⟩,
   ⟨some (22, false), .fad 23 3 1⟩,
   ⟨some (22, false), .load 24 23 1 false⟩,
   ⟨some (22, false), .bin 25 .gtr (.t 24) (.k (.int .i64 8))⟩,
   ⟨none, .pick 26 (.t 22) (.k (.bool true)) (.t 25)⟩,
   ⟨none, .mov 27 (.t 26)⟩,
   ⟨some (27, false), .fad 28 2 1⟩,
   ⟨some (27, false), .load 29 28 1 false⟩,
   ⟨some (27, false), .bin 30 .eql (.t 29) (.k (.int .i64 1000000))⟩,
   ⟨none, .pick 31 (.t 27) (.k (.bool true)) (.t 30)⟩])
  (.cond (.t 31)
  (.seq (.reg [⟨none, .load 32 7 14 true⟩,
    ⟨none, .build 33 [.int .i64 0, .int .i64 0, .int .i64 0, .int .i64 0, .int .i64 0, .int .u64 0, .int .u64 0, .int .i64 0] []⟩,
    ⟨none, .store 4 14 (.t 32)⟩,
    ⟨none, .store 5 8 (.t 33)⟩,
    ⟨none, .mov 6 (.k (.bool false))⟩])
   (.ret))
  (.skip)))
 (.seq (.reg [⟨none, .fad 34 3 0⟩,
  ⟨none, .store 34 1 (.k (.int .i64 0))⟩])
 (.seq (.reg [⟨none, .fad 35 7 7⟩,
  ⟨none, .store 35 1 (.k (.bool true))⟩])
 (.seq (.reg [⟨none, .load 36 3 5 true⟩,
  ⟨none, .fad 37 7 9⟩,
  ⟨none, .store 37 5 (.t 36)⟩])
 (.seq (.reg [⟨none, .fad 38 7 1⟩,
  ⟨none, .load 39 38 1 false⟩,
  ⟨none, .bin 40 .add (.t 39) (.k (.int .i64 1))⟩,
  ⟨none, .fad 41 7 1⟩,
  ⟨none, .store 41 1 (.t 40)⟩])
 (.seq (.reg [⟨none, .fad 42 7 8⟩,
  ⟨none, .store 42 1 (.k (.int .i64 1))⟩])
 (.seq (.reg [⟨none, .chk []⟩,
  ⟨none, .load 43 7 14 true⟩,
  ⟨none, .load 44 7 14 true⟩,
  ⟨none, .call (some 45) 202 [(.t 44)] true⟩,
  ⟨none, .store 4 14 (.t 43)⟩,
  ⟨none, .store 5 8 (.t 45)⟩,
  ⟨none, .mov 6 (.k (.bool true))⟩])
 (.ret)))))))))⟩
/-- impl.ClientHear -/
def r176 : RF :=
 ⟨2, [.cell 4 14 true, .tmp 5],
 .seq (.reg [⟨none, .locb 2 (.t 0)⟩,
  ⟨none, .locb 3 (.t 1)⟩,
  ⟨none, .loc 4 [.int .i64 0, .int .i64 0, .int .i64 0, .nil, .bool false, .int .u64 0, .int .i64 0, .bool false, .int .i64 0, .int .i64 0, .int .i64 0, .int .u64 0, .int .u64 0, .int .i64 0]⟩,
  ⟨none, .mov 5 (.k (.int .i64 0))⟩])
 (.seq (.reg [⟨none, .load 7 2 14 true⟩,
  ⟨none, .call (some 8) 199 [(.t 7)] false⟩,
  ⟨none, .new 6 [.int .i64 0, .int .i64 0, .int .i64 0, .nil, .bool false, .int .u64 0, .int .i64 0, .bool false, .int .i64 0, .int .i64 0, .int .i64 0, .int .u64 0, .int .u64 0, .int .i64 0]⟩,
  ⟨none, .store 6 14 (.t 8)⟩])
 (.seq (.seq (.reg [⟨none, .load 9 2 14 true⟩,
   ⟨none, .call (some 10) 110 [(.t 9)] false⟩,
   ⟨none, .not 11 (.t 10)⟩])
  (.cond (.t 11)
  (.seq (.reg [⟨none, .load 12 6 14 true⟩,
    ⟨none, .store 4 14 (.t 12)⟩,
    ⟨none, .mov 5 (.k (.int .i64 (-3)))⟩])
   (.ret))
  (.skip)))
 (.seq (.seq (.reg [⟨none, .fad 13 3 4⟩,
   ⟨none, .load 14 13 5 true⟩,
   ⟨none, .call (some 15) 106 [(.t 14)] false⟩,
   ⟨none, .mov 16 (.t 15)⟩,
   ⟨some (16, true), .fad 17 3 4⟩,
   ⟨some (16, true), .fad 18 17 0⟩,
   ⟨some (16, true), .load 19 18 1 false⟩,
   ⟨some (16, true), .fad 20 2 2⟩,
   ⟨some (16, true), .fad 21 20 0⟩,
   ⟨some (16, true), .load 22 21 1 false⟩,
   ⟨some (16, true), .bin 23 .gtr (.t 19) (.t 22)⟩,
   ⟨none, .pick 24 (.t 16) (.t 23) (.k (.bool false))⟩])
  (.cond (.t 24)
  (.reg [⟨none, .fad 25 3 4⟩,
   ⟨none, .load 26 25 5 true⟩,
   ⟨none, .call (some 27) 116 [(.t 26)] false⟩,
   ⟨none, .fad 28 6 2⟩,
   ⟨none, .store 28 5 (.t 27)⟩])
  (.skip)))
 (.seq (.block 0 (.seq (.reg [⟨none, .fad 30 3 0⟩,
    ⟨none, .load 31 30 1 false⟩,
    ⟨none, .fad 32 2 0⟩,
    ⟨none, .load 33 32 1 false⟩,
    ⟨none, .bin 34 .neq (.t 31) (.t 33)⟩,
    ⟨none, .mov 35 (.t 34)⟩,
    ⟨some (35, false), .fad 36 2 7⟩,
    ⟨some (35, false), .load 37 36 1 false⟩,
    ⟨some (35, false), .not 38 (.t 37)⟩,
    ⟨none, .pick 39 (.t 35) (.k (.bool true)) (.t 38)⟩,
    ⟨none, .mov 40 (.t 39)⟩,
    ⟨some (40, false), .fad 41 3 1⟩,
    ⟨some (40, false), .load 42 41 1 false⟩,
    ⟨some (40, false), .fad 43 2 1⟩,
    ⟨some (40, false), .load 44 43 1 false⟩,
    ⟨some (40, false), .bin 45 .neq (.t 42) (.t 44)⟩,
    ⟨none, .pick 46 (.t 40) (.k (.bool true)) (.t 45)⟩,
    ⟨none, .mov 29 (.t 46)⟩])
   (.cond (.t 29)
   (.seq (.reg [⟨none, .load 47 6 14 true⟩,
     ⟨none, .store 4 14 (.t 47)⟩,
     ⟨none, .mov 5 (.k (.int .i64 (-2)))⟩])
    (.ret))
   (.seq (.reg [⟨none, .fad 49 3 2⟩,
     ⟨none, .load 50 49 1 false⟩,
     ⟨none, .bin 51 .eql (.t 50) (.k (.int .i64 8))⟩,
     ⟨none, .mov 52 (.t 51)⟩,
     ⟨some (52, false), .fad 53 3 2⟩,
     ⟨some (52, false), .load 54 53 1 false⟩,
     ⟨some (52, false), .bin 55 .eql (.t 54) (.k (.int .i64 9))⟩,
     ⟨none, .pick 56 (.t 52) (.k (.bool true)) (.t 55)⟩,
     ⟨none, .mov 57 (.t 56)⟩,
     ⟨some (57, false), .fad 58 3 2⟩,
     ⟨some (57, false), .load 59 58 1 false⟩,
     ⟨some (57, false), .bin 60 .eql (.t 59) (.k (.int .i64 10))⟩,
     ⟨none, .pick 61 (.t 57) (.k (.bool true)) (.t 60)⟩,
     ⟨none, .mov 48 (.t 61)⟩])
    (.cond (.t 48)
    (.seq (.reg [⟨none, .load 62 6 14 true⟩,
      ⟨none, .store 4 14 (.t 62)⟩,
      ⟨none, .mov 5 (.k (.int .i64 (-1)))⟩])
     (.ret))
    (.skip))))))
 (.seq (.reg [⟨none, .call (some 63) 200 [(.t 6)] false⟩])
 (.seq (.seq (.reg [⟨none, .fad 64 3 2⟩,
   ⟨none, .load 65 64 1 false⟩,
   ⟨none, .bin 66 .lss (.t 65) (.k (.int .i64 0))⟩])
  (.cond (.t 66)
  (.seq (.reg [⟨none, .load 67 6 14 true⟩,
    ⟨none, .store 4 14 (.t 67)⟩,
    ⟨none, .mov 5 (.k (.int .i64 11))⟩])
   (.ret))
  (.skip)))
 (.seq (.reg [⟨none, .chk []⟩,
  ⟨none, .own [4]⟩,
  ⟨none, .load 68 6 14 true⟩,
  ⟨none, .fad 69 3 2⟩,
  ⟨none, .load 70 69 1 false⟩,
  ⟨none, .store 4 14 (.t 68)⟩,
  ⟨none, .mov 5 (.t 70)⟩])
 (.ret))))))))⟩
/-- impl.copyClient -/
def r199 : RF :=
 ⟨1, [.cell 2 14 true],
 .seq (.reg [⟨none, .locb 1 (.t 0)⟩,
  ⟨none, .loc 2 [.int .i64 0, .int .i64 0, .int .i64 0, .nil, .bool false, .int .u64 0, .int .i64 0, .bool false, .int .i64 0, .int .i64 0, .int .i64 0, .int .u64 0, .int .u64 0, .int .i64 0]⟩])
 (.seq (.reg [⟨none, .fad 3 1 2⟩,
  ⟨none, .load 4 3 5 true⟩,
  ⟨none, .call (some 5) 116 [(.t 4)] false⟩,
  ⟨none, .fad 6 1 2⟩,
  ⟨none, .store 6 5 (.t 5)⟩])
 (.seq (.reg [⟨none, .load 7 1 14 true⟩,
  ⟨none, .store 2 14 (.t 7)⟩])
 (.ret)))⟩
/-- (*impl.Client).stop -/
def r200 : RF :=
 ⟨1, [],
 .seq (.reg [⟨none, .mov 2 (.t 0)⟩,
  ⟨none, .nilc 3 (.t 2)⟩,
  ⟨none, .fad 4 3 7⟩,
  ⟨none, .store 4 1 (.k (.bool false))⟩])
 (.seq (.reg [⟨none, .mov 5 (.t 0)⟩,
  ⟨none, .nilc 6 (.t 5)⟩,
  ⟨none, .fad 7 6 8⟩,
  ⟨none, .store 7 1 (.k (.int .i64 0))⟩])
 (.reg [⟨none, .mov 8 (.t 0)⟩,
 ⟨none, .build 9 [.int .i64 0, .int .i64 0, .int .u64 0, .int .u64 0, .int .i64 0] []⟩,
 ⟨none, .nilc 10 (.t 8)⟩,
 ⟨none, .fad 11 10 9⟩,
 ⟨none, .store 11 5 (.t 9)⟩]))⟩
/-- (impl.Client).message -/
def r202 : RF :=
 ⟨1, [.cell 2 8 true],
 .seq (.reg [⟨none, .locb 1 (.t 0)⟩,
  ⟨none, .loc 2 [.int .i64 0, .int .i64 0, .int .i64 0, .int .i64 0, .int .i64 0, .int .u64 0, .int .u64 0, .int .i64 0]⟩])
 (.seq (.reg [⟨none, .fad 4 1 9⟩,
  ⟨none, .load 5 4 5 true⟩,
  ⟨none, .loc 3 [.int .i64 0, .int .i64 0, .int .u64 0, .int .u64 0, .int .i64 0]⟩,
  ⟨none, .store 3 5 (.t 5)⟩])
 (.seq (.reg [⟨none, .fad 6 1 2⟩,
  ⟨none, .fad 7 6 0⟩,
  ⟨none, .load 8 7 1 false⟩,
  ⟨none, .fad 9 3 0⟩,
  ⟨none, .store 9 1 (.t 8)⟩])
 (.seq (.reg [⟨none, .chk []⟩,
  ⟨none, .fad 10 1 0⟩,
  ⟨none, .load 11 10 1 false⟩,
  ⟨none, .fad 12 1 1⟩,
  ⟨none, .load 13 12 1 false⟩,
  ⟨none, .fad 14 1 2⟩,
  ⟨none, .fad 15 14 1⟩,
  ⟨none, .load 16 15 1 false⟩,
  ⟨none, .fad 17 1 2⟩,
  ⟨none, .fad 18 17 1⟩,
  ⟨none, .load 19 18 1 false⟩,
  ⟨none, .fad 20 3 2⟩,
  ⟨none, .load 21 20 1 false⟩,
  ⟨none, .load 26 3 5 true⟩,
  ⟨none, .call (some 22) 107 [(.t 19), (.t 21)] true⟩,
  ⟨none, .idx 23 7 (.t 16) (.t 22)⟩,
  ⟨none, .fad 24 23 2⟩,
  ⟨none, .load 25 24 1 false⟩,
  ⟨none, .build 27 [.int .i64 0, .int .i64 0, .int .i64 0, .int .i64 0, .int .i64 0, .int .u64 0, .int .u64 0, .int .i64 0] [(0, 1, (.t 11)), (1, 1, (.t 13)), (2, 1, (.t 25)), (3, 5, (.t 26))]⟩,
  ⟨none, .store 2 8 (.t 27)⟩])
 (.ret))))⟩
/-- The functions of this text, with their numbers. -/
def tI16 : List (Nat × RF) := [(79, r79), (90, r90), (93, r93), (110, r110), (148, r148), (151, r151), (161, r161), (176, r176), (199, r199), (200, r200), (202, r202)]
end Go.Proofs.Ytcdlbjomdokmiaa.A
/- The compact code of some functions: spec.ClientOk, spec.ClientWhere, spec.NewClient, spec.ClientStop, spec.ClientAgain, spec.ClientAsk, spec.DrawRightClient, spec.l16Copy, spec.l16Free, spec.l16Msg, spec.l16DrawRight, spec.l16DrawRequest, spec.l16DrawReply, spec.ClientHear. -/
namespace Go.Proofs.Ytcdlbjomdokmiaa.A
open Go
/-- spec.ClientOk -/
def r78 : RF :=
 ⟨1, [.tmp 2],
 .seq (.reg [⟨none, .locb 1 (.t 0)⟩,
  ⟨none, .mov 2 (.k (.bool false))⟩])
 (.seq (.seq (.reg [⟨none, .fad 3 1 0⟩,
   ⟨none, .load 4 3 1 false⟩,
   ⟨none, .call (some 5) 5 [(.t 4), (.k (.int .i64 1)), (.k (.int .i64 999))] false⟩,
   ⟨none, .not 6 (.t 5)⟩,
   ⟨none, .mov 7 (.t 6)⟩,
   ⟨some (7, false), .fad 8 1 1⟩,
   ⟨some (7, false), .load 9 8 1 false⟩,
   ⟨some (7, false), .call (some 10) 5 [(.t 9), (.k (.int .i64 0)), (.k (.int .i64 1000000))] false⟩,
   ⟨some (7, false), .not 11 (.t 10)⟩,
   ⟨none, .pick 12 (.t 7) (.k (.bool true)) (.t 11)⟩,
   ⟨none, .mov 13 (.t 12)⟩,
   ⟨some (13, false), .fad 14 1 2⟩,
   ⟨some (13, false), .load 15 14 5 true⟩,
   ⟨some (13, false), .call (some 16) 103 [(.t 15)] false⟩,
   ⟨some (13, false), .not 17 (.t 16)⟩,
   ⟨none, .pick 18 (.t 13) (.k (.bool true)) (.t 17)⟩])
  (.cond (.t 18)
  (.seq (.reg [⟨none, .mov 2 (.k (.bool false))⟩])
   (.ret))
  (.skip)))
 (.seq (.seq (.reg [⟨none, .fad 19 1 7⟩,
   ⟨none, .load 20 19 1 false⟩,
   ⟨none, .not 21 (.t 20)⟩])
  (.cond (.t 21)
  (.seq (.reg [⟨none, .fad 22 1 8⟩,
    ⟨none, .load 23 22 1 false⟩,
    ⟨none, .bin 24 .eql (.t 23) (.k (.int .i64 0))⟩,
    ⟨none, .mov 25 (.t 24)⟩,
    ⟨some (25, true), .fad 26 1 9⟩,
    ⟨some (25, true), .load 27 26 5 true⟩,
    ⟨some (25, true), .build 28 [.int .i64 0, .int .i64 0, .int .u64 0, .int .u64 0, .int .i64 0] []⟩,
    ⟨some (25, true), .eqs 29 false [.i .i64, .i .i64, .i .u64, .i .u64, .i .i64] (.t 27) (.t 28)⟩,
    ⟨none, .pick 30 (.t 25) (.t 29) (.k (.bool false))⟩,
    ⟨none, .mov 2 (.t 30)⟩])
   (.ret))
  (.skip)))
 (.seq (.reg [⟨none, .fad 31 1 1⟩,
  ⟨none, .load 32 31 1 false⟩,
  ⟨none, .bin 33 .gtr (.t 32) (.k (.int .i64 0))⟩,
  ⟨none, .mov 34 (.t 33)⟩,
  ⟨some (34, true), .fad 35 1 8⟩,
  ⟨some (34, true), .load 36 35 1 false⟩,
  ⟨some (34, true), .call (some 37) 5 [(.t 36), (.k (.int .i64 1)), (.k (.int .i64 6))] false⟩,
  ⟨none, .pick 38 (.t 34) (.t 37) (.k (.bool false))⟩,
  ⟨none, .mov 39 (.t 38)⟩,
  ⟨some (39, true), .fad 40 1 9⟩,
  ⟨some (39, true), .fad 41 40 1⟩,
  ⟨some (39, true), .load 42 41 1 false⟩,
  ⟨some (39, true), .call (some 43) 5 [(.t 42), (.k (.int .i64 0)), (.k (.int .i64 8))] false⟩,
  ⟨none, .pick 44 (.t 39) (.t 43) (.k (.bool false))⟩,
  ⟨none, .mov 45 (.t 44)⟩,
  ⟨some (45, true), .fad 46 1 9⟩,
  ⟨some (45, true), .fad 47 46 0⟩,
  ⟨some (45, true), .load 48 47 1 false⟩,
  ⟨some (45, true), .bin 49 .eql (.t 48) (.k (.int .i64 0))⟩,
  ⟨none, .pick 50 (.t 45) (.t 49) (.k (.bool false))⟩,
  ⟨none, .mov 2 (.t 50)⟩])
 (.ret))))⟩
/-- spec.ClientWhere -/
def r89 : RF :=
 ⟨2, [.tmp 4],
 .seq (.reg [⟨none, .locb 2 (.t 0)⟩,
  ⟨none, .mov 4 (.k (.int .i64 0))⟩])
 (.seq (.seq (.reg [⟨none, .load 7 2 14 true⟩,
   ⟨none, .call (some 8) 78 [(.t 7)] false⟩,
   ⟨none, .not 9 (.t 8)⟩])
  (.cond (.t 9)
  (.seq (.reg [⟨none, .mov 4 (.k (.int .i64 (-1)))⟩])
   (.ret))
  (.skip)))
 (.seq (.reg [⟨none, .fad 11 2 2⟩,
  ⟨none, .load 12 11 5 true⟩,
  ⟨none, .mov 13 (.t 1)⟩,
  ⟨none, .call (some 14) 69 [(.t 12), (.t 13)] false⟩,
  ⟨none, .mov 10 (.t 14)⟩,
  ⟨none, .ext 15 (.t 10) 0⟩,
  ⟨none, .ext 16 (.t 10) 1⟩,
  ⟨none, .mov 5 (.t 15)⟩,
  ⟨none, .mov 6 (.t 16)⟩])
 (.seq (.reg [⟨none, .mov 17 (.t 5)⟩,
  ⟨none, .mov 4 (.t 17)⟩])
 (.ret))))⟩
/-- spec.NewClient -/
def r92 : RF :=
 ⟨2, [.cell 4 14 true],
 .seq (.reg [⟨none, .locb 3 (.t 1)⟩,
  ⟨none, .loc 4 [.int .i64 0, .int .i64 0, .int .i64 0, .nil, .bool false, .int .u64 0, .int .i64 0, .bool false, .int .i64 0, .int .i64 0, .int .i64 0, .int .u64 0, .int .u64 0, .int .i64 0]⟩])
 (.seq (.reg [⟨none, .mov 6 (.t 0)⟩,
  ⟨none, .load 7 3 5 true⟩,
  ⟨none, .call (some 8) 115 [(.t 7)] false⟩,
  ⟨none, .build 9 [.int .i64 0, .int .i64 0, .int .i64 0, .nil, .bool false, .int .u64 0, .int .i64 0, .bool false, .int .i64 0, .int .i64 0, .int .i64 0, .int .u64 0, .int .u64 0, .int .i64 0] [(0, 1, (.t 6)), (2, 5, (.t 8))]⟩,
  ⟨none, .loc 5 [.int .i64 0, .int .i64 0, .int .i64 0, .nil, .bool false, .int .u64 0, .int .i64 0, .bool false, .int .i64 0, .int .i64 0, .int .i64 0, .int .u64 0, .int .u64 0, .int .i64 0]⟩,
  ⟨none, .store 5 14 (.t 9)⟩])
 (.seq (.seq (.reg [⟨none, .load 10 5 14 true⟩,
   ⟨none, .call (some 11) 78 [(.t 10)] false⟩,
   ⟨none, .not 12 (.t 11)⟩])
  (.cond (.t 12)
  (.seq (.reg [⟨none, .build 13 [.int .i64 0, .int .i64 0, .int .i64 0, .nil, .bool false, .int .u64 0, .int .i64 0, .bool false, .int .i64 0, .int .i64 0, .int .i64 0, .int .u64 0, .int .u64 0, .int .i64 0] []⟩,
    ⟨none, .store 4 14 (.t 13)⟩])
   (.ret))
  (.skip)))
 (.seq (.reg [⟨none, .load 14 5 14 true⟩,
  ⟨none, .store 4 14 (.t 14)⟩])
 (.ret))))⟩
/-- spec.ClientStop -/
def r147 : RF :=
 ⟨1, [.cell 2 14 true, .tmp 3],
 .seq (.reg [⟨none, .locb 1 (.t 0)⟩,
  ⟨none, .loc 2 [.int .i64 0, .int .i64 0, .int .i64 0, .nil, .bool false, .int .u64 0, .int .i64 0, .bool false, .int .i64 0, .int .i64 0, .int .i64 0, .int .u64 0, .int .u64 0, .int .i64 0]⟩,
  ⟨none, .mov 3 (.k (.bool false))⟩])
 (.seq (.reg [⟨none, .load 5 1 14 true⟩,
  ⟨none, .call (some 6) 197 [(.t 5)] false⟩,
  ⟨none, .loc 4 [.int .i64 0, .int .i64 0, .int .i64 0, .nil, .bool false, .int .u64 0, .int .i64 0, .bool false, .int .i64 0, .int .i64 0, .int .i64 0, .int .u64 0, .int .u64 0, .int .i64 0]⟩,
  ⟨none, .store 4 14 (.t 6)⟩])
 (.seq (.seq (.reg [⟨none, .load 7 1 14 true⟩,
   ⟨none, .call (some 8) 78 [(.t 7)] false⟩,
   ⟨none, .not 9 (.t 8)⟩,
   ⟨none, .mov 10 (.t 9)⟩,
   ⟨some (10, false), .fad 11 1 7⟩,
   ⟨some (10, false), .load 12 11 1 false⟩,
   ⟨some (10, false), .not 13 (.t 12)⟩,
   ⟨none, .pick 14 (.t 10) (.k (.bool true)) (.t 13)⟩])
  (.cond (.t 14)
  (.seq (.reg [⟨none, .load 15 4 14 true⟩,
    ⟨none, .store 2 14 (.t 15)⟩,
    ⟨none, .mov 3 (.k (.bool false))⟩])
   (.ret))
  (.skip)))
 (.seq (.reg [⟨none, .load 16 4 14 true⟩,
  ⟨none, .call (some 17) 198 [(.t 16)] false⟩,
  ⟨none, .store 2 14 (.t 17)⟩,
  ⟨none, .mov 3 (.k (.bool true))⟩])
 (.ret))))⟩
/-- spec.ClientAgain -/
def r150 : RF :=
 ⟨1, [.cell 2 14 true, .cell 3 8 true, .tmp 4],
 .seq (.reg [⟨none, .locb 1 (.t 0)⟩,
  ⟨none, .loc 2 [.int .i64 0, .int .i64 0, .int .i64 0, .nil, .bool false, .int .u64 0, .int .i64 0, .bool false, .int .i64 0, .int .i64 0, .int .i64 0, .int .u64 0, .int .u64 0, .int .i64 0]⟩,
  ⟨none, .loc 3 [.int .i64 0, .int .i64 0, .int .i64 0, .int .i64 0, .int .i64 0, .int .u64 0, .int .u64 0, .int .i64 0]⟩,
  ⟨none, .mov 4 (.k (.bool false))⟩])
 (.seq (.reg [⟨none, .load 6 1 14 true⟩,
  ⟨none, .call (some 7) 197 [(.t 6)] false⟩,
  ⟨none, .loc 5 [.int .i64 0, .int .i64 0, .int .i64 0, .nil, .bool false, .int .u64 0, .int .i64 0, .bool false, .int .i64 0, .int .i64 0, .int .i64 0, .int .u64 0, .int .u64 0, .int .i64 0]⟩,
  ⟨none, .store 5 14 (.t 7)⟩])
 (.seq (.seq (.reg [⟨none, .load 8 1 14 true⟩,
   ⟨none, .call (some 9) 78 [(.t 8)] false⟩,
   ⟨none, .not 10 (.t 9)⟩,
   ⟨none, .mov 11 (.t 10)⟩,
   ⟨some (11, false), .fad 12 1 7⟩,
   ⟨some (11, false), .load 13 12 1 false⟩,
   ⟨some (11, false), .not 14 (.t 13)⟩,
   ⟨none, .pick 15 (.t 11) (.k (.bool true)) (.t 14)⟩,
   ⟨none, .mov 16 (.t 15)⟩,
   ⟨some (16, false), .fad 17 1 8⟩,
   ⟨some (16, false), .load 18 17 1 false⟩,
   ⟨some (16, false), .bin 19 .eql (.t 18) (.k (.int .i64 6))⟩,
   ⟨none, .pick 20 (.t 16) (.k (.bool true)) (.t 19)⟩])
  (.cond (.t 20)
  (.seq (.reg [⟨none, .load 21 5 14 true⟩,
    ⟨none, .build 22 [.int .i64 0, .int .i64 0, .int .i64 0, .int .i64 0, .int .i64 0, .int .u64 0, .int .u64 0, .int .i64 0] []⟩,
    ⟨none, .store 2 14 (.t 21)⟩,
    ⟨none, .store 3 8 (.t 22)⟩,
    ⟨none, .mov 4 (.k (.bool false))⟩])
   (.ret))
  (.skip)))
 (.seq (.reg [⟨none, .fad 23 1 8⟩,
  ⟨none, .load 24 23 1 false⟩,
  ⟨none, .bin 25 .add (.t 24) (.k (.int .i64 1))⟩,
  ⟨none, .fad 26 5 8⟩,
  ⟨none, .store 26 1 (.t 25)⟩])
 (.seq (.reg [⟨none, .chk []⟩,
  ⟨none, .load 27 5 14 true⟩,
  ⟨none, .load 28 5 14 true⟩,
  ⟨none, .call (some 29) 201 [(.t 28)] true⟩,
  ⟨none, .store 2 14 (.t 27)⟩,
  ⟨none, .store 3 8 (.t 29)⟩,
  ⟨none, .mov 4 (.k (.bool true))⟩])
 (.ret)))))⟩
/-- spec.ClientAsk -/
def r160 : RF :=
 ⟨2, [.cell 4 14 true, .cell 5 8 true, .tmp 6],
 .seq (.reg [⟨none, .locb 2 (.t 0)⟩,
  ⟨none, .locb 3 (.t 1)⟩,
  ⟨none, .loc 4 [.int .i64 0, .int .i64 0, .int .i64 0, .nil, .bool false, .int .u64 0, .int .i64 0, .bool false, .int .i64 0, .int .i64 0, .int .i64 0, .int .u64 0, .int .u64 0, .int .i64 0]⟩,
  ⟨none, .loc 5 [.int .i64 0, .int .i64 0, .int .i64 0, .int .i64 0, .int .i64 0, .int .u64 0, .int .u64 0, .int .i64 0]⟩,
  ⟨none, .mov 6 (.k (.bool false))⟩])
 (.seq (.reg [⟨none, .load 8 2 14 true⟩,
  ⟨none, .call (some 9) 197 [(.t 8)] false⟩,
  ⟨none, .loc 7 [.int .i64 0, .int .i64 0, .int .i64 0, .nil, .bool false, .int .u64 0, .int .i64 0, .bool false, .int .i64 0, .int .i64 0, .int .i64 0, .int .u64 0, .int .u64 0, .int .i64 0]⟩,
  ⟨none, .store 7 14 (.t 9)⟩])
 (.seq (.seq (.reg [⟨none, .load 10 2 14 true⟩,
   ⟨none, .call (some 11) 78 [(.t 10)] false⟩,
   ⟨none, .not 12 (.t 11)⟩,
   ⟨none, .mov 13 (.t 12)⟩,
   ⟨some (13, false), .fad 14 2 7⟩,
   ⟨some (13, false), .load 15 14 1 false⟩,
   ⟨none, .pick 16 (.t 13) (.k (.bool true)) (.t 15)⟩,
   ⟨none, .mov 17 (.t 16)⟩,
   ⟨some (17, false), .fad 18 3 1⟩,
   ⟨some (17, false), .load 19 18 1 false⟩,
   ⟨some (17, false), .call (some 20) 5 [(.t 19), (.k (.int .i64 0)), (.k (.int .i64 8))] false⟩,
   ⟨some (17, false), .not 21 (.t 20)⟩,
   ⟨none, .pick 22 (.t 17) (.k (.bool true)) (.t 21)⟩,
   ⟨none, .mov 23 (.t 22)⟩,
   ⟨some (23, false), .fad 24 2 1⟩,
   ⟨some (23, false), .load 25 24 1 false⟩,
   ⟨some (23, false), .bin 26 .eql (.t 25) (.k (.int .i64 1000000))⟩,
   ⟨none, .pick 27 (.t 23) (.k (.bool true)) (.t 26)⟩])
  (.cond (.t 27)
  (.seq (.reg [⟨none, .load 28 7 14 true⟩,
    ⟨none, .build 29 [.int .i64 0, .int .i64 0, .int .i64 0, .int .i64 0, .int .i64 0, .int .u64 0, .int .u64 0, .int .i64 0] []⟩,
    ⟨none, .store 4 14 (.t 28)⟩,
    ⟨none, .store 5 8 (.t 29)⟩,
    ⟨none, .mov 6 (.k (.bool false))⟩])
   (.ret))
  (.skip)))
 (.seq (.reg [⟨none, .fad 30 3 0⟩,
  ⟨none, .store 30 1 (.k (.int .i64 0))⟩])
 (.seq (.reg [⟨none, .fad 31 7 7⟩,
  ⟨none, .store 31 1 (.k (.bool true))⟩])
 (.seq (.reg [⟨none, .load 32 3 5 true⟩,
  ⟨none, .fad 33 7 9⟩,
  ⟨none, .store 33 5 (.t 32)⟩])
 (.seq (.reg [⟨none, .fad 34 2 1⟩,
  ⟨none, .load 35 34 1 false⟩,
  ⟨none, .bin 36 .add (.t 35) (.k (.int .i64 1))⟩,
  ⟨none, .fad 37 7 1⟩,
  ⟨none, .store 37 1 (.t 36)⟩])
 (.seq (.reg [⟨none, .fad 38 7 8⟩,
  ⟨none, .store 38 1 (.k (.int .i64 1))⟩])
 (.seq (.reg [⟨none, .chk []⟩,
  ⟨none, .load 39 7 14 true⟩,
  ⟨none, .load 40 7 14 true⟩,
  ⟨none, .call (some 41) 201 [(.t 40)] true⟩,
  ⟨none, .store 4 14 (.t 39)⟩,
  ⟨none, .store 5 8 (.t 41)⟩,
  ⟨none, .mov 6 (.k (.bool true))⟩])
 (.ret)))))))))⟩
/-- spec.DrawRightClient -/
def r175 : RF :=
 ⟨1, [.cell 2 14 true, .cell 3 5 true, .cell 4 5 true],
 .seq (.reg [⟨none, .loc 2 [.int .i64 0, .int .i64 0, .int .i64 0, .nil, .bool false, .int .u64 0, .int .i64 0, .bool false, .int .i64 0, .int .i64 0, .int .i64 0, .int .u64 0, .int .u64 0, .int .i64 0]⟩,
  ⟨none, .loc 3 [.int .i64 0, .nil, .bool false, .int .u64 0, .int .i64 0]⟩,
  ⟨none, .loc 4 [.int .i64 0, .int .i64 0, .int .u64 0, .int .u64 0, .int .i64 0]⟩])
 (.seq (.reg [⟨none, .mov 9 (.t 0)⟩,
  ⟨none, .call (some 10) 194 [(.t 9)] false⟩,
  ⟨none, .mov 5 (.t 10)⟩])
 (.seq (.reg [⟨none, .mov 12 (.t 5)⟩,
  ⟨none, .mov 13 (.t 0)⟩,
  ⟨none, .call (some 14) 219 [(.t 12), (.t 13)] false⟩,
  ⟨none, .mov 11 (.t 14)⟩,
  ⟨none, .ext 15 (.t 11) 0⟩,
  ⟨none, .ext 16 (.t 11) 1⟩,
  ⟨none, .loc 6 [.int .i64 0, .int .i64 0, .int .i64 0, .nil, .bool false, .int .u64 0, .int .i64 0, .bool false, .int .i64 0, .int .i64 0, .int .i64 0, .int .u64 0, .int .u64 0, .int .i64 0]⟩,
  ⟨none, .loc 7 [.int .i64 0, .nil, .bool false, .int .u64 0, .int .i64 0]⟩,
  ⟨none, .store 6 14 (.t 15)⟩,
  ⟨none, .store 7 5 (.t 16)⟩])
 (.seq (.reg [⟨none, .mov 17 (.t 5)⟩,
  ⟨none, .call (some 18) 220 [(.t 17)] false⟩,
  ⟨none, .loc 8 [.int .i64 0, .int .i64 0, .int .u64 0, .int .u64 0, .int .i64 0]⟩,
  ⟨none, .store 8 5 (.t 18)⟩])
 (.seq (.seq (.reg [⟨none, .fad 19 8 1⟩,
   ⟨none, .load 20 19 1 false⟩,
   ⟨none, .call (some 21) 5 [(.t 20), (.k (.int .i64 0)), (.k (.int .i64 8))] false⟩,
   ⟨none, .not 22 (.t 21)⟩])
  (.cond (.t 22)
  (.reg [⟨none, .fad 23 8 1⟩,
   ⟨none, .store 23 1 (.k (.int .i64 8))⟩])
  (.skip)))
 (.seq (.reg [⟨none, .chk []⟩,
  ⟨none, .own [3, 2]⟩,
  ⟨none, .load 24 6 14 true⟩,
  ⟨none, .load 25 7 5 true⟩,
  ⟨none, .load 26 8 5 true⟩,
  ⟨none, .store 2 14 (.t 24)⟩,
  ⟨none, .store 3 5 (.t 25)⟩,
  ⟨none, .store 4 5 (.t 26)⟩])
 (.ret))))))⟩
/-- spec.l16Copy -/
def r197 : RF :=
 ⟨1, [.cell 2 14 true],
 .seq (.reg [⟨none, .locb 1 (.t 0)⟩,
  ⟨none, .loc 2 [.int .i64 0, .int .i64 0, .int .i64 0, .nil, .bool false, .int .u64 0, .int .i64 0, .bool false, .int .i64 0, .int .i64 0, .int .i64 0, .int .u64 0, .int .u64 0, .int .i64 0]⟩])
 (.seq (.reg [⟨none, .fad 3 1 2⟩,
  ⟨none, .load 4 3 5 true⟩,
  ⟨none, .call (some 5) 115 [(.t 4)] false⟩,
  ⟨none, .fad 6 1 2⟩,
  ⟨none, .store 6 5 (.t 5)⟩])
 (.seq (.reg [⟨none, .load 7 1 14 true⟩,
  ⟨none, .store 2 14 (.t 7)⟩])
 (.ret)))⟩
/-- spec.l16Free -/
def r198 : RF :=
 ⟨1, [.cell 2 14 true],
 .seq (.reg [⟨none, .locb 1 (.t 0)⟩,
  ⟨none, .loc 2 [.int .i64 0, .int .i64 0, .int .i64 0, .nil, .bool false, .int .u64 0, .int .i64 0, .bool false, .int .i64 0, .int .i64 0, .int .i64 0, .int .u64 0, .int .u64 0, .int .i64 0]⟩])
 (.seq (.reg [⟨none, .fad 3 1 7⟩,
  ⟨none, .store 3 1 (.k (.bool false))⟩])
 (.seq (.reg [⟨none, .fad 4 1 8⟩,
  ⟨none, .store 4 1 (.k (.int .i64 0))⟩])
 (.seq (.reg [⟨none, .build 5 [.int .i64 0, .int .i64 0, .int .u64 0, .int .u64 0, .int .i64 0] []⟩,
  ⟨none, .fad 6 1 9⟩,
  ⟨none, .store 6 5 (.t 5)⟩])
 (.seq (.reg [⟨none, .load 7 1 14 true⟩,
  ⟨none, .store 2 14 (.t 7)⟩])
 (.ret)))))⟩
/-- spec.l16Msg -/
def r201 : RF :=
 ⟨1, [.cell 2 8 true],
 .seq (.reg [⟨none, .locb 1 (.t 0)⟩,
  ⟨none, .loc 2 [.int .i64 0, .int .i64 0, .int .i64 0, .int .i64 0, .int .i64 0, .int .u64 0, .int .u64 0, .int .i64 0]⟩])
 (.seq (.reg [⟨none, .fad 7 1 2⟩,
  ⟨none, .load 8 7 5 true⟩,
  ⟨none, .fad 9 1 9⟩,
  ⟨none, .fad 10 9 2⟩,
  ⟨none, .load 11 10 1 false⟩,
  ⟨none, .call (some 12) 69 [(.t 8), (.t 11)] false⟩,
  ⟨none, .mov 6 (.t 12)⟩,
  ⟨none, .ext 13 (.t 6) 0⟩,
  ⟨none, .ext 14 (.t 6) 1⟩,
  ⟨none, .mov 3 (.t 13)⟩,
  ⟨none, .mov 4 (.t 14)⟩])
 (.seq (.reg [⟨none, .fad 15 1 9⟩,
  ⟨none, .load 16 15 5 true⟩,
  ⟨none, .loc 5 [.int .i64 0, .int .i64 0, .int .u64 0, .int .u64 0, .int .i64 0]⟩,
  ⟨none, .store 5 5 (.t 16)⟩])
 (.seq (.reg [⟨none, .mov 17 (.t 4)⟩,
  ⟨none, .fad 18 5 0⟩,
  ⟨none, .store 18 1 (.t 17)⟩])
 (.seq (.reg [⟨none, .fad 19 1 0⟩,
  ⟨none, .load 20 19 1 false⟩,
  ⟨none, .fad 21 1 1⟩,
  ⟨none, .load 22 21 1 false⟩,
  ⟨none, .mov 23 (.t 3)⟩,
  ⟨none, .load 24 5 5 true⟩,
  ⟨none, .build 25 [.int .i64 0, .int .i64 0, .int .i64 0, .int .i64 0, .int .i64 0, .int .u64 0, .int .u64 0, .int .i64 0] [(0, 1, (.t 20)), (1, 1, (.t 22)), (2, 1, (.t 23)), (3, 5, (.t 24))]⟩,
  ⟨none, .store 2 8 (.t 25)⟩])
 (.ret)))))⟩
/-- A loop of spec.l16DrawRight. -/
def r219L0 : RC :=
 .seq (.seq (.reg [⟨none, .mov 29 (.t 10)⟩,
      ⟨none, .bin 30 .gtr (.t 29) (.k (.int .i64 0))⟩])
     (.cond (.t 30)
     (.skip)
     (.exit 0)))
    (.seq (.block 1 (.seq (.reg [⟨none, .mov 33 (.t 0)⟩,
       ⟨none, .call (some 34) 236 [(.t 33), (.k (.int .i64 4))] false⟩])
      (.block 2 (.seq (.seq (.reg [⟨none, .bin 45 .eql (.t 34) (.k (.int .i64 0))⟩,
         ⟨none, .mov 44 (.t 45)⟩])
        (.cond (.t 44)
        (.skip)
        (.reg [⟨none, .bin 46 .eql (.t 34) (.k (.int .i64 1))⟩,
         ⟨none, .mov 44 (.t 46)⟩])))
       (.cond (.t 44)
       (.reg [⟨none, .chk []⟩,
        ⟨none, .mov 49 (.t 0)⟩,
        ⟨none, .load 48 9 14 true⟩,
        ⟨none, .call (some 50) 220 [(.t 49)] true⟩,
        ⟨none, .call (some 51) 160 [(.t 48), (.t 50)] true⟩,
        ⟨none, .mov 47 (.t 51)⟩,
        ⟨none, .ext 52 (.t 47) 0⟩,
        ⟨none, .ext 53 (.t 47) 1⟩,
        ⟨none, .ext 54 (.t 47) 2⟩,
        ⟨none, .store 9 14 (.t 52)⟩])
       (.seq (.reg [⟨none, .bin 56 .eql (.t 34) (.k (.int .i64 2))⟩,
         ⟨none, .mov 55 (.t 56)⟩])
        (.cond (.t 55)
        (.reg [⟨none, .load 58 9 14 true⟩,
         ⟨none, .call (some 59) 150 [(.t 58)] false⟩,
         ⟨none, .mov 57 (.t 59)⟩,
         ⟨none, .ext 60 (.t 57) 0⟩,
         ⟨none, .ext 61 (.t 57) 1⟩,
         ⟨none, .ext 62 (.t 57) 2⟩,
         ⟨none, .store 9 14 (.t 60)⟩])
        (.reg [⟨none, .chk []⟩,
         ⟨none, .mov 37 (.t 0)⟩,
         ⟨none, .load 36 9 14 true⟩,
         ⟨none, .load 38 9 14 true⟩,
         ⟨none, .load 39 7 5 true⟩,
         ⟨none, .call (some 40) 252 [(.t 37), (.t 38), (.t 39)] true⟩,
         ⟨none, .call (some 41) 253 [(.t 36), (.t 40)] true⟩,
         ⟨none, .mov 35 (.t 41)⟩,
         ⟨none, .ext 42 (.t 35) 0⟩,
         ⟨none, .ext 43 (.t 35) 1⟩,
         ⟨none, .store 9 14 (.t 42)⟩]))))))))
    (.reg [⟨none, .mov 31 (.t 10)⟩,
    ⟨none, .bin 32 .sub (.t 31) (.k (.int .i64 1))⟩,
    ⟨none, .mov 10 (.t 32)⟩]))
/-- spec.l16DrawRight -/
def r219 : RF :=
 ⟨2, [.cell 4 14 true, .cell 5 5 true],
 .seq (.reg [⟨none, .loc 4 [.int .i64 0, .int .i64 0, .int .i64 0, .nil, .bool false, .int .u64 0, .int .i64 0, .bool false, .int .i64 0, .int .i64 0, .int .i64 0, .int .u64 0, .int .u64 0, .int .i64 0]⟩,
  ⟨none, .loc 5 [.int .i64 0, .nil, .bool false, .int .u64 0, .int .i64 0]⟩])
 (.seq (.reg [⟨none, .mov 11 (.t 0)⟩,
  ⟨none, .mov 12 (.t 1)⟩,
  ⟨none, .call (some 13) 225 [(.t 11), (.t 12)] false⟩,
  ⟨none, .loc 6 [.int .i64 0, .nil, .bool false, .int .u64 0, .int .i64 0]⟩,
  ⟨none, .store 6 5 (.t 13)⟩])
 (.seq (.reg [⟨none, .chk [7]⟩,
  ⟨none, .loc 7 [.int .i64 0, .nil, .bool false, .int .u64 0, .int .i64 0]⟩,
  ⟨none, .mov 16 (.t 0)⟩,
  ⟨none, .mov 17 (.t 1)⟩,
  ⟨none, .load 15 6 5 true⟩,
  ⟨none, .call (some 18) 226 [(.t 16), (.t 17)] true⟩,
  ⟨none, .call (some 19) 187 [(.t 15), (.t 18)] true⟩,
  ⟨none, .mov 14 (.t 19)⟩,
  ⟨none, .ext 20 (.t 14) 0⟩,
  ⟨none, .ext 21 (.t 14) 1⟩,
  ⟨none, .store 7 5 (.t 20)⟩,
  ⟨none, .mov 8 (.t 21)⟩])
 (.seq (.reg [⟨none, .chk [9]⟩,
  ⟨none, .loc 9 [.int .i64 0, .int .i64 0, .int .i64 0, .nil, .bool false, .int .u64 0, .int .i64 0, .bool false, .int .i64 0, .int .i64 0, .int .i64 0, .int .u64 0, .int .u64 0, .int .i64 0]⟩,
  ⟨none, .mov 22 (.t 0)⟩,
  ⟨none, .load 25 6 5 true⟩,
  ⟨none, .call (some 23) 236 [(.t 22), (.k (.int .i64 9))] true⟩,
  ⟨none, .bin 24 .add (.k (.int .i64 1)) (.t 23)⟩,
  ⟨none, .call (some 26) 92 [(.t 24), (.t 25)] true⟩,
  ⟨none, .store 9 14 (.t 26)⟩])
 (.seq (.seq (.reg [⟨none, .mov 27 (.t 0)⟩,
   ⟨none, .call (some 28) 236 [(.t 27), (.k (.int .i64 8))] false⟩,
   ⟨none, .mov 10 (.t 28)⟩])
  (.block 0 (.loop [0, 4, 5, 7, 9, 10]
   r219L0)))
 (.seq (.reg [⟨none, .chk []⟩,
  ⟨none, .own [4]⟩,
  ⟨none, .load 63 9 14 true⟩,
  ⟨none, .load 64 7 5 true⟩,
  ⟨none, .store 4 14 (.t 63)⟩,
  ⟨none, .store 5 5 (.t 64)⟩])
 (.ret))))))⟩
/-- spec.l16DrawRequest -/
def r220 : RF :=
 ⟨1, [.cell 2 5 true],
 .seq (.reg [⟨none, .loc 2 [.int .i64 0, .int .i64 0, .int .u64 0, .int .u64 0, .int .i64 0]⟩])
 (.seq (.reg [⟨none, .mov 4 (.t 0)⟩,
  ⟨none, .mov 5 (.t 0)⟩,
  ⟨none, .call (some 6) 236 [(.t 5), (.k (.int .i64 11))] false⟩,
  ⟨none, .bin 7 .sub (.t 6) (.k (.int .i64 1))⟩,
  ⟨none, .lit 8 15 6 [.int .i64 0] [(0, (.k (.int .i64 0))), (1, (.k (.int .i64 2))), (2, (.k (.int .i64 3))), (3, (.k (.int .i64 8))), (4, (.k (.int .i64 4))), (5, (.t 7))]⟩,
  ⟨none, .call (some 9) 239 [(.t 4), (.t 8)] false⟩,
  ⟨none, .mov 10 (.t 0)⟩,
  ⟨none, .call (some 11) 235 [(.t 10)] false⟩,
  ⟨none, .mov 12 (.t 0)⟩,
  ⟨none, .call (some 13) 236 [(.t 12), (.k (.int .i64 3))] false⟩,
  ⟨none, .build 14 [.int .i64 0, .int .i64 0, .int .u64 0, .int .u64 0, .int .i64 0] [(1, 1, (.t 9)), (2, 1, (.t 11)), (4, 1, (.t 13))]⟩,
  ⟨none, .loc 3 [.int .i64 0, .int .i64 0, .int .u64 0, .int .u64 0, .int .i64 0]⟩,
  ⟨none, .store 3 5 (.t 14)⟩])
 (.seq (.reg [⟨none, .mov 15 (.t 0)⟩,
  ⟨none, .call (some 16) 237 [(.t 15)] false⟩,
  ⟨none, .fad 17 3 3⟩,
  ⟨none, .store 17 1 (.t 16)⟩])
 (.seq (.reg [⟨none, .mov 18 (.t 0)⟩,
  ⟨none, .call (some 19) 236 [(.t 18), (.k (.int .i64 2))] false⟩,
  ⟨none, .fad 20 3 0⟩,
  ⟨none, .store 20 1 (.t 19)⟩])
 (.seq (.reg [⟨none, .load 21 3 5 true⟩,
  ⟨none, .store 2 5 (.t 21)⟩])
 (.ret)))))⟩
/-- spec.l16DrawReply -/
def r252 : RF :=
 ⟨3, [.cell 6 9 true],
 .seq (.reg [⟨none, .locb 4 (.t 1)⟩,
  ⟨none, .locb 5 (.t 2)⟩,
  ⟨none, .loc 6 [.int .i64 0, .int .i64 0, .int .i64 0, .int .u64 0, .int .i64 0, .nil, .bool false, .int .u64 0, .int .i64 0]⟩])
 (.seq (.reg [⟨none, .chk [7]⟩,
  ⟨none, .loc 7 [.int .i64 0, .int .i64 0, .int .i64 0, .int .u64 0, .int .i64 0, .nil, .bool false, .int .u64 0, .int .i64 0]⟩,
  ⟨none, .mov 12 (.t 0)⟩,
  ⟨none, .mov 15 (.t 0)⟩,
  ⟨none, .fad 8 4 0⟩,
  ⟨none, .load 9 8 1 false⟩,
  ⟨none, .fad 10 4 1⟩,
  ⟨none, .load 11 10 1 false⟩,
  ⟨none, .lit 13 15 10 [.int .i64 0] [(0, (.k (.int .i64 0))), (1, (.k (.int .i64 0))), (2, (.k (.int .i64 0))), (3, (.k (.int .i64 2))), (4, (.k (.int .i64 4))), (5, (.k (.int .i64 8))), (6, (.k (.int .i64 9))), (7, (.k (.int .i64 10))), (8, (.k (.int .i64 11))), (9, (.k (.int .i64 (-1))))]⟩,
  ⟨none, .call (some 14) 239 [(.t 12), (.t 13)] true⟩,
  ⟨none, .call (some 16) 237 [(.t 15)] true⟩,
  ⟨none, .build 17 [.int .i64 0, .int .i64 0, .int .i64 0, .int .u64 0, .int .i64 0, .nil, .bool false, .int .u64 0, .int .i64 0] [(0, 1, (.t 9)), (1, 1, (.t 11)), (2, 1, (.t 14)), (3, 1, (.t 16))]⟩,
  ⟨none, .store 7 9 (.t 17)⟩])
 (.seq (.seq (.reg [⟨none, .mov 18 (.t 0)⟩,
   ⟨none, .call (some 19) 240 [(.t 18), (.k (.int .i64 2))] false⟩])
  (.cond (.t 19)
  (.reg [⟨none, .load 20 5 5 true⟩,
   ⟨none, .fad 21 7 4⟩,
   ⟨none, .store 21 5 (.t 20)⟩])
  (.skip)))
 (.seq (.seq (.reg [⟨none, .mov 22 (.t 0)⟩,
   ⟨none, .call (some 23) 236 [(.t 22), (.k (.int .i64 10))] false⟩])
  (.block 0 (.seq (.reg [⟨none, .bin 25 .eql (.t 23) (.k (.int .i64 0))⟩,
    ⟨none, .mov 24 (.t 25)⟩])
   (.cond (.t 24)
   (.reg [⟨none, .fad 26 7 0⟩,
    ⟨none, .load 27 26 1 false⟩,
    ⟨none, .bin 28 .add (.t 27) (.k (.int .i64 1))⟩,
    ⟨none, .fad 29 7 0⟩,
    ⟨none, .store 29 1 (.t 28)⟩])
   (.seq (.reg [⟨none, .bin 31 .eql (.t 23) (.k (.int .i64 1))⟩,
     ⟨none, .mov 30 (.t 31)⟩])
    (.cond (.t 30)
    (.reg [⟨none, .fad 32 7 1⟩,
     ⟨none, .load 33 32 1 false⟩,
     ⟨none, .bin 34 .sub (.t 33) (.k (.int .i64 1))⟩,
     ⟨none, .fad 35 7 1⟩,
     ⟨none, .store 35 1 (.t 34)⟩])
    (.skip)))))))
 (.seq (.reg [⟨none, .load 36 7 9 true⟩,
  ⟨none, .store 6 9 (.t 36)⟩])
 (.ret)))))⟩
/-- spec.ClientHear -/
def r253 : RF :=
 ⟨2, [.cell 4 14 true, .tmp 5],
 .seq (.reg [⟨none, .locb 2 (.t 0)⟩,
  ⟨none, .locb 3 (.t 1)⟩,
  ⟨none, .loc 4 [.int .i64 0, .int .i64 0, .int .i64 0, .nil, .bool false, .int .u64 0, .int .i64 0, .bool false, .int .i64 0, .int .i64 0, .int .i64 0, .int .u64 0, .int .u64 0, .int .i64 0]⟩,
  ⟨none, .mov 5 (.k (.int .i64 0))⟩])
 (.seq (.reg [⟨none, .load 7 2 14 true⟩,
  ⟨none, .call (some 8) 197 [(.t 7)] false⟩,
  ⟨none, .loc 6 [.int .i64 0, .int .i64 0, .int .i64 0, .nil, .bool false, .int .u64 0, .int .i64 0, .bool false, .int .i64 0, .int .i64 0, .int .i64 0, .int .u64 0, .int .u64 0, .int .i64 0]⟩,
  ⟨none, .store 6 14 (.t 8)⟩])
 (.seq (.seq (.reg [⟨none, .load 9 2 14 true⟩,
   ⟨none, .call (some 10) 78 [(.t 9)] false⟩,
   ⟨none, .not 11 (.t 10)⟩])
  (.cond (.t 11)
  (.seq (.reg [⟨none, .load 12 6 14 true⟩,
    ⟨none, .store 4 14 (.t 12)⟩,
    ⟨none, .mov 5 (.k (.int .i64 (-3)))⟩])
   (.ret))
  (.skip)))
 (.seq (.seq (.reg [⟨none, .fad 13 3 4⟩,
   ⟨none, .load 14 13 5 true⟩,
   ⟨none, .call (some 15) 103 [(.t 14)] false⟩,
   ⟨none, .mov 16 (.t 15)⟩,
   ⟨some (16, true), .fad 17 3 4⟩,
   ⟨some (16, true), .fad 18 17 0⟩,
   ⟨some (16, true), .load 19 18 1 false⟩,
   ⟨some (16, true), .fad 20 2 2⟩,
   ⟨some (16, true), .fad 21 20 0⟩,
   ⟨some (16, true), .load 22 21 1 false⟩,
   ⟨some (16, true), .bin 23 .gtr (.t 19) (.t 22)⟩,
   ⟨none, .pick 24 (.t 16) (.t 23) (.k (.bool false))⟩])
  (.cond (.t 24)
  (.reg [⟨none, .fad 25 3 4⟩,
   ⟨none, .load 26 25 5 true⟩,
   ⟨none, .call (some 27) 115 [(.t 26)] false⟩,
   ⟨none, .fad 28 6 2⟩,
   ⟨none, .store 28 5 (.t 27)⟩])
  (.skip)))
 (.seq (.seq (.reg [⟨none, .fad 29 3 0⟩,
   ⟨none, .load 30 29 1 false⟩,
   ⟨none, .fad 31 2 0⟩,
   ⟨none, .load 32 31 1 false⟩,
   ⟨none, .bin 33 .neq (.t 30) (.t 32)⟩,
   ⟨none, .mov 34 (.t 33)⟩,
   ⟨some (34, false), .fad 35 2 7⟩,
   ⟨some (34, false), .load 36 35 1 false⟩,
   ⟨some (34, false), .not 37 (.t 36)⟩,
   ⟨none, .pick 38 (.t 34) (.k (.bool true)) (.t 37)⟩,
   ⟨none, .mov 39 (.t 38)⟩,
   ⟨some (39, false), .fad 40 3 1⟩,
   ⟨some (39, false), .load 41 40 1 false⟩,
   ⟨some (39, false), .fad 42 2 1⟩,
   ⟨some (39, false), .load 43 42 1 false⟩,
   ⟨some (39, false), .bin 44 .neq (.t 41) (.t 43)⟩,
   ⟨none, .pick 45 (.t 39) (.k (.bool true)) (.t 44)⟩])
  (.cond (.t 45)
  (.seq (.reg [⟨none, .load 46 6 14 true⟩,
    ⟨none, .store 4 14 (.t 46)⟩,
    ⟨none, .mov 5 (.k (.int .i64 (-2)))⟩])
   (.ret))
  (.skip)))
 (.seq (.seq (.reg [⟨none, .fad 47 3 2⟩,
   ⟨none, .load 48 47 1 false⟩,
   ⟨none, .call (some 49) 5 [(.t 48), (.k (.int .i64 8)), (.k (.int .i64 10))] false⟩])
  (.cond (.t 49)
  (.seq (.reg [⟨none, .load 50 6 14 true⟩,
    ⟨none, .store 4 14 (.t 50)⟩,
    ⟨none, .mov 5 (.k (.int .i64 (-1)))⟩])
   (.ret))
  (.skip)))
 (.seq (.seq (.reg [⟨none, .fad 51 3 2⟩,
   ⟨none, .load 52 51 1 false⟩,
   ⟨none, .bin 53 .lss (.t 52) (.k (.int .i64 0))⟩])
  (.cond (.t 53)
  (.seq (.reg [⟨none, .load 54 6 14 true⟩,
    ⟨none, .call (some 55) 198 [(.t 54)] false⟩,
    ⟨none, .store 4 14 (.t 55)⟩,
    ⟨none, .mov 5 (.k (.int .i64 11))⟩])
   (.ret))
  (.skip)))
 (.seq (.reg [⟨none, .chk []⟩,
  ⟨none, .own [4]⟩,
  ⟨none, .load 56 6 14 true⟩,
  ⟨none, .fad 58 3 2⟩,
  ⟨none, .load 59 58 1 false⟩,
  ⟨none, .call (some 57) 198 [(.t 56)] true⟩,
  ⟨none, .store 4 14 (.t 57)⟩,
  ⟨none, .mov 5 (.t 59)⟩])
 (.ret))))))))⟩
/-- The functions of this text, with their numbers. -/
def tS16 : List (Nat × RF) := [(78, r78), (89, r89), (92, r92), (147, r147), (150, r150), (160, r160), (175, r175), (197, r197), (198, r198), (201, r201), (219, r219), (220, r220), (252, r252), (253, r253)]
end Go.Proofs.Ytcdlbjomdokmiaa.A
/- What the functions of a client compute: is it right, and where it asks. -/
namespace Go.Proofs.Ytcdlbjomdokmiaa.A
open Go
set_option linter.unusedSimpArgs false
set_option linter.unusedVariables false
def Client.good (c : Client) : Bool := inR c.id 1 999 && (inR c.seq 0 1000000 && (c.chart.good && (bif c.busy then inR c.ask.op 0 8 && (c.ask.epoch == 0 && (inR c.tries 1 6 && decide (0 < c.seq))) else c.tries == 0 && decide (c.ask = Request.none_))))
def Client.where_ (c : Client) (id : Int) : Int := bif c.good then (c.chart.of_ id).group else -1
theorem request_eqs (e o i a t : Int) : eqsR false [.i .i64, .i .i64, .i .u64, .i .u64, .i .i64] (some (.agg [.int .i64 e, .int .i64 o, .int .u64 i, .int .u64 a, .int .i64 t])) (some (.agg [.int .i64 0, .int .i64 0, .int .u64 0, .int .u64 0, .int .i64 0])) = some (.bool (decide ((⟨e, o, i, a, t⟩ : Request) = Request.none_))) := by
  have hc : cellsEq? [.i .i64, .i .i64, .i .u64, .i .u64, .i .i64] [.int .i64 e, .int .i64 o, .int .u64 i, .int .u64 a, .int .i64 t] [.int .i64 0, .int .i64 0, .int .u64 0, .int .u64 0, .int .i64 0] = some (decide ((⟨e, o, i, a, t⟩ : Request) = Request.none_)) := by
    simp only [cellsEq?, eqK, and_self, if_true, Option.bind_some, Request.none_]
    cases h1 : (e == 0) <;> cases h2 : (o == 0) <;> cases h3 : (i == 0) <;> cases h4 : (a == 0) <;> cases h5 : (t == 0) <;> simp_all
  simp only [eqsR, List.length_cons, List.length_nil, and_self, if_true, hc, Option.bind_some, Bool.false_xor]
section
variable {F : Nat → Option RF} {Z : CallF} {h : Heap} {cs : List Cell} {c : Client} {fp : List Nat}
set_option maxHeartbeats 4000000 in
theorem isClient_run (hI11 : Has F tI11) (hI12 : Has F tI12) (hI16 : Has F tI16) (hLi : Has F tLibslicesIndexFuncimplRangeimplRange) (v : Client.RI h cs c fp) (ok : c.chart.Ok) : ∃ h', call F Z 110 [.agg cs] h = some (.c (.bool c.good), h') ∧ On h h' := by
  obtain ⟨x, p, rfl, rfl, w⟩ := v
  obtain ⟨h1, e1, o1⟩ := isChart_run (Z := Z) hI11 hI12 hLi (⟨x, _, rfl, rfl, w⟩ : Chart.RI h _ c.chart _) ok
  have o0 := On.refl h
  rw [call_run F Z (hI16.lk (g := 110) rfl) _ _ rfl]
  simp only [run0, run1, run2, run3, run4, noSlot, ownS, ownK, memN, RO.dst, lk, drop, forget, number, Nat.reduceBEq, cut?, splice?, builds, List.length_cons, List.length_nil, List.drop_succ_cons, List.drop_zero, List.take_succ_cons, List.take_zero, List.cons_append, List.nil_append, List.append_nil, List.drop_nil, List.take_nil, Nat.reduceAdd, Nat.reduceLeDiff, Nat.zero_add, Nat.add_zero, ↓reduceIte, Bool.not_true, Bool.not_false, decide_true, decide_false, eq_self, bne_self_eq_false, List.getElem?_cons_zero, List.getElem?_cons_succ, decide_eq_true_eq, Bool.false_eq_true, Bool.true_eq_false, reduceCtorEq, Nat.le_refl]
  clear w
  generalize hcg : c.chart.good = b at e1
  have hgd : c.good = (inR c.id 1 999 && (inR c.seq 0 1000000 && (b && (bif c.busy then inR c.ask.op 0 8 && (c.ask.epoch == 0 && (inR c.tries 1 6 && decide (0 < c.seq))) else c.tries == 0 && decide (c.ask = Request.none_))))) := by rw [← hcg]; rfl
  rw [hgd]
  clear hgd
  have hq := request_eqs c.ask.epoch c.ask.op c.ask.id c.ask.amount c.ask.tx
  (repeat' ((first | (rw [gF_if]; split) | (rw [condC_if]; split) | (rw [pickR_if]; split)) <;> (rename_i hh; (try simp only [Bool.not_eq_true, decide_eq_true_eq] at hh); simp only [hh, run0, run1, run2, run3, run4, noSlot, ownS, ownK, memN, RO.dst, lk, drop, forget, number, Nat.reduceBEq, cut?, splice?, builds, List.length_cons, List.length_nil, List.drop_succ_cons, List.drop_zero, List.take_succ_cons, List.take_zero, List.cons_append, List.nil_append, List.append_nil, List.drop_nil, List.take_nil, Nat.reduceAdd, Nat.reduceLeDiff, Nat.zero_add, Nat.add_zero, ↓reduceIte, Bool.not_true, Bool.not_false, decide_true, decide_false, eq_self, bne_self_eq_false, List.getElem?_cons_zero, List.getElem?_cons_succ, decide_eq_true_eq, Bool.false_eq_true, Bool.true_eq_false, reduceCtorEq, Nat.le_refl, e1, hq])))
  all_goals clear hq e1 hcg
  all_goals first
    | (refine ⟨_, ?_, o0⟩; clear o0 o1; simp_all [inR]; done)
    | (refine ⟨_, ?_, o0⟩; clear o0 o1; simp_all [inR]; intros; omega)
    | (refine ⟨_, ?_, o1⟩; clear o0 o1; simp_all [inR]; done)
    | (refine ⟨_, ?_, o1⟩; clear o0 o1; simp_all [inR]; intros; omega)
set_option maxHeartbeats 4000000 in
theorem sClientOk_run (hS : Has F tS01d) (hS11 : Has F tS11) (hS12 : Has F tS12) (hS16 : Has F tS16) (v : Client.RI h cs c fp) (ok : c.chart.Ok) : call F Z 78 [.agg cs] h = some (.c (.bool c.good), h) := by
  obtain ⟨x, p, rfl, rfl, w⟩ := v
  have e1 := sChartOk_run (Z := Z) hS hS11 hS12 (⟨x, _, rfl, rfl, w⟩ : Chart.RI h _ c.chart _) ok
  rw [call_run F Z (hS16.lk (g := 78) rfl) _ _ rfl]
  simp only [run0, run1, run2, run3, run4, noSlot, ownS, ownK, memN, RO.dst, lk, drop, forget, number, Nat.reduceBEq, cut?, splice?, builds, List.length_cons, List.length_nil, List.drop_succ_cons, List.drop_zero, List.take_succ_cons, List.take_zero, List.cons_append, List.nil_append, List.append_nil, List.drop_nil, List.take_nil, Nat.reduceAdd, Nat.reduceLeDiff, Nat.zero_add, Nat.add_zero, ↓reduceIte, Bool.not_true, Bool.not_false, decide_true, decide_false, eq_self, bne_self_eq_false, List.getElem?_cons_zero, List.getElem?_cons_succ, decide_eq_true_eq, Bool.false_eq_true, Bool.true_eq_false, reduceCtorEq, Nat.le_refl, l01In_run hS]
  clear w
  generalize hcg : c.chart.good = b at e1
  have hgd : c.good = (inR c.id 1 999 && (inR c.seq 0 1000000 && (b && (bif c.busy then inR c.ask.op 0 8 && (c.ask.epoch == 0 && (inR c.tries 1 6 && decide (0 < c.seq))) else c.tries == 0 && decide (c.ask = Request.none_))))) := by rw [← hcg]; rfl
  rw [hgd]
  clear hgd
  have hq := request_eqs c.ask.epoch c.ask.op c.ask.id c.ask.amount c.ask.tx
  (repeat' ((first | (rw [gF_if]; split) | (rw [condC_if]; split) | (rw [pickR_if]; split)) <;> (rename_i hh; (try simp only [Bool.not_eq_true, decide_eq_true_eq] at hh); simp only [hh, run0, run1, run2, run3, run4, noSlot, ownS, ownK, memN, RO.dst, lk, drop, forget, number, Nat.reduceBEq, cut?, splice?, builds, List.length_cons, List.length_nil, List.drop_succ_cons, List.drop_zero, List.take_succ_cons, List.take_zero, List.cons_append, List.nil_append, List.append_nil, List.drop_nil, List.take_nil, Nat.reduceAdd, Nat.reduceLeDiff, Nat.zero_add, Nat.add_zero, ↓reduceIte, Bool.not_true, Bool.not_false, decide_true, decide_false, eq_self, bne_self_eq_false, List.getElem?_cons_zero, List.getElem?_cons_succ, decide_eq_true_eq, Bool.false_eq_true, Bool.true_eq_false, reduceCtorEq, Nat.le_refl, e1, hq, l01In_run hS])))
  all_goals clear hq e1 hcg
  all_goals first
    | (simp_all [inR]; done)
    | (simp_all [inR]; intros; omega)
end
end Go.Proofs.Ytcdlbjomdokmiaa.A
/- Copies of a chart, new clients and where a client asks. -/
namespace Go.Proofs.Ytcdlbjomdokmiaa.A
open Go
set_option linter.unusedSimpArgs false
set_option linter.unusedVariables false
def Chart.zero_ : Chart := ⟨0, [], false, 0, 0⟩
def Client.zero_ : Client := ⟨0, 0, Chart.zero_, false, 0, Request.none_⟩
def newClient (id : Int) (c : Chart) : Client := bif (⟨id, 0, c, false, 0, Request.none_⟩ : Client).good then ⟨id, 0, c, false, 0, Request.none_⟩ else Client.zero_
theorem newClient_small {id : Int} {c : Chart} (sm : c.Small) : (newClient id c).Small := by
  unfold newClient
  cases (⟨id, 0, c, false, 0, Request.none_⟩ : Client).good with
  | false => simp [Client.zero_, Client.Small, Chart.Small, Chart.zero_]
  | true => exact sm
section
variable {F : Nat → Option RF} {Z : CallF} {h : Heap} {cs : List Cell} {fp : List Nat}
theorem ClientOk_c {c : Client} (hI11 : Has F tI11) (hI12 : Has F tI12) (hI16 : Has F tI16) (hLi : Has F tLibslicesIndexFuncimplRangeimplRange) (hf : h.floor ≤ h.next) (v : Client.RI h cs c fp) (ok : c.Ok) : ∃ h', call F Z 79 [.agg cs] h = some (.c (.bool c.good), h') ∧ On h h' := by
  obtain ⟨h1, e1, o1⟩ := isClient_run (Z := Z) hI11 hI12 hI16 hLi v ok.chart
  obtain ⟨l1, l2, l3⟩ := Client.lenI v
  rw [call_run F Z (hI16.lk (g := 79) rfl) _ _ rfl]
  simp only [run0, run1, run2, run3, run4, noSlot, ownS, ownK, memN, RO.dst, lk, drop, forget, number, Nat.reduceBEq, cut?, splice?, builds, List.length_cons, List.length_nil, List.drop_succ_cons, List.drop_zero, List.take_succ_cons, List.take_zero, List.cons_append, List.nil_append, List.append_nil, List.drop_nil, List.take_nil, Nat.reduceAdd, Nat.reduceLeDiff, Nat.zero_add, Nat.add_zero, ↓reduceIte, Bool.not_true, Bool.not_false, decide_true, decide_false, eq_self, bne_self_eq_false, List.getElem?_cons_zero, List.getElem?_cons_succ, decide_eq_true_eq, Bool.false_eq_true, Bool.true_eq_false, reduceCtorEq, Nat.le_refl, l1, l2, l3, e1]
  exact ⟨_, rfl, o1⟩
theorem sClientOk_c {c : Client} (hS : Has F tS01d) (hS11 : Has F tS11) (hS12 : Has F tS12) (hS16 : Has F tS16) (hf : h.floor ≤ h.next) (v : Client.RI h cs c fp) (ok : c.Ok) : ∃ h', call F Z 78 [.agg cs] h = some (.c (.bool c.good), h') ∧ On h h' :=
  ⟨h, sClientOk_run hS hS11 hS12 hS16 v ok.chart, On.refl h⟩
theorem ClientWhere_c {c : Client} (hI11 : Has F tI11) (hI12 : Has F tI12) (hI16 : Has F tI16) (hLi : Has F tLibslicesIndexFuncimplRangeimplRange) (hf : h.floor ≤ h.next) (v : Client.RI h cs c fp) (id : Int) (ok : c.Ok) (g : 0 ≤ id ∧ id ≤ 18446744073709551615) :
    ∃ h', call F Z 90 [.agg cs, .c (.int .u64 id)] h = some (.c (.int .i64 (c.where_ id)), h') ∧ On h h' := by
  obtain ⟨h1, e1, o1⟩ := isClient_run (Z := Z) hI11 hI12 hI16 hLi v ok.chart
  obtain ⟨x, p, rfl, rfl, w⟩ := v
  rw [call_run F Z (hI16.lk (g := 90) rfl) _ _ rfl]
  cases hg : c.good with
  | false =>
    rw [hg] at e1
    simp only [run0, run1, run2, run3, run4, noSlot, ownS, ownK, memN, RO.dst, lk, drop, forget, number, Nat.reduceBEq, cut?, splice?, builds, List.length_cons, List.length_nil, List.drop_succ_cons, List.drop_zero, List.take_succ_cons, List.take_zero, List.cons_append, List.nil_append, List.append_nil, List.drop_nil, List.take_nil, Nat.reduceAdd, Nat.reduceLeDiff, Nat.zero_add, Nat.add_zero, ↓reduceIte, Bool.not_true, Bool.not_false, decide_true, decide_false, eq_self, bne_self_eq_false, List.getElem?_cons_zero, List.getElem?_cons_succ, decide_eq_true_eq, Bool.false_eq_true, Bool.true_eq_false, reduceCtorEq, Nat.le_refl, e1]
    exact ⟨_, by simp [Client.where_, hg], o1⟩
  | true =>
    rw [hg] at e1
    have hcg : c.chart.good = true := by simp only [Client.good, Bool.and_eq_true] at hg; exact hg.2.2.1
    obtain ⟨i, hi, q1, _, q2, _, _⟩ := Chart.has (c := c.chart) (Chart.good_ranges hcg) g.1 g.2
    have w1 := w.on (Fl.ok _) o1
    obtain ⟨hq, k, fr, hgq, on2⟩ := findRange_q (Z := Z) hI11 hLi w1 id
    rw [q1] at fr
    have hld : ∀ j n, loadP k x.sid i j n = cut? (Range.at_ c.chart.ranges i).enc j n := (w1.on (Fl.ok _) on2).loadD Range.none_ hi
    simp only [run0, run1, run2, run3, run4, noSlot, ownS, ownK, memN, RO.dst, lk, drop, forget, number, Nat.reduceBEq, cut?, splice?, builds, List.length_cons, List.length_nil, List.drop_succ_cons, List.drop_zero, List.take_succ_cons, List.take_zero, List.cons_append, List.nil_append, List.append_nil, List.drop_nil, List.take_nil, Nat.reduceAdd, Nat.reduceLeDiff, Nat.zero_add, Nat.add_zero, ↓reduceIte, Bool.not_true, Bool.not_false, decide_true, decide_false, eq_self, bne_self_eq_false, List.getElem?_cons_zero, List.getElem?_cons_succ, decide_eq_true_eq, Bool.false_eq_true, Bool.true_eq_false, reduceCtorEq, Nat.le_refl, e1, fr, hgq, hld, w.idx hi, Range.enc]
    exact ⟨_, by simp [Client.where_, hg, q2], o1.trans on2⟩
theorem sClientWhere_c {c : Client} (hS : Has F tS01d) (hS11 : Has F tS11) (hS12 : Has F tS12) (hS16 : Has F tS16) (hf : h.floor ≤ h.next) (v : Client.RI h cs c fp) (id : Int) (ok : c.Ok) (g : 0 ≤ id ∧ id ≤ 18446744073709551615) :
    ∃ h', call F Z 89 [.agg cs, .c (.int .u64 id)] h = some (.c (.int .i64 (c.where_ id)), h') ∧ On h h' := by
  have e1 := sClientOk_run (Z := Z) hS hS11 hS12 hS16 v ok.chart
  obtain ⟨x, p, rfl, rfl, w⟩ := v
  obtain ⟨h2, e2, o2⟩ := sRouteOf_run (Z := Z) hS hS11 hS12 (⟨x, _, rfl, rfl, w⟩ : Chart.RI h _ c.chart _) ok.chart g.1 g.2
  rw [call_run F Z (hS16.lk (g := 89) rfl) _ _ rfl]
  cases hg : c.good with
  | false =>
    rw [hg] at e1
    simp only [run0, run1, run2, run3, run4, noSlot, ownS, ownK, memN, RO.dst, lk, drop, forget, number, Nat.reduceBEq, cut?, splice?, builds, List.length_cons, List.length_nil, List.drop_succ_cons, List.drop_zero, List.take_succ_cons, List.take_zero, List.cons_append, List.nil_append, List.append_nil, List.drop_nil, List.take_nil, Nat.reduceAdd, Nat.reduceLeDiff, Nat.zero_add, Nat.add_zero, ↓reduceIte, Bool.not_true, Bool.not_false, decide_true, decide_false, eq_self, bne_self_eq_false, List.getElem?_cons_zero, List.getElem?_cons_succ, decide_eq_true_eq, Bool.false_eq_true, Bool.true_eq_false, reduceCtorEq, Nat.le_refl, e1]
    exact ⟨_, by simp [Client.where_, hg], On.refl h⟩
  | true =>
    rw [hg] at e1
    have hcg : c.chart.good = true := by simp only [Client.good, Bool.and_eq_true] at hg; exact hg.2.2.1
    simp only [run0, run1, run2, run3, run4, noSlot, ownS, ownK, memN, RO.dst, lk, drop, forget, number, Nat.reduceBEq, cut?, splice?, builds, List.length_cons, List.length_nil, List.drop_succ_cons, List.drop_zero, List.take_succ_cons, List.take_zero, List.cons_append, List.nil_append, List.append_nil, List.drop_nil, List.take_nil, Nat.reduceAdd, Nat.reduceLeDiff, Nat.zero_add, Nat.add_zero, ↓reduceIte, Bool.not_true, Bool.not_false, decide_true, decide_false, eq_self, bne_self_eq_false, List.getElem?_cons_zero, List.getElem?_cons_succ, decide_eq_true_eq, Bool.false_eq_true, Bool.true_eq_false, reduceCtorEq, Nat.le_refl, e1, e2]
    exact ⟨_, by simp [Client.where_, hg, Chart.route, hcg], o2⟩
variable {c : Chart}
theorem copyChart_c (hI12 : Has F tI12) (hf : h.floor ≤ h.next) (v : Chart.RI h cs c fp) (sm : c.ranges.length ≤ 1048576) : ∃ cs' h' fq, call F Z 116 [.agg cs] h = some (.agg cs', h') ∧ On h h' ∧ Chart.RI h' cs' c fq ∧ Fre h fq := by
  obtain ⟨x, p, rfl, rfl, w⟩ := v
  have a0 := Acc.lit0 (tag := 7) (On.refl h)
  have w' := w.on (Fl.ok _) (On.push h [])
  have ce := a0.cat_eq (bytes := 24) (y := x) (new := c.ranges.map Range.enc) hf w'.isTag w'.rows (by simp; omega)
  have ac := a0.cat (new := c.ranges.map Range.enc) hf (by simp; omega)
  simp only [List.nil_append] at ac
  obtain ⟨o, fq, u, f⟩ := ac.flat
  rw [call_run F Z (hI12.lk (g := 116) rfl) _ _ rfl]
  simp only [run0, run1, run2, run3, run4, noSlot, ownS, ownK, memN, RO.dst, lk, drop, forget, number, Nat.reduceBEq, cut?, splice?, builds, List.length_cons, List.length_nil, List.drop_succ_cons, List.drop_zero, List.take_succ_cons, List.take_zero, List.cons_append, List.nil_append, List.append_nil, List.drop_nil, List.take_nil, Nat.reduceAdd, Nat.reduceLeDiff, Nat.zero_add, Nat.add_zero, ↓reduceIte, Bool.not_true, Bool.not_false, decide_true, decide_false, eq_self, bne_self_eq_false, List.getElem?_cons_zero, List.getElem?_cons_succ, decide_eq_true_eq, Bool.false_eq_true, Bool.true_eq_false, reduceCtorEq, Nat.le_refl, List.replicate_zero, fills, ce]
  exact ⟨_, _, _, rfl, o, ⟨_, _, rfl, rfl, u⟩, f⟩
theorem l12Copy_c (hS12 : Has F tS12) (hf : h.floor ≤ h.next) (v : Chart.RI h cs c fp) (sm : c.ranges.length ≤ 1048576) : ∃ cs' h' fq, call F Z 115 [.agg cs] h = some (.agg cs', h') ∧ On h h' ∧ Chart.RI h' cs' c fq ∧ Fre h fq := by
  obtain ⟨x, p, rfl, rfl, w⟩ := v
  rw [call_run F Z (hS12.lk (g := 115) rfl) _ _ rfl]
  simp only [run0, run1, run2, run3, run4, noSlot, ownS, ownK, memN, RO.dst, lk, drop, forget, number, Nat.reduceBEq, cut?, splice?, builds, List.length_cons, List.length_nil, List.drop_succ_cons, List.drop_zero, List.take_succ_cons, List.take_zero, List.cons_append, List.nil_append, List.append_nil, List.drop_nil, List.take_nil, Nat.reduceAdd, Nat.reduceLeDiff, Nat.zero_add, Nat.add_zero, ↓reduceIte, Bool.not_true, Bool.not_false, decide_true, decide_false, eq_self, bne_self_eq_false, List.getElem?_cons_zero, List.getElem?_cons_succ, decide_eq_true_eq, Bool.false_eq_true, Bool.true_eq_false, reduceCtorEq, Nat.le_refl]
  obtain ⟨y1, h1, a1, l1⟩ := loop_acc (F := F) (Z := Z) (live := [1, 2, 3, 4]) (b := r115L0) c.ranges (fun r => [r.enc]) 7 h (fun i y g => ⟨[(4, .c (.int .i64 (i : Nat)))], [(1, 1, 0), (2, 2, 0), (3, 3, 0)], [(1, [.int .i64 c.epoch, x, .bool c.moving, .int .u64 c.lo, .int .i64 c.to]), (2, [.int .i64 0, .nil, .bool false, .int .u64 0, .int .i64 0]), (3, [.int .i64 c.epoch, y, .bool c.moving, .int .u64 c.lo, .int .i64 c.to])], g⟩) (fun r => by simp) (fun i hi y g rows a hr => by
    have e1 := a.one_eq hf (bytes := 24) (by omega)
    have a1 := a.one hf (by omega)
    have hlt : (i : Int) < c.ranges.length := by omega
    have wg := w.on (Fl.ok _) a.on
    rw [loop_run]
    conv in (codeF _ _ r115L0 _) => unfold r115L0
    simp only [run0, run1, run2, run3, run4, noSlot, ownS, ownK, memN, RO.dst, lk, drop, forget, number, Nat.reduceBEq, cut?, splice?, builds, List.length_cons, List.length_nil, List.drop_succ_cons, List.drop_zero, List.take_succ_cons, List.take_zero, List.cons_append, List.nil_append, List.append_nil, List.drop_nil, List.take_nil, Nat.reduceAdd, Nat.reduceLeDiff, Nat.zero_add, Nat.add_zero, ↓reduceIte, Bool.not_true, Bool.not_false, decide_true, decide_false, eq_self, bne_self_eq_false, List.getElem?_cons_zero, List.getElem?_cons_succ, decide_eq_true_eq, Bool.false_eq_true, Bool.true_eq_false, reduceCtorEq, Nat.le_refl, w.len, hlt, w.idx hi, wg.load hi, Range.len, Range.tak, wrapS i (by omega), List.replicate_succ, List.replicate_zero, fills, and_self, Nat.zero_lt_one, List.set_cons_zero, e1]
    exact ⟨_, _, a1 _, rfl⟩) (Acc.nil 7 h)
  simp only [show ((0 : Nat) : Int) = 0 from rfl] at l1
  have hlt : ¬ (c.ranges.length : Int) < c.ranges.length := by omega
  rw [l1, loop_run]
  conv in (codeF _ _ r115L0 _) => unfold r115L0
  simp only [run0, run1, run2, run3, run4, noSlot, ownS, ownK, memN, RO.dst, lk, drop, forget, number, Nat.reduceBEq, cut?, splice?, builds, List.length_cons, List.length_nil, List.drop_succ_cons, List.drop_zero, List.take_succ_cons, List.take_zero, List.cons_append, List.nil_append, List.append_nil, List.drop_nil, List.take_nil, Nat.reduceAdd, Nat.reduceLeDiff, Nat.zero_add, Nat.add_zero, ↓reduceIte, Bool.not_true, Bool.not_false, decide_true, decide_false, eq_self, bne_self_eq_false, List.getElem?_cons_zero, List.getElem?_cons_succ, decide_eq_true_eq, Bool.false_eq_true, Bool.true_eq_false, reduceCtorEq, Nat.le_refl, w.len, hlt]
  have hm : c.ranges.flatMap (fun r => [r.enc]) = c.ranges.map Range.enc := by
    induction c.ranges with
    | nil => rfl
    | cons a r ih => rw [List.flatMap_cons, ih]; rfl
  rw [hm] at a1
  obtain ⟨o, fq, u, f⟩ := a1.flat
  exact ⟨_, _, _, rfl, o, ⟨_, _, rfl, rfl, u⟩, f⟩
theorem Client.zero_R (h : Heap) : Client.RI h [.int .i64 0, .int .i64 0, .int .i64 0, .nil, .bool false, .int .u64 0, .int .i64 0, .bool false, .int .i64 0, .int .i64 0, .int .i64 0, .int .u64 0, .int .u64 0, .int .i64 0] Client.zero_ [] := ⟨.nil, [], rfl, rfl, SlR.nil _ _ _⟩
theorem NewClient_c (hI11 : Has F tI11) (hI12 : Has F tI12) (hI16 : Has F tI16) (hLi : Has F tLibslicesIndexFuncimplRangeimplRange) (hf : h.floor ≤ h.next) (id : Int) (v : Chart.RI h cs c fp) (ok : c.Ok) (sm : c.ranges.length ≤ 1048576) :
    ∃ cs' h' fq, call F Z 93 [.c (.int .i64 id), .agg cs] h = some (.agg cs', h') ∧ On h h' ∧ Client.RI h' cs' (newClient id c) fq ∧ Fre h fq := by
  obtain ⟨l1, l2, l3⟩ := Chart.lenI v
  obtain ⟨_, h1, _, e1, o1, ⟨y, q, rfl, rfl, u⟩, f⟩ := copyChart_c (Z := Z) hI12 hf v sm
  obtain ⟨h2, e2, o2⟩ := isClient_run (Z := Z) (c := ⟨id, 0, c, false, 0, Request.none_⟩) hI11 hI12 hI16 hLi ⟨y, _, rfl, rfl, u⟩ ok
  rw [call_run F Z (hI16.lk (g := 93) rfl) _ _ rfl]
  simp only [Request.none_] at e2
  cases hg : (⟨id, 0, c, false, 0, Request.none_⟩ : Client).good with
  | false =>
    simp only [Request.none_] at hg
    rw [hg] at e2
    simp only [run0, run1, run2, run3, run4, noSlot, ownS, ownK, memN, RO.dst, lk, drop, forget, number, Nat.reduceBEq, cut?, splice?, builds, List.length_cons, List.length_nil, List.drop_succ_cons, List.drop_zero, List.take_succ_cons, List.take_zero, List.cons_append, List.nil_append, List.append_nil, List.drop_nil, List.take_nil, Nat.reduceAdd, Nat.reduceLeDiff, Nat.zero_add, Nat.add_zero, ↓reduceIte, Bool.not_true, Bool.not_false, decide_true, decide_false, eq_self, bne_self_eq_false, List.getElem?_cons_zero, List.getElem?_cons_succ, decide_eq_true_eq, Bool.false_eq_true, Bool.true_eq_false, reduceCtorEq, Nat.le_refl, l1, l2, l3, e1, e2]
    exact ⟨_, _, _, rfl, o1.trans o2, by simp only [newClient, Request.none_, hg, cond_false]; exact Client.zero_R _, Fre.nil h⟩
  | true =>
    simp only [Request.none_] at hg
    rw [hg] at e2
    simp only [run0, run1, run2, run3, run4, noSlot, ownS, ownK, memN, RO.dst, lk, drop, forget, number, Nat.reduceBEq, cut?, splice?, builds, List.length_cons, List.length_nil, List.drop_succ_cons, List.drop_zero, List.take_succ_cons, List.take_zero, List.cons_append, List.nil_append, List.append_nil, List.drop_nil, List.take_nil, Nat.reduceAdd, Nat.reduceLeDiff, Nat.zero_add, Nat.add_zero, ↓reduceIte, Bool.not_true, Bool.not_false, decide_true, decide_false, eq_self, bne_self_eq_false, List.getElem?_cons_zero, List.getElem?_cons_succ, decide_eq_true_eq, Bool.false_eq_true, Bool.true_eq_false, reduceCtorEq, Nat.le_refl, l1, l2, l3, e1, e2]
    exact ⟨_, _, _, rfl, o1.trans o2, by simp only [newClient, Request.none_, hg, cond_true]; exact ⟨y, _, rfl, rfl, u.on (Fl.ok _) o2⟩, f⟩
theorem sNewClient_c (hS : Has F tS01d) (hS11 : Has F tS11) (hS12 : Has F tS12) (hS16 : Has F tS16) (hf : h.floor ≤ h.next) (id : Int) (v : Chart.RI h cs c fp) (ok : c.Ok) (sm : c.ranges.length ≤ 1048576) :
    ∃ cs' h' fq, call F Z 92 [.c (.int .i64 id), .agg cs] h = some (.agg cs', h') ∧ On h h' ∧ Client.RI h' cs' (newClient id c) fq ∧ Fre h fq := by
  obtain ⟨l1, l2, l3⟩ := Chart.lenI v
  obtain ⟨_, h1, _, e1, o1, ⟨y, q, rfl, rfl, u⟩, f⟩ := l12Copy_c (Z := Z) hS12 hf v sm
  have e2 := sClientOk_run (Z := Z) (c := ⟨id, 0, c, false, 0, Request.none_⟩) hS hS11 hS12 hS16 ⟨y, _, rfl, rfl, u⟩ ok
  rw [call_run F Z (hS16.lk (g := 92) rfl) _ _ rfl]
  simp only [Request.none_] at e2
  cases hg : (⟨id, 0, c, false, 0, Request.none_⟩ : Client).good with
  | false =>
    simp only [Request.none_] at hg
    rw [hg] at e2
    simp only [run0, run1, run2, run3, run4, noSlot, ownS, ownK, memN, RO.dst, lk, drop, forget, number, Nat.reduceBEq, cut?, splice?, builds, List.length_cons, List.length_nil, List.drop_succ_cons, List.drop_zero, List.take_succ_cons, List.take_zero, List.cons_append, List.nil_append, List.append_nil, List.drop_nil, List.take_nil, Nat.reduceAdd, Nat.reduceLeDiff, Nat.zero_add, Nat.add_zero, ↓reduceIte, Bool.not_true, Bool.not_false, decide_true, decide_false, eq_self, bne_self_eq_false, List.getElem?_cons_zero, List.getElem?_cons_succ, decide_eq_true_eq, Bool.false_eq_true, Bool.true_eq_false, reduceCtorEq, Nat.le_refl, l1, l2, l3, e1, e2]
    exact ⟨_, _, _, rfl, o1, by simp only [newClient, Request.none_, hg, cond_false]; exact Client.zero_R _, Fre.nil h⟩
  | true =>
    simp only [Request.none_] at hg
    rw [hg] at e2
    simp only [run0, run1, run2, run3, run4, noSlot, ownS, ownK, memN, RO.dst, lk, drop, forget, number, Nat.reduceBEq, cut?, splice?, builds, List.length_cons, List.length_nil, List.drop_succ_cons, List.drop_zero, List.take_succ_cons, List.take_zero, List.cons_append, List.nil_append, List.append_nil, List.drop_nil, List.take_nil, Nat.reduceAdd, Nat.reduceLeDiff, Nat.zero_add, Nat.add_zero, ↓reduceIte, Bool.not_true, Bool.not_false, decide_true, decide_false, eq_self, bne_self_eq_false, List.getElem?_cons_zero, List.getElem?_cons_succ, decide_eq_true_eq, Bool.false_eq_true, Bool.true_eq_false, reduceCtorEq, Nat.le_refl, l1, l2, l3, e1, e2]
    exact ⟨_, _, _, rfl, o1, by simp only [newClient, Request.none_, hg, cond_true]; exact ⟨y, _, rfl, rfl, u⟩, f⟩
end
end Go.Proofs.Ytcdlbjomdokmiaa.A
/- The reference's deeds with ranges, called with the floor raised. -/
namespace Go.Proofs.Ytcdlbjomdokmiaa.A
open Go
section
variable {F : Nat → Option RF} {Z : CallF} {h hp : Heap} {x : Cell} {xs : List Range} {fp : List Nat}
theorem sSplitRange_q (hS : Has F tS01d) (hS11 : Has F tS11) (w : SlR 7 (Fl Range.enc) h x xs fp) (a g : Int) (ha : 0 ≤ a ∧ a ≤ 18446744073709551615) (hok : ∀ t, t ∈ xs → t.Ok) (sm : xs.length ≤ 1048576) :
    ∃ y h' k fq, call F Z 221 [.c x, .c (.int .u64 a), .c (.int .i64 g)] ⟨h.next, h.next, h.get⟩ = some (.tup [.c y, .c (.bool (splitRg xs a g).2)], h') ∧ Heap.mk h'.next h.floor h'.get = k ∧ On h k ∧ SlR 7 (Fl Range.enc) k y (splitRg xs a g).1 fq ∧ Fre h fq := by
  obtain ⟨y, h', fq, e, o, u, f⟩ := sSplitRange_c (Z := Z) (h := ⟨h.next, h.next, h.get⟩) hS hS11 (Nat.le_refl _) (w.up (Fl.ok _) h.next) a g ha hok sm
  exact ⟨y, h', _, fq, e, rfl, ⟨⟨o.ext.1, o.ext.2⟩, rfl⟩, u.up (Fl.ok _) h.floor, ⟨f.lo, f.nd⟩⟩
end
end Go.Proofs.Ytcdlbjomdokmiaa.A
