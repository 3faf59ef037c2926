/- What the functions of a chart compute: is it right, and routes. -/
import Derived.Test.YtgogajbfiocdbaaMChart
import Derived.Test.YtgogajbfiocdbaaL11
import Derived.Test.YtgogajbfiocdbaaGI12
import Derived.Test.YtgogajbfiocdbaaGS12
namespace Go.Proofs.Ytgogajbfiocdbaa.A
open Go
set_option linter.unusedSimpArgs false
set_option linter.unusedVariables false
/-- The range of an id. -/
def Chart.of_ (c : Chart) (id : Int) : Range := Range.at_ c.ranges (findHi c.ranges id).toNat
def Chart.good (c : Chart) : Bool := inR c.epoch 1 1000000 && (rangesOk c.ranges && (bif c.moving then (c.of_ c.lo).lo == c.lo && (inR c.to 0 99 && c.to != (c.of_ c.lo).group) else c.lo == 0 && c.to == 0))
def Chart.route (c : Chart) (id : Int) : Int × Int := bif c.good then ((c.of_ id).group, c.epoch) else (-1, -1)
theorem Chart.good_ranges {c : Chart} (h : c.good = true) : rangesOk c.ranges = true := by
  simp only [Chart.good, Bool.and_eq_true] at h; exact h.2.1
/-- Where an id lies. -/
theorem Chart.has {c : Chart} (hr : rangesOk c.ranges = true) {id : Int} (h0 : 0 ≤ id) (h1 : id ≤ 18446744073709551615) :
    ∃ i, i < c.ranges.length ∧ findHi c.ranges id = (i : Int) ∧ findCov c.ranges id = (i : Int) ∧ c.of_ id = Range.at_ c.ranges i ∧ (Range.at_ c.ranges i).lo ≤ id ∧ id ≤ (Range.at_ c.ranges i).hi := by
  obtain ⟨i, h1, h2, h3, h4, h5⟩ := (rangesOk_fit hr).has h0 h1
  exact ⟨i, h1, h2, h3, by simp [Chart.of_, h2], h4, h5⟩
theorem On.quiet {h h' : Heap} (o : On { h with floor := h.next } h') : On h { h' with floor := h.floor } := ⟨⟨o.ext.1, o.ext.2⟩, rfl⟩
theorem On.up (h : Heap) : On h { h with floor := h.floor } := ⟨⟨Nat.le_refl _, fun _ _ => rfl⟩, rfl⟩
theorem SlR.up {α : Type} {R : Rel α} {tag : Nat} {h : Heap} {x : Cell} {xs : List α} {fp : List Nat} (w : SlR tag R h x xs fp) (ok : RelOk R) (n : Nat) : SlR tag R { h with floor := n } x xs fp := w.mv ok (Nat.le_refl _) fun _ _ => rfl
/-- A call with the floor raised, and the heap behind it as one thing. -/
theorem quietly {F : Nat → Option RF} {Z : CallF} {h h' : Heap} {f : Nat} {vs : List V} {r : V} (e : call F Z f vs ⟨h.next, h.next, h.get⟩ = some (r, h')) (o : On ⟨h.next, h.next, h.get⟩ h') :
    ∃ h' g, call F Z f vs ⟨h.next, h.next, h.get⟩ = some (r, h') ∧ Heap.mk h'.next h.floor h'.get = g ∧ On h g := ⟨h', _, e, rfl, ⟨⟨o.ext.1, o.ext.2⟩, rfl⟩⟩
theorem RelOk.up {α : Type} {R : Rel α} (ok : RelOk R) {h : Heap} {cs : List Cell} {a : α} {fp : List Nat} (w : R h cs a fp) (n : Nat) : R ⟨h.next, n, h.get⟩ cs a fp := ok.mv w (Nat.le_refl _) fun _ _ => rfl
section
variable {F : Nat → Option RF} {Z : CallF} {h : Heap} {cs cs' : List Cell} {c d : Chart} {fp fq : List Nat}
theorem findRange_q (hI11 : Has F tI11) (hL : Has F tLibslicesIndexFuncimplRangeimplRange) {x : Cell} {xs : List Range} {fp : List Nat} (w : SlR 7 (Fl Range.enc) h x xs fp) (id : Int) :
    ∃ h' g, call F Z 107 [.c x, .c (.int .u64 id)] ⟨h.next, h.next, h.get⟩ = some (.c (.int .i64 (findHi xs id)), h') ∧ Heap.mk h'.next h.floor h'.get = g ∧ On h g :=
  quietly (findRange_run hI11 hL (w.up (Fl.ok _) h.next) id) (On.push _ _)
theorem place_run (hS12 : Has F tS12) {x : Cell} {xs : List Range} {fp : List Nat} (w : SlR 7 (Fl Range.enc) h x xs fp) (lo : Int) : call F Z 121 [.c x, .c (.int .u64 lo)] h = some (.c (.int .i64 (findLo xs lo)), h) := by
  have hle := w.le2
  have hwl := w.len
  rw [call_run F Z (hS12.lk (g := 121) rfl) _ _ rfl]
  simp only [run0, run1, run2, run3, run4, noSlot, memN, RO.dst, lk, drop, forget, number, Nat.reduceBEq, cut?, splice?, builds, List.length_cons, List.length_nil, List.drop_succ_cons, List.drop_zero, List.take_succ_cons, List.take_zero, List.cons_append, List.nil_append, List.append_nil, List.drop_nil, List.take_nil, Nat.reduceAdd, Nat.reduceLeDiff, Nat.zero_add, Nat.add_zero, ↓reduceIte, Bool.not_true, Bool.not_false, decide_true, decide_false, eq_self, bne_self_eq_false, List.getElem?_cons_zero, List.getElem?_cons_succ, decide_eq_true_eq, Bool.false_eq_true, Bool.true_eq_false, reduceCtorEq, Nat.le_refl]
  have key := loop_find (F := F) (Z := Z) (live := [0, 1, 5]) (b := r121L0) xs (fun r => r.lo == lo) (fun i => ⟨[(0, .c x), (1, .c (.int .u64 lo)), (5, .c (.int .i64 (i : Nat)))], [], [], h⟩) (fun i s => lk s.env 4 = some (.c (.int .i64 (i : Nat))) ∧ s.hp = h) fun i hi => by
    have hlt : (i : Int) < xs.length := by omega
    have hws := wrapS i (by omega)
    rw [loop_run]
    conv in (codeF _ _ r121L0 _) => unfold r121L0
    simp only [run0, run1, run2, run3, run4, noSlot, memN, RO.dst, lk, drop, forget, number, Nat.reduceBEq, cut?, splice?, builds, List.length_cons, List.length_nil, List.drop_succ_cons, List.drop_zero, List.take_succ_cons, List.take_zero, List.cons_append, List.nil_append, List.append_nil, List.drop_nil, List.take_nil, Nat.reduceAdd, Nat.reduceLeDiff, Nat.zero_add, Nat.add_zero, ↓reduceIte, Bool.not_true, Bool.not_false, decide_true, decide_false, eq_self, bne_self_eq_false, List.getElem?_cons_zero, List.getElem?_cons_succ, decide_eq_true_eq, Bool.false_eq_true, Bool.true_eq_false, reduceCtorEq, Nat.le_refl, hwl, hlt, w.idx hi, w.load hi, Range.enc]
    (repeat' ((first | (rw [gF_if]; split) | (rw [condC_if]; split) | (rw [pickR_if]; split)) <;> (rename_i hh; (try simp only [Bool.not_eq_true, decide_eq_true_eq] at hh); simp only [hh, run0, run1, run2, run3, run4, noSlot, memN, RO.dst, lk, drop, forget, number, Nat.reduceBEq, cut?, splice?, builds, List.length_cons, List.length_nil, List.drop_succ_cons, List.drop_zero, List.take_succ_cons, List.take_zero, List.cons_append, List.nil_append, List.append_nil, List.drop_nil, List.take_nil, Nat.reduceAdd, Nat.reduceLeDiff, Nat.zero_add, Nat.add_zero, ↓reduceIte, Bool.not_true, Bool.not_false, decide_true, decide_false, eq_self, bne_self_eq_false, List.getElem?_cons_zero, List.getElem?_cons_succ, decide_eq_true_eq, Bool.false_eq_true, Bool.true_eq_false, reduceCtorEq, Nat.le_refl, hws]))) <;> first
      | exact .inl ⟨by simp_all, rfl⟩
      | exact .inr ⟨by simp_all, _, rfl, rfl, rfl⟩
  have hlt : ¬ (xs.length : Int) < xs.length := by omega
  simp only [show ((0 : Nat) : Int) = 0 from rfl] at key
  rcases key with ⟨k1, k2⟩ | ⟨i, k1, hi, s, k2, k3, k4⟩
  · rw [k2, loop_run]
    conv in (codeF _ _ r121L0 _) => unfold r121L0
    simp only [run0, run1, run2, run3, run4, noSlot, memN, RO.dst, lk, drop, forget, number, Nat.reduceBEq, cut?, splice?, builds, List.length_cons, List.length_nil, List.drop_succ_cons, List.drop_zero, List.take_succ_cons, List.take_zero, List.cons_append, List.nil_append, List.append_nil, List.drop_nil, List.take_nil, Nat.reduceAdd, Nat.reduceLeDiff, Nat.zero_add, Nat.add_zero, ↓reduceIte, Bool.not_true, Bool.not_false, decide_true, decide_false, eq_self, bne_self_eq_false, List.getElem?_cons_zero, List.getElem?_cons_succ, decide_eq_true_eq, Bool.false_eq_true, Bool.true_eq_false, reduceCtorEq, Nat.le_refl, hwl, hlt, findLo, findI, k1]
  · rw [k2]
    simp only [run0, run1, run2, run3, run4, noSlot, memN, RO.dst, lk, drop, forget, number, Nat.reduceBEq, cut?, splice?, builds, List.length_cons, List.length_nil, List.drop_succ_cons, List.drop_zero, List.take_succ_cons, List.take_zero, List.cons_append, List.nil_append, List.append_nil, List.drop_nil, List.take_nil, Nat.reduceAdd, Nat.reduceLeDiff, Nat.zero_add, Nat.add_zero, ↓reduceIte, Bool.not_true, Bool.not_false, decide_true, decide_false, eq_self, bne_self_eq_false, List.getElem?_cons_zero, List.getElem?_cons_succ, decide_eq_true_eq, Bool.false_eq_true, Bool.true_eq_false, reduceCtorEq, Nat.le_refl, k3, k4, findLo, findI, k1]
set_option maxHeartbeats 2000000 in
theorem isChart_run (hI11 : Has F tI11) (hI12 : Has F tI12) (hLi : Has F tLibslicesIndexFuncimplRangeimplRange) (v : Chart.RI h cs c fp) (ok : c.Ok) : ∃ h', call F Z 106 [.agg cs] h = some (.c (.bool c.good), h') ∧ On h h' := by
  obtain ⟨x, p, rfl, rfl, w⟩ := v
  rw [call_run F Z (hI12.lk (g := 106) rfl) _ _ rfl]
  simp only [run0, run1, run2, run3, run4, noSlot, memN, RO.dst, lk, drop, forget, number, Nat.reduceBEq, cut?, splice?, builds, List.length_cons, List.length_nil, List.drop_succ_cons, List.drop_zero, List.take_succ_cons, List.take_zero, List.cons_append, List.nil_append, List.append_nil, List.drop_nil, List.take_nil, Nat.reduceAdd, Nat.reduceLeDiff, Nat.zero_add, Nat.add_zero, ↓reduceIte, Bool.not_true, Bool.not_false, decide_true, decide_false, eq_self, bne_self_eq_false, List.getElem?_cons_zero, List.getElem?_cons_succ, decide_eq_true_eq, Bool.false_eq_true, Bool.true_eq_false, reduceCtorEq, Nat.le_refl, areRanges_run hI11 w ok.ranges]
  cases hr : rangesOk c.ranges with
  | false =>
    (repeat' ((first | (rw [gF_if]; split) | (rw [condC_if]; split) | (rw [pickR_if]; split)) <;> (rename_i hh; (try simp only [Bool.not_eq_true, decide_eq_true_eq] at hh); simp only [hh, run0, run1, run2, run3, run4, noSlot, memN, RO.dst, lk, drop, forget, number, Nat.reduceBEq, cut?, splice?, builds, List.length_cons, List.length_nil, List.drop_succ_cons, List.drop_zero, List.take_succ_cons, List.take_zero, List.cons_append, List.nil_append, List.append_nil, List.drop_nil, List.take_nil, Nat.reduceAdd, Nat.reduceLeDiff, Nat.zero_add, Nat.add_zero, ↓reduceIte, Bool.not_true, Bool.not_false, decide_true, decide_false, eq_self, bne_self_eq_false, List.getElem?_cons_zero, List.getElem?_cons_succ, decide_eq_true_eq, Bool.false_eq_true, Bool.true_eq_false, reduceCtorEq, Nat.le_refl, areRanges_run hI11 w ok.ranges, hr])))
    all_goals exact ⟨_, by simp_all [Chart.good, inR] <;> (intros; omega), On.refl h⟩
  | true =>
    obtain ⟨i, hi, q1, _, q2, _, _⟩ := Chart.has (c := c) hr ok.lo.1 ok.lo.2
    obtain ⟨hq, g, fr, hgq, on2⟩ := findRange_q (Z := Z) hI11 hLi w c.lo
    rw [q1] at fr
    have hld : ∀ j n, loadP g x.sid i j n = cut? (Range.at_ c.ranges i).enc j n := (w.on (Fl.ok _) on2).loadD Range.none_ hi
    have hix := w.idx hi
    have hA := areRanges_run (Z := Z) hI11 w ok.ranges
    have o0 := On.refl h
    clear w
    (repeat' ((first | (rw [gF_if]; split) | (rw [condC_if]; split) | (rw [pickR_if]; split)) <;> (rename_i hh; (try simp only [Bool.not_eq_true, decide_eq_true_eq] at hh); simp only [hh, run0, run1, run2, run3, run4, noSlot, memN, RO.dst, lk, drop, forget, number, Nat.reduceBEq, cut?, splice?, builds, List.length_cons, List.length_nil, List.drop_succ_cons, List.drop_zero, List.take_succ_cons, List.take_zero, List.cons_append, List.nil_append, List.append_nil, List.drop_nil, List.take_nil, Nat.reduceAdd, Nat.reduceLeDiff, Nat.zero_add, Nat.add_zero, ↓reduceIte, Bool.not_true, Bool.not_false, decide_true, decide_false, eq_self, bne_self_eq_false, List.getElem?_cons_zero, List.getElem?_cons_succ, decide_eq_true_eq, Bool.false_eq_true, Bool.true_eq_false, reduceCtorEq, Nat.le_refl, hA, hr, fr, hgq, hld, hix, Range.enc, isGroupId_run hI11])))
    all_goals clear hA fr hld hix hgq
    all_goals first
      | (refine ⟨_, ?_, o0⟩; clear o0 on2; simp_all [Chart.good, inR]; done)
      | (refine ⟨_, ?_, o0⟩; clear o0 on2; simp_all [Chart.good, inR]; intros; omega)
      | (refine ⟨_, ?_, on2⟩; clear o0 on2; simp_all [Chart.good, inR]; done)
      | (refine ⟨_, ?_, on2⟩; clear o0 on2; simp_all [Chart.good, inR]; intros; omega)
set_option maxHeartbeats 2000000 in
theorem sChartOk_run (hS : Has F tS01d) (hS11 : Has F tS11) (hS12 : Has F tS12) (v : Chart.RI h cs c fp) (ok : c.Ok) : call F Z 103 [.agg cs] h = some (.c (.bool c.good), h) := by
  obtain ⟨x, p, rfl, rfl, w⟩ := v
  rw [call_run F Z (hS12.lk (g := 103) rfl) _ _ rfl]
  have hA := sRangesOk_run (Z := Z) hS hS11 w ok.ranges
  simp only [run0, run1, run2, run3, run4, noSlot, memN, RO.dst, lk, drop, forget, number, Nat.reduceBEq, cut?, splice?, builds, List.length_cons, List.length_nil, List.drop_succ_cons, List.drop_zero, List.take_succ_cons, List.take_zero, List.cons_append, List.nil_append, List.append_nil, List.drop_nil, List.take_nil, Nat.reduceAdd, Nat.reduceLeDiff, Nat.zero_add, Nat.add_zero, ↓reduceIte, Bool.not_true, Bool.not_false, decide_true, decide_false, eq_self, bne_self_eq_false, List.getElem?_cons_zero, List.getElem?_cons_succ, decide_eq_true_eq, Bool.false_eq_true, Bool.true_eq_false, reduceCtorEq, Nat.le_refl, hA, l01In_run hS]
  cases hr : rangesOk c.ranges with
  | false =>
    (repeat' ((first | (rw [gF_if]; split) | (rw [condC_if]; split) | (rw [pickR_if]; split)) <;> (rename_i hh; (try simp only [Bool.not_eq_true, decide_eq_true_eq] at hh); simp only [hh, run0, run1, run2, run3, run4, noSlot, memN, RO.dst, lk, drop, forget, number, Nat.reduceBEq, cut?, splice?, builds, List.length_cons, List.length_nil, List.drop_succ_cons, List.drop_zero, List.take_succ_cons, List.take_zero, List.cons_append, List.nil_append, List.append_nil, List.drop_nil, List.take_nil, Nat.reduceAdd, Nat.reduceLeDiff, Nat.zero_add, Nat.add_zero, ↓reduceIte, Bool.not_true, Bool.not_false, decide_true, decide_false, eq_self, bne_self_eq_false, List.getElem?_cons_zero, List.getElem?_cons_succ, decide_eq_true_eq, Bool.false_eq_true, Bool.true_eq_false, reduceCtorEq, Nat.le_refl, hA, hr, l01In_run hS])))
    all_goals simp_all [Chart.good, inR] <;> (intros; omega)
  | true =>
    obtain ⟨i, hi, q1, _, q2, q3, q4⟩ := Chart.has (c := c) hr ok.lo.1 ok.lo.2
    have hb := (rangesOk_fit hr).begins hi q3 q4
    have pl := place_run (Z := Z) hS12 w c.lo
    have hld : ∀ j n, loadP h x.sid i j n = cut? (Range.at_ c.ranges i).enc j n := w.loadD Range.none_ hi
    have hix := w.idx hi
    rw [hb] at pl
    clear w
    by_cases he : (Range.at_ c.ranges i).lo = c.lo
    · rw [if_pos he] at pl
      have hge : (i : Int) ≥ 0 := by omega
      (repeat' ((first | (rw [gF_if]; split) | (rw [condC_if]; split) | (rw [pickR_if]; split)) <;> (rename_i hh; (try simp only [Bool.not_eq_true, decide_eq_true_eq] at hh); simp only [hh, run0, run1, run2, run3, run4, noSlot, memN, RO.dst, lk, drop, forget, number, Nat.reduceBEq, cut?, splice?, builds, List.length_cons, List.length_nil, List.drop_succ_cons, List.drop_zero, List.take_succ_cons, List.take_zero, List.cons_append, List.nil_append, List.append_nil, List.drop_nil, List.take_nil, Nat.reduceAdd, Nat.reduceLeDiff, Nat.zero_add, Nat.add_zero, ↓reduceIte, Bool.not_true, Bool.not_false, decide_true, decide_false, eq_self, bne_self_eq_false, List.getElem?_cons_zero, List.getElem?_cons_succ, decide_eq_true_eq, Bool.false_eq_true, Bool.true_eq_false, reduceCtorEq, Nat.le_refl, hA, hr, pl, hge, hld, hix, Range.enc, l01In_run hS])))
      all_goals first | (simp_all [Chart.good, inR]; done) | (simp_all [Chart.good, inR]; intros; omega) | (simp_all [Chart.good, inR]; exact bne_comm)
    · rw [if_neg he] at pl
      have hge : ¬ (-1 : Int) ≥ 0 := by omega
      (repeat' ((first | (rw [gF_if]; split) | (rw [condC_if]; split) | (rw [pickR_if]; split)) <;> (rename_i hh; (try simp only [Bool.not_eq_true, decide_eq_true_eq] at hh); simp only [hh, run0, run1, run2, run3, run4, noSlot, memN, RO.dst, lk, drop, forget, number, Nat.reduceBEq, cut?, splice?, builds, List.length_cons, List.length_nil, List.drop_succ_cons, List.drop_zero, List.take_succ_cons, List.take_zero, List.cons_append, List.nil_append, List.append_nil, List.drop_nil, List.take_nil, Nat.reduceAdd, Nat.reduceLeDiff, Nat.zero_add, Nat.add_zero, ↓reduceIte, Bool.not_true, Bool.not_false, decide_true, decide_false, eq_self, bne_self_eq_false, List.getElem?_cons_zero, List.getElem?_cons_succ, decide_eq_true_eq, Bool.false_eq_true, Bool.true_eq_false, reduceCtorEq, Nat.le_refl, hA, hr, pl, hge, Range.enc, l01In_run hS])))
      all_goals first | (simp_all [Chart.good, inR]; done) | (simp_all [Chart.good, inR]; intros; omega)
end
end Go.Proofs.Ytgogajbfiocdbaa.A
