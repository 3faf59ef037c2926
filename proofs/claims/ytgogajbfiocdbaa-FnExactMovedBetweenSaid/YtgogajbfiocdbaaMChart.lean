/- The data of a Chart with its memory, and what its converters compute. -/
import Derived.Test.YtgogajbfiocdbaaVRange
import Derived.Test.YtgogajbfiocdbaaS2
import Derived.Test.YtgogajbfiocdbaaGLChart
namespace Go.Proofs.Ytgogajbfiocdbaa.A
open Go
set_option linter.unusedSimpArgs false
set_option linter.unusedVariables false
structure Chart where
  epoch : Int
  ranges : List Range
  moving : Bool
  lo : Int
  to : Int
  deriving DecidableEq
def Chart.RL : Rel Chart := fun h cs t fp => ∃ x1 p1, cs = [.int .i64 t.epoch, x1, .bool t.moving, .int .u64 t.lo, .int .i64 t.to] ∧ fp = p1 ∧ SlR 8 (Fl Range.enc) h x1 t.ranges p1
theorem Chart.okL : RelOk Chart.RL where
  lt := by
    rintro h cs t fp ⟨x1, p1, rfl, rfl, w1⟩ id hid
    exact w1.lt (Fl.ok _) id hid
  mv := by
    rintro h h' cs t fp ⟨x1, p1, rfl, rfl, w1⟩ hn hg
    exact ⟨x1, _, rfl, rfl, w1.mv (Fl.ok _) hn hg⟩
def Chart.RI : Rel Chart := fun h cs t fp => ∃ x1 p1, cs = [.int .i64 t.epoch, x1, .bool t.moving, .int .u64 t.lo, .int .i64 t.to] ∧ fp = p1 ∧ SlR 7 (Fl Range.enc) h x1 t.ranges p1
theorem Chart.okI : RelOk Chart.RI where
  lt := by
    rintro h cs t fp ⟨x1, p1, rfl, rfl, w1⟩ id hid
    exact w1.lt (Fl.ok _) id hid
  mv := by
    rintro h h' cs t fp ⟨x1, p1, rfl, rfl, w1⟩ hn hg
    exact ⟨x1, _, rfl, rfl, w1.mv (Fl.ok _) hn hg⟩
theorem Chart.lenL {h : Heap} {cs : List Cell} {t : Chart} {fp : List Nat} (v : Chart.RL h cs t fp) : cs.length = 5 ∧ cs.take 5 = cs ∧ cs.drop 5 = [] := by
  obtain ⟨x1, p1, rfl, _⟩ := v
  exact ⟨rfl, rfl, rfl⟩
theorem Chart.lenI {h : Heap} {cs : List Cell} {t : Chart} {fp : List Nat} (v : Chart.RI h cs t fp) : cs.length = 5 ∧ cs.take 5 = cs ∧ cs.drop 5 = [] := by
  obtain ⟨x1, p1, rfl, _⟩ := v
  exact ⟨rfl, rfl, rfl⟩
namespace Chart
/-- The numbers are those of the machine. -/
structure Ok (t : Chart) : Prop where
  epoch : -9223372036854775808 ≤ t.epoch ∧ t.epoch ≤ 9223372036854775807
  ranges : ∀ a, a ∈ t.ranges → a.Ok
  lo : 0 ≤ t.lo ∧ t.lo ≤ 18446744073709551615
  to : -9223372036854775808 ≤ t.to ∧ t.to ≤ 9223372036854775807
def Small (t : Chart) : Prop := t.ranges.length ≤ 1048576
def wt (t : Chart) : Int := 3 * ((t.ranges.length : Nat) : Int)
def marked (t : Chart) (k : Int) : Chart := { t with ranges := Range.marks t.ranges.length (k) }
theorem wt_nn (t : Chart) : 0 ≤ t.wt := by
  simp only [wt]; omega
theorem wt_le {t : Chart} (sm : t.Small) : t.wt ≤ 3145728 := by
  unfold Small at sm
  simp only [wt]; omega
end Chart
theorem Wf.isChart {h : Heap} {n : Nat} {cs : List Cell} (w : Wf h (n + 4) shChart cs) : ∃ t fp, Chart.RL h cs t fp ∧ t.Ok := by
  obtain ⟨_, _, rfl, _, ⟨i1, rfl, j1⟩, _, _, rfl, _, m2, _, _, rfl, _, ⟨b3, rfl⟩, _, _, rfl, _, ⟨i4, rfl, j4⟩, _, _, rfl, _, ⟨i5, rfl, j5⟩, rfl⟩ := w
  obtain ⟨x1, l1, p1, rfl, w1, o1⟩ := Wf.isRangeS' m2
  exact ⟨⟨i1, l1, b3, i4, i5⟩, _, ⟨x1, _, rfl, rfl, w1⟩, ⟨wfI j1, o1, wfU j4, wfI j5⟩⟩
section
variable {F : Nat → Option RF} {Z : CallF} {h : Heap} {cs cs' : List Cell} {t u : Chart} {fp fq : List Nat}
theorem szChart_c (hLChart : Has F tLChart) (hLRange : Has F tLRange) (v : Chart.RL h cs t fp) (left : Int) (h1 : 0 ≤ left) (h2 : left ≤ 1048576) : ∃ r, call F Z 67 [.agg cs, .c (.int .i64 left)] h = some (.c (.int .i64 r), h) ∧ r ≤ left ∧ (0 ≤ r → t.Small) := by
  obtain ⟨x1, p1, rfl, rfl, w1⟩ := v
  rw [call_run F Z (hLChart.lk (g := 67) rfl) _ _ rfl]
  simp only [run0, run1, run2, run3, run4, noSlot, memN, RO.dst, lk, drop, forget, number, Nat.reduceBEq, cut?, splice?, builds, List.length_cons, List.length_nil, List.drop_succ_cons, List.drop_zero, List.take_succ_cons, List.take_zero, List.cons_append, List.nil_append, List.append_nil, List.drop_nil, List.take_nil, Nat.reduceAdd, Nat.reduceLeDiff, Nat.zero_add, Nat.add_zero, ↓reduceIte, Bool.not_true, Bool.not_false, decide_true, decide_false, eq_self, bne_self_eq_false, List.getElem?_cons_zero, List.getElem?_cons_succ, decide_eq_true_eq, Bool.false_eq_true, Bool.true_eq_false, reduceCtorEq, Nat.le_refl]
  obtain ⟨l0, s0, a0, b0⟩ := szRangeS_c (Z := Z) hLRange w1 left (by omega) (by omega)
  simp only [run0, run1, run2, run3, run4, noSlot, memN, RO.dst, lk, drop, forget, number, Nat.reduceBEq, cut?, splice?, builds, List.length_cons, List.length_nil, List.drop_succ_cons, List.drop_zero, List.take_succ_cons, List.take_zero, List.cons_append, List.nil_append, List.append_nil, List.drop_nil, List.take_nil, Nat.reduceAdd, Nat.reduceLeDiff, Nat.zero_add, Nat.add_zero, ↓reduceIte, Bool.not_true, Bool.not_false, decide_true, decide_false, eq_self, bne_self_eq_false, List.getElem?_cons_zero, List.getElem?_cons_succ, decide_eq_true_eq, Bool.false_eq_true, Bool.true_eq_false, reduceCtorEq, Nat.le_refl, s0]
  by_cases n0 : l0 < 0
  · simp only [run0, run1, run2, run3, run4, noSlot, memN, RO.dst, lk, drop, forget, number, Nat.reduceBEq, cut?, splice?, builds, List.length_cons, List.length_nil, List.drop_succ_cons, List.drop_zero, List.take_succ_cons, List.take_zero, List.cons_append, List.nil_append, List.append_nil, List.drop_nil, List.take_nil, Nat.reduceAdd, Nat.reduceLeDiff, Nat.zero_add, Nat.add_zero, ↓reduceIte, Bool.not_true, Bool.not_false, decide_true, decide_false, eq_self, bne_self_eq_false, List.getElem?_cons_zero, List.getElem?_cons_succ, decide_eq_true_eq, Bool.false_eq_true, Bool.true_eq_false, reduceCtorEq, Nat.le_refl, n0]
    exact ⟨_, rfl, by omega, by omega⟩
  simp only [run0, run1, run2, run3, run4, noSlot, memN, RO.dst, lk, drop, forget, number, Nat.reduceBEq, cut?, splice?, builds, List.length_cons, List.length_nil, List.drop_succ_cons, List.drop_zero, List.take_succ_cons, List.take_zero, List.cons_append, List.nil_append, List.append_nil, List.drop_nil, List.take_nil, Nat.reduceAdd, Nat.reduceLeDiff, Nat.zero_add, Nat.add_zero, ↓reduceIte, Bool.not_true, Bool.not_false, decide_true, decide_false, eq_self, bne_self_eq_false, List.getElem?_cons_zero, List.getElem?_cons_succ, decide_eq_true_eq, Bool.false_eq_true, Bool.true_eq_false, reduceCtorEq, Nat.le_refl, n0]
  exact ⟨_, rfl, by omega, fun _ => b0 (by omega)⟩
theorem toChart_c (hLChart : Has F tLChart) (hLRange : Has F tLRange) (hf : h.floor ≤ h.next) (v : Chart.RL h cs t fp) (sm : t.Small) : ∃ cs' h' fq, call F Z 68 [.agg cs] h = some (.agg cs', h') ∧ On h h' ∧ Chart.RI h' cs' t fq ∧ Fre h fq := by
  obtain ⟨x1, p1, rfl, rfl, w1⟩ := v
  have sm0 := sm
  obtain ⟨y1, g0, q1, e0, o0, u1, r0⟩ := toRangeS_c (Z := Z) hLRange hf w1 sm0
  rw [call_run F Z (hLChart.lk (g := 68) rfl) _ _ rfl]
  simp only [run0, run1, run2, run3, run4, noSlot, memN, RO.dst, lk, drop, forget, number, Nat.reduceBEq, cut?, splice?, builds, List.length_cons, List.length_nil, List.drop_succ_cons, List.drop_zero, List.take_succ_cons, List.take_zero, List.cons_append, List.nil_append, List.append_nil, List.drop_nil, List.take_nil, Nat.reduceAdd, Nat.reduceLeDiff, Nat.zero_add, Nat.add_zero, ↓reduceIte, Bool.not_true, Bool.not_false, decide_true, decide_false, eq_self, bne_self_eq_false, List.getElem?_cons_zero, List.getElem?_cons_succ, decide_eq_true_eq, Bool.false_eq_true, Bool.true_eq_false, reduceCtorEq, Nat.le_refl, e0]
  exact ⟨_, _, _, rfl, o0, ⟨y1, _, rfl, rfl, u1⟩, r0⟩
set_option maxHeartbeats 1000000 in
theorem eqChart_r (hLChart : Has F tLChart) (hLRange : Has F tLRange) (v : Chart.RI h cs t fp) (v' : Chart.RI h cs' u fq) : call F Z 71 [.agg cs, .agg cs'] h = some (.c (.bool (decide (t = u))), h) := by
  obtain ⟨x1, p1, rfl, rfl, w1⟩ := v
  obtain ⟨x1', p1', rfl, rfl, w1'⟩ := v'
  obtain ⟨epoch1, ranges1, moving1, lo1, to1⟩ := t
  obtain ⟨epoch2, ranges2, moving2, lo2, to2⟩ := u
  have e0 := eqRangeS_run (Z := Z) hLRange w1 w1'
  clear w1 w1'
  rw [call_run F Z (hLChart.lk (g := 71) rfl) _ _ rfl]
  simp only [run0, run1, run2, run3, run4, noSlot, memN, RO.dst, lk, drop, forget, number, Nat.reduceBEq, cut?, splice?, builds, List.length_cons, List.length_nil, List.drop_succ_cons, List.drop_zero, List.take_succ_cons, List.take_zero, List.cons_append, List.nil_append, List.append_nil, List.drop_nil, List.take_nil, Nat.reduceAdd, Nat.reduceLeDiff, Nat.zero_add, Nat.add_zero, ↓reduceIte, Bool.not_true, Bool.not_false, decide_true, decide_false, eq_self, bne_self_eq_false, List.getElem?_cons_zero, List.getElem?_cons_succ, decide_eq_true_eq, Bool.false_eq_true, Bool.true_eq_false, reduceCtorEq, Nat.le_refl, e0]
  (repeat' ((first | (rw [gF_if]; split) | (rw [condC_if]; split) | (rw [pickR_if]; split)) <;> (rename_i hh; (try simp only [Bool.not_eq_true, decide_eq_true_eq] at hh); simp only [hh, run0, run1, run2, run3, run4, noSlot, memN, RO.dst, lk, drop, forget, number, Nat.reduceBEq, cut?, splice?, builds, List.length_cons, List.length_nil, List.drop_succ_cons, List.drop_zero, List.take_succ_cons, List.take_zero, List.cons_append, List.nil_append, List.append_nil, List.drop_nil, List.take_nil, Nat.reduceAdd, Nat.reduceLeDiff, Nat.zero_add, Nat.add_zero, ↓reduceIte, Bool.not_true, Bool.not_false, decide_true, decide_false, eq_self, bne_self_eq_false, List.getElem?_cons_zero, List.getElem?_cons_succ, decide_eq_true_eq, Bool.false_eq_true, Bool.true_eq_false, reduceCtorEq, Nat.le_refl, e0]))) <;> clear e0 <;> refine fin_bool ?_ <;> simp_all <;> (try (intros; omega))
theorem markChart_r (hLChart : Has F tLChart) (hLRange : Has F tLRange) (v : Chart.RI h cs t fp) (nd : fp.Nodup) (hlo : ∀ id, id ∈ fp → h.floor ≤ id) (k : Int) (h1 : 0 ≤ k) (h2 : k + t.wt ≤ 4611686018427387904) : ∃ h', call F Z 94 [.agg cs, .c (.int .i64 k)] h = some (.c (.int .i64 (k + t.wt)), h') ∧ Mk h h' fp ∧ Chart.RI h' cs (t.marked k) fp := by
  obtain ⟨x1, p1, rfl, rfl, w1⟩ := v
  simp only [Chart.wt] at h2 ⊢
  obtain ⟨h', e0, m0, u1⟩ := markRangeS_run (Z := Z) hLRange w1 hlo k h1 h2
  rw [call_run F Z (hLChart.lk (g := 94) rfl) _ _ rfl]
  simp only [run0, run1, run2, run3, run4, noSlot, memN, RO.dst, lk, drop, forget, number, Nat.reduceBEq, cut?, splice?, builds, List.length_cons, List.length_nil, List.drop_succ_cons, List.drop_zero, List.take_succ_cons, List.take_zero, List.cons_append, List.nil_append, List.append_nil, List.drop_nil, List.take_nil, Nat.reduceAdd, Nat.reduceLeDiff, Nat.zero_add, Nat.add_zero, ↓reduceIte, Bool.not_true, Bool.not_false, decide_true, decide_false, eq_self, bne_self_eq_false, List.getElem?_cons_zero, List.getElem?_cons_succ, decide_eq_true_eq, Bool.false_eq_true, Bool.true_eq_false, reduceCtorEq, Nat.le_refl, e0]
  exact ⟨_, rfl, m0, ⟨x1, _, rfl, rfl, u1⟩⟩
theorem heldChart_r (hLChart : Has F tLChart) (hLRange : Has F tLRange) {k : Int} (v : Chart.RI h cs (t.marked k) fp) (h1 : 0 ≤ k) (h2 : k + t.wt ≤ 4611686018427387904) : call F Z 118 [.agg cs, .c (.int .i64 k)] h = some (.c (.int .i64 (k + t.wt)), h) := by
  obtain ⟨x1, p1, rfl, rfl, w1⟩ := v
  simp only [Chart.wt] at h2 ⊢
  have e0 := heldRangeS_run (Z := Z) hLRange w1 h1 h2
  have n0 : ¬ k + 3 * ((t.ranges.length : Nat) : Int) < 0 := by omega
  rw [call_run F Z (hLChart.lk (g := 118) rfl) _ _ rfl]
  simp only [Chart.marked, run0, run1, run2, run3, run4, noSlot, memN, RO.dst, lk, drop, forget, number, Nat.reduceBEq, cut?, splice?, builds, List.length_cons, List.length_nil, List.drop_succ_cons, List.drop_zero, List.take_succ_cons, List.take_zero, List.cons_append, List.nil_append, List.append_nil, List.drop_nil, List.take_nil, Nat.reduceAdd, Nat.reduceLeDiff, Nat.zero_add, Nat.add_zero, ↓reduceIte, Bool.not_true, Bool.not_false, decide_true, decide_false, eq_self, bne_self_eq_false, List.getElem?_cons_zero, List.getElem?_cons_succ, decide_eq_true_eq, Bool.false_eq_true, Bool.true_eq_false, reduceCtorEq, Nat.le_refl] at e0 ⊢
  simp only [run0, run1, run2, run3, run4, noSlot, memN, RO.dst, lk, drop, forget, number, Nat.reduceBEq, cut?, splice?, builds, List.length_cons, List.length_nil, List.drop_succ_cons, List.drop_zero, List.take_succ_cons, List.take_zero, List.cons_append, List.nil_append, List.append_nil, List.drop_nil, List.take_nil, Nat.reduceAdd, Nat.reduceLeDiff, Nat.zero_add, Nat.add_zero, ↓reduceIte, Bool.not_true, Bool.not_false, decide_true, decide_false, eq_self, bne_self_eq_false, List.getElem?_cons_zero, List.getElem?_cons_succ, decide_eq_true_eq, Bool.false_eq_true, Bool.true_eq_false, reduceCtorEq, Nat.le_refl, e0, n0]
end
end Go.Proofs.Ytgogajbfiocdbaa.A
