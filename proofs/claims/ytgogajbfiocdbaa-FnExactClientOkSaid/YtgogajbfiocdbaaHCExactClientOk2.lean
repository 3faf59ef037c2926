/- The functions that the statement reaches, part 2: bodies and what they compute. No condition. -/
import Derived.Test.YtgogajbfiocdbaaHCExactClientOk1
/- Copies of a chart, new clients and where a client asks. -/
namespace Go.Proofs.Ytgogajbfiocdbaa.A
open Go
set_option linter.unusedSimpArgs false
set_option linter.unusedVariables false
def Chart.zero_ : Chart := ⟨0, [], false, 0, 0⟩
def Client.zero_ : Client := ⟨0, 0, Chart.zero_, false, 0, Request.none_⟩
def newClient (id : Int) (c : Chart) : Client := bif (⟨id, 0, c, false, 0, Request.none_⟩ : Client).good then ⟨id, 0, c, false, 0, Request.none_⟩ else Client.zero_
theorem newClient_small {id : Int} {c : Chart} (sm : c.Small) : (newClient id c).Small := by
  unfold newClient
  cases (⟨id, 0, c, false, 0, Request.none_⟩ : Client).good with
  | false => simp [Client.zero_, Client.Small, Chart.Small, Chart.zero_]
  | true => exact sm
section
variable {F : Nat → Option RF} {Z : CallF} {h : Heap} {cs : List Cell} {fp : List Nat}
theorem ClientOk_c {c : Client} (hI11 : Has F tI11) (hI12 : Has F tI12) (hI16 : Has F tI16) (hLi : Has F tLibslicesIndexFuncimplRangeimplRange) (hf : h.floor ≤ h.next) (v : Client.RI h cs c fp) (ok : c.Ok) : ∃ h', call F Z 79 [.agg cs] h = some (.c (.bool c.good), h') ∧ On h h' := by
  obtain ⟨h1, e1, o1⟩ := isClient_run (Z := Z) hI11 hI12 hI16 hLi v ok.chart
  obtain ⟨l1, l2, l3⟩ := Client.lenI v
  rw [call_run F Z (hI16.lk (g := 79) rfl) _ _ rfl]
  simp only [run0, run1, run2, run3, run4, noSlot, memN, RO.dst, lk, drop, forget, number, Nat.reduceBEq, cut?, splice?, builds, List.length_cons, List.length_nil, List.drop_succ_cons, List.drop_zero, List.take_succ_cons, List.take_zero, List.cons_append, List.nil_append, List.append_nil, List.drop_nil, List.take_nil, Nat.reduceAdd, Nat.reduceLeDiff, Nat.zero_add, Nat.add_zero, ↓reduceIte, Bool.not_true, Bool.not_false, decide_true, decide_false, eq_self, bne_self_eq_false, List.getElem?_cons_zero, List.getElem?_cons_succ, decide_eq_true_eq, Bool.false_eq_true, Bool.true_eq_false, reduceCtorEq, Nat.le_refl, l1, l2, l3, e1]
  exact ⟨_, rfl, o1⟩
theorem sClientOk_c {c : Client} (hS : Has F tS01d) (hS11 : Has F tS11) (hS12 : Has F tS12) (hS16 : Has F tS16) (hf : h.floor ≤ h.next) (v : Client.RI h cs c fp) (ok : c.Ok) : ∃ h', call F Z 78 [.agg cs] h = some (.c (.bool c.good), h') ∧ On h h' :=
  ⟨h, sClientOk_run hS hS11 hS12 hS16 v ok.chart, On.refl h⟩
theorem ClientWhere_c {c : Client} (hI11 : Has F tI11) (hI12 : Has F tI12) (hI16 : Has F tI16) (hLi : Has F tLibslicesIndexFuncimplRangeimplRange) (hf : h.floor ≤ h.next) (v : Client.RI h cs c fp) (id : Int) (ok : c.Ok) (g : 0 ≤ id ∧ id ≤ 18446744073709551615) :
    ∃ h', call F Z 90 [.agg cs, .c (.int .u64 id)] h = some (.c (.int .i64 (c.where_ id)), h') ∧ On h h' := by
  obtain ⟨h1, e1, o1⟩ := isClient_run (Z := Z) hI11 hI12 hI16 hLi v ok.chart
  obtain ⟨x, p, rfl, rfl, w⟩ := v
  rw [call_run F Z (hI16.lk (g := 90) rfl) _ _ rfl]
  cases hg : c.good with
  | false =>
    rw [hg] at e1
    simp only [run0, run1, run2, run3, run4, noSlot, memN, RO.dst, lk, drop, forget, number, Nat.reduceBEq, cut?, splice?, builds, List.length_cons, List.length_nil, List.drop_succ_cons, List.drop_zero, List.take_succ_cons, List.take_zero, List.cons_append, List.nil_append, List.append_nil, List.drop_nil, List.take_nil, Nat.reduceAdd, Nat.reduceLeDiff, Nat.zero_add, Nat.add_zero, ↓reduceIte, Bool.not_true, Bool.not_false, decide_true, decide_false, eq_self, bne_self_eq_false, List.getElem?_cons_zero, List.getElem?_cons_succ, decide_eq_true_eq, Bool.false_eq_true, Bool.true_eq_false, reduceCtorEq, Nat.le_refl, e1]
    exact ⟨_, by simp [Client.where_, hg], o1⟩
  | true =>
    rw [hg] at e1
    have hcg : c.chart.good = true := by simp only [Client.good, Bool.and_eq_true] at hg; exact hg.2.2.1
    obtain ⟨i, hi, q1, _, q2, _, _⟩ := Chart.has (c := c.chart) (Chart.good_ranges hcg) g.1 g.2
    have w1 := w.on (Fl.ok _) o1
    obtain ⟨hq, k, fr, hgq, on2⟩ := findRange_q (Z := Z) hI11 hLi w1 id
    rw [q1] at fr
    have hld : ∀ j n, loadP k x.sid i j n = cut? (Range.at_ c.chart.ranges i).enc j n := (w1.on (Fl.ok _) on2).loadD Range.none_ hi
    simp only [run0, run1, run2, run3, run4, noSlot, memN, RO.dst, lk, drop, forget, number, Nat.reduceBEq, cut?, splice?, builds, List.length_cons, List.length_nil, List.drop_succ_cons, List.drop_zero, List.take_succ_cons, List.take_zero, List.cons_append, List.nil_append, List.append_nil, List.drop_nil, List.take_nil, Nat.reduceAdd, Nat.reduceLeDiff, Nat.zero_add, Nat.add_zero, ↓reduceIte, Bool.not_true, Bool.not_false, decide_true, decide_false, eq_self, bne_self_eq_false, List.getElem?_cons_zero, List.getElem?_cons_succ, decide_eq_true_eq, Bool.false_eq_true, Bool.true_eq_false, reduceCtorEq, Nat.le_refl, e1, fr, hgq, hld, w.idx hi, Range.enc]
    exact ⟨_, by simp [Client.where_, hg, q2], o1.trans on2⟩
theorem sClientWhere_c {c : Client} (hS : Has F tS01d) (hS11 : Has F tS11) (hS12 : Has F tS12) (hS16 : Has F tS16) (hf : h.floor ≤ h.next) (v : Client.RI h cs c fp) (id : Int) (ok : c.Ok) (g : 0 ≤ id ∧ id ≤ 18446744073709551615) :
    ∃ h', call F Z 89 [.agg cs, .c (.int .u64 id)] h = some (.c (.int .i64 (c.where_ id)), h') ∧ On h h' := by
  have e1 := sClientOk_run (Z := Z) hS hS11 hS12 hS16 v ok.chart
  obtain ⟨x, p, rfl, rfl, w⟩ := v
  obtain ⟨h2, e2, o2⟩ := sRouteOf_run (Z := Z) hS hS11 hS12 (⟨x, _, rfl, rfl, w⟩ : Chart.RI h _ c.chart _) ok.chart g.1 g.2
  rw [call_run F Z (hS16.lk (g := 89) rfl) _ _ rfl]
  cases hg : c.good with
  | false =>
    rw [hg] at e1
    simp only [run0, run1, run2, run3, run4, noSlot, memN, RO.dst, lk, drop, forget, number, Nat.reduceBEq, cut?, splice?, builds, List.length_cons, List.length_nil, List.drop_succ_cons, List.drop_zero, List.take_succ_cons, List.take_zero, List.cons_append, List.nil_append, List.append_nil, List.drop_nil, List.take_nil, Nat.reduceAdd, Nat.reduceLeDiff, Nat.zero_add, Nat.add_zero, ↓reduceIte, Bool.not_true, Bool.not_false, decide_true, decide_false, eq_self, bne_self_eq_false, List.getElem?_cons_zero, List.getElem?_cons_succ, decide_eq_true_eq, Bool.false_eq_true, Bool.true_eq_false, reduceCtorEq, Nat.le_refl, e1]
    exact ⟨_, by simp [Client.where_, hg], On.refl h⟩
  | true =>
    rw [hg] at e1
    have hcg : c.chart.good = true := by simp only [Client.good, Bool.and_eq_true] at hg; exact hg.2.2.1
    simp only [run0, run1, run2, run3, run4, noSlot, memN, RO.dst, lk, drop, forget, number, Nat.reduceBEq, cut?, splice?, builds, List.length_cons, List.length_nil, List.drop_succ_cons, List.drop_zero, List.take_succ_cons, List.take_zero, List.cons_append, List.nil_append, List.append_nil, List.drop_nil, List.take_nil, Nat.reduceAdd, Nat.reduceLeDiff, Nat.zero_add, Nat.add_zero, ↓reduceIte, Bool.not_true, Bool.not_false, decide_true, decide_false, eq_self, bne_self_eq_false, List.getElem?_cons_zero, List.getElem?_cons_succ, decide_eq_true_eq, Bool.false_eq_true, Bool.true_eq_false, reduceCtorEq, Nat.le_refl, e1, e2]
    exact ⟨_, by simp [Client.where_, hg, Chart.route, hcg], o2⟩
variable {c : Chart}
theorem copyChart_c (hI12 : Has F tI12) (hf : h.floor ≤ h.next) (v : Chart.RI h cs c fp) (sm : c.ranges.length ≤ 1048576) : ∃ cs' h' fq, call F Z 116 [.agg cs] h = some (.agg cs', h') ∧ On h h' ∧ Chart.RI h' cs' c fq ∧ Fre h fq := by
  obtain ⟨x, p, rfl, rfl, w⟩ := v
  have a0 := Acc.lit0 (tag := 7) (On.refl h)
  have w' := w.on (Fl.ok _) (On.push h [])
  have ce := a0.cat_eq (bytes := 24) (y := x) (new := c.ranges.map Range.enc) hf w'.isTag w'.rows (by simp; omega)
  have ac := a0.cat (new := c.ranges.map Range.enc) hf (by simp; omega)
  simp only [List.nil_append] at ac
  obtain ⟨o, fq, u, f⟩ := ac.flat
  rw [call_run F Z (hI12.lk (g := 116) rfl) _ _ rfl]
  simp only [run0, run1, run2, run3, run4, noSlot, memN, RO.dst, lk, drop, forget, number, Nat.reduceBEq, cut?, splice?, builds, List.length_cons, List.length_nil, List.drop_succ_cons, List.drop_zero, List.take_succ_cons, List.take_zero, List.cons_append, List.nil_append, List.append_nil, List.drop_nil, List.take_nil, Nat.reduceAdd, Nat.reduceLeDiff, Nat.zero_add, Nat.add_zero, ↓reduceIte, Bool.not_true, Bool.not_false, decide_true, decide_false, eq_self, bne_self_eq_false, List.getElem?_cons_zero, List.getElem?_cons_succ, decide_eq_true_eq, Bool.false_eq_true, Bool.true_eq_false, reduceCtorEq, Nat.le_refl, List.replicate_zero, fills, ce]
  exact ⟨_, _, _, rfl, o, ⟨_, _, rfl, rfl, u⟩, f⟩
theorem l12Copy_c (hS12 : Has F tS12) (hf : h.floor ≤ h.next) (v : Chart.RI h cs c fp) (sm : c.ranges.length ≤ 1048576) : ∃ cs' h' fq, call F Z 115 [.agg cs] h = some (.agg cs', h') ∧ On h h' ∧ Chart.RI h' cs' c fq ∧ Fre h fq := by
  obtain ⟨x, p, rfl, rfl, w⟩ := v
  rw [call_run F Z (hS12.lk (g := 115) rfl) _ _ rfl]
  simp only [run0, run1, run2, run3, run4, noSlot, memN, RO.dst, lk, drop, forget, number, Nat.reduceBEq, cut?, splice?, builds, List.length_cons, List.length_nil, List.drop_succ_cons, List.drop_zero, List.take_succ_cons, List.take_zero, List.cons_append, List.nil_append, List.append_nil, List.drop_nil, List.take_nil, Nat.reduceAdd, Nat.reduceLeDiff, Nat.zero_add, Nat.add_zero, ↓reduceIte, Bool.not_true, Bool.not_false, decide_true, decide_false, eq_self, bne_self_eq_false, List.getElem?_cons_zero, List.getElem?_cons_succ, decide_eq_true_eq, Bool.false_eq_true, Bool.true_eq_false, reduceCtorEq, Nat.le_refl]
  obtain ⟨y1, h1, a1, l1⟩ := loop_acc (F := F) (Z := Z) (live := [1, 2, 3, 4]) (b := r115L0) c.ranges (fun r => [r.enc]) 7 h (fun i y g => ⟨[(4, .c (.int .i64 (i : Nat)))], [(1, 1, 0), (2, 2, 0), (3, 3, 0)], [(1, [.int .i64 c.epoch, x, .bool c.moving, .int .u64 c.lo, .int .i64 c.to]), (2, [.int .i64 0, .nil, .bool false, .int .u64 0, .int .i64 0]), (3, [.int .i64 c.epoch, y, .bool c.moving, .int .u64 c.lo, .int .i64 c.to])], g⟩) (fun r => by simp) (fun i hi y g rows a hr => by
    have e1 := a.one_eq hf (bytes := 24) (by omega)
    have a1 := a.one hf (by omega)
    have hlt : (i : Int) < c.ranges.length := by omega
    have wg := w.on (Fl.ok _) a.on
    rw [loop_run]
    conv in (codeF _ _ r115L0 _) => unfold r115L0
    simp only [run0, run1, run2, run3, run4, noSlot, memN, RO.dst, lk, drop, forget, number, Nat.reduceBEq, cut?, splice?, builds, List.length_cons, List.length_nil, List.drop_succ_cons, List.drop_zero, List.take_succ_cons, List.take_zero, List.cons_append, List.nil_append, List.append_nil, List.drop_nil, List.take_nil, Nat.reduceAdd, Nat.reduceLeDiff, Nat.zero_add, Nat.add_zero, ↓reduceIte, Bool.not_true, Bool.not_false, decide_true, decide_false, eq_self, bne_self_eq_false, List.getElem?_cons_zero, List.getElem?_cons_succ, decide_eq_true_eq, Bool.false_eq_true, Bool.true_eq_false, reduceCtorEq, Nat.le_refl, w.len, hlt, w.idx hi, wg.load hi, Range.len, Range.tak, wrapS i (by omega), List.replicate_succ, List.replicate_zero, fills, and_self, Nat.zero_lt_one, List.set_cons_zero, e1]
    exact ⟨_, _, a1 _, rfl⟩) (Acc.nil 7 h)
  simp only [show ((0 : Nat) : Int) = 0 from rfl] at l1
  have hlt : ¬ (c.ranges.length : Int) < c.ranges.length := by omega
  rw [l1, loop_run]
  conv in (codeF _ _ r115L0 _) => unfold r115L0
  simp only [run0, run1, run2, run3, run4, noSlot, memN, RO.dst, lk, drop, forget, number, Nat.reduceBEq, cut?, splice?, builds, List.length_cons, List.length_nil, List.drop_succ_cons, List.drop_zero, List.take_succ_cons, List.take_zero, List.cons_append, List.nil_append, List.append_nil, List.drop_nil, List.take_nil, Nat.reduceAdd, Nat.reduceLeDiff, Nat.zero_add, Nat.add_zero, ↓reduceIte, Bool.not_true, Bool.not_false, decide_true, decide_false, eq_self, bne_self_eq_false, List.getElem?_cons_zero, List.getElem?_cons_succ, decide_eq_true_eq, Bool.false_eq_true, Bool.true_eq_false, reduceCtorEq, Nat.le_refl, w.len, hlt]
  have hm : c.ranges.flatMap (fun r => [r.enc]) = c.ranges.map Range.enc := by
    induction c.ranges with
    | nil => rfl
    | cons a r ih => rw [List.flatMap_cons, ih]; rfl
  rw [hm] at a1
  obtain ⟨o, fq, u, f⟩ := a1.flat
  exact ⟨_, _, _, rfl, o, ⟨_, _, rfl, rfl, u⟩, f⟩
theorem Client.zero_R (h : Heap) : Client.RI h [.int .i64 0, .int .i64 0, .int .i64 0, .nil, .bool false, .int .u64 0, .int .i64 0, .bool false, .int .i64 0, .int .i64 0, .int .i64 0, .int .u64 0, .int .u64 0, .int .i64 0] Client.zero_ [] := ⟨.nil, [], rfl, rfl, SlR.nil _ _ _⟩
theorem NewClient_c (hI11 : Has F tI11) (hI12 : Has F tI12) (hI16 : Has F tI16) (hLi : Has F tLibslicesIndexFuncimplRangeimplRange) (hf : h.floor ≤ h.next) (id : Int) (v : Chart.RI h cs c fp) (ok : c.Ok) (sm : c.ranges.length ≤ 1048576) :
    ∃ cs' h' fq, call F Z 93 [.c (.int .i64 id), .agg cs] h = some (.agg cs', h') ∧ On h h' ∧ Client.RI h' cs' (newClient id c) fq ∧ Fre h fq := by
  obtain ⟨l1, l2, l3⟩ := Chart.lenI v
  obtain ⟨_, h1, _, e1, o1, ⟨y, q, rfl, rfl, u⟩, f⟩ := copyChart_c (Z := Z) hI12 hf v sm
  obtain ⟨h2, e2, o2⟩ := isClient_run (Z := Z) (c := ⟨id, 0, c, false, 0, Request.none_⟩) hI11 hI12 hI16 hLi ⟨y, _, rfl, rfl, u⟩ ok
  rw [call_run F Z (hI16.lk (g := 93) rfl) _ _ rfl]
  simp only [Request.none_] at e2
  cases hg : (⟨id, 0, c, false, 0, Request.none_⟩ : Client).good with
  | false =>
    simp only [Request.none_] at hg
    rw [hg] at e2
    simp only [run0, run1, run2, run3, run4, noSlot, memN, RO.dst, lk, drop, forget, number, Nat.reduceBEq, cut?, splice?, builds, List.length_cons, List.length_nil, List.drop_succ_cons, List.drop_zero, List.take_succ_cons, List.take_zero, List.cons_append, List.nil_append, List.append_nil, List.drop_nil, List.take_nil, Nat.reduceAdd, Nat.reduceLeDiff, Nat.zero_add, Nat.add_zero, ↓reduceIte, Bool.not_true, Bool.not_false, decide_true, decide_false, eq_self, bne_self_eq_false, List.getElem?_cons_zero, List.getElem?_cons_succ, decide_eq_true_eq, Bool.false_eq_true, Bool.true_eq_false, reduceCtorEq, Nat.le_refl, l1, l2, l3, e1, e2]
    exact ⟨_, _, _, rfl, o1.trans o2, by simp only [newClient, Request.none_, hg, cond_false]; exact Client.zero_R _, Fre.nil h⟩
  | true =>
    simp only [Request.none_] at hg
    rw [hg] at e2
    simp only [run0, run1, run2, run3, run4, noSlot, memN, RO.dst, lk, drop, forget, number, Nat.reduceBEq, cut?, splice?, builds, List.length_cons, List.length_nil, List.drop_succ_cons, List.drop_zero, List.take_succ_cons, List.take_zero, List.cons_append, List.nil_append, List.append_nil, List.drop_nil, List.take_nil, Nat.reduceAdd, Nat.reduceLeDiff, Nat.zero_add, Nat.add_zero, ↓reduceIte, Bool.not_true, Bool.not_false, decide_true, decide_false, eq_self, bne_self_eq_false, List.getElem?_cons_zero, List.getElem?_cons_succ, decide_eq_true_eq, Bool.false_eq_true, Bool.true_eq_false, reduceCtorEq, Nat.le_refl, l1, l2, l3, e1, e2]
    exact ⟨_, _, _, rfl, o1.trans o2, by simp only [newClient, Request.none_, hg, cond_true]; exact ⟨y, _, rfl, rfl, u.on (Fl.ok _) o2⟩, f⟩
theorem sNewClient_c (hS : Has F tS01d) (hS11 : Has F tS11) (hS12 : Has F tS12) (hS16 : Has F tS16) (hf : h.floor ≤ h.next) (id : Int) (v : Chart.RI h cs c fp) (ok : c.Ok) (sm : c.ranges.length ≤ 1048576) :
    ∃ cs' h' fq, call F Z 92 [.c (.int .i64 id), .agg cs] h = some (.agg cs', h') ∧ On h h' ∧ Client.RI h' cs' (newClient id c) fq ∧ Fre h fq := by
  obtain ⟨l1, l2, l3⟩ := Chart.lenI v
  obtain ⟨_, h1, _, e1, o1, ⟨y, q, rfl, rfl, u⟩, f⟩ := l12Copy_c (Z := Z) hS12 hf v sm
  have e2 := sClientOk_run (Z := Z) (c := ⟨id, 0, c, false, 0, Request.none_⟩) hS hS11 hS12 hS16 ⟨y, _, rfl, rfl, u⟩ ok
  rw [call_run F Z (hS16.lk (g := 92) rfl) _ _ rfl]
  simp only [Request.none_] at e2
  cases hg : (⟨id, 0, c, false, 0, Request.none_⟩ : Client).good with
  | false =>
    simp only [Request.none_] at hg
    rw [hg] at e2
    simp only [run0, run1, run2, run3, run4, noSlot, memN, RO.dst, lk, drop, forget, number, Nat.reduceBEq, cut?, splice?, builds, List.length_cons, List.length_nil, List.drop_succ_cons, List.drop_zero, List.take_succ_cons, List.take_zero, List.cons_append, List.nil_append, List.append_nil, List.drop_nil, List.take_nil, Nat.reduceAdd, Nat.reduceLeDiff, Nat.zero_add, Nat.add_zero, ↓reduceIte, Bool.not_true, Bool.not_false, decide_true, decide_false, eq_self, bne_self_eq_false, List.getElem?_cons_zero, List.getElem?_cons_succ, decide_eq_true_eq, Bool.false_eq_true, Bool.true_eq_false, reduceCtorEq, Nat.le_refl, l1, l2, l3, e1, e2]
    exact ⟨_, _, _, rfl, o1, by simp only [newClient, Request.none_, hg, cond_false]; exact Client.zero_R _, Fre.nil h⟩
  | true =>
    simp only [Request.none_] at hg
    rw [hg] at e2
    simp only [run0, run1, run2, run3, run4, noSlot, memN, RO.dst, lk, drop, forget, number, Nat.reduceBEq, cut?, splice?, builds, List.length_cons, List.length_nil, List.drop_succ_cons, List.drop_zero, List.take_succ_cons, List.take_zero, List.cons_append, List.nil_append, List.append_nil, List.drop_nil, List.take_nil, Nat.reduceAdd, Nat.reduceLeDiff, Nat.zero_add, Nat.add_zero, ↓reduceIte, Bool.not_true, Bool.not_false, decide_true, decide_false, eq_self, bne_self_eq_false, List.getElem?_cons_zero, List.getElem?_cons_succ, decide_eq_true_eq, Bool.false_eq_true, Bool.true_eq_false, reduceCtorEq, Nat.le_refl, l1, l2, l3, e1, e2]
    exact ⟨_, _, _, rfl, o1, by simp only [newClient, Request.none_, hg, cond_true]; exact ⟨y, _, rfl, rfl, u⟩, f⟩
end
end Go.Proofs.Ytgogajbfiocdbaa.A
