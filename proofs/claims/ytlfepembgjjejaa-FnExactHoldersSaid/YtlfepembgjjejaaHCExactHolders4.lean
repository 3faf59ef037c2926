/- The functions that the statement reaches, part 4: bodies and what they compute. No condition. -/
import Derived.Test.YtlfepembgjjejaaHCExactHolders3
/- Shards and stores with memory of their own: marks that are held; stores marked, one by one. -/
namespace Go.Proofs.Ytlfepembgjjejaa.A
open Go
set_option linter.unusedSimpArgs false
set_option linter.unusedVariables false
theorem Shard.marksS_at : ∀ (xs : List Shard) (k : Int) (i : Nat) (hi : i < xs.length) (h : i < (Shard.marksS xs k).length), (Shard.marksS xs k)[i] = xs[i].mark1 (k + sumI Shard.wt1 (xs.take i))
  | [], k, i, hi, h => by simp at hi
  | t :: r, k, 0, hi, h => by simp [Shard.marksS, sumI]
  | t :: r, k, i + 1, hi, h => by
    simp only [Shard.marksS, List.getElem_cons_succ, List.take_succ_cons, sumI]
    rw [Shard.marksS_at r _ i (by simpa using hi)]
    simp [Int.add_assoc]
theorem Shard.sum_nn : ∀ xs : List Shard, 0 ≤ sumI Shard.wt1 xs
  | [] => by simp [sumI]
  | a :: r => by have := a.wt1_nn; have := Shard.sum_nn r; simp only [sumI]; omega
theorem Shard.sum_pre (xs : List Shard) (i : Nat) : sumI Shard.wt1 (xs.take i) ≤ sumI Shard.wt1 xs := by
  have e := sumI_app Shard.wt1 (xs.take i) (xs.drop i)
  rw [List.take_append_drop] at e
  have := Shard.sum_nn (xs.drop i)
  omega
section
variable {F : Nat → Option RF} {Z : CallF} {h : Heap} {x : Cell} {xs : List Shard} {fp : List Nat}
set_option maxHeartbeats 2000000 in
theorem heldShardS_r (hLShard : Has F tLShard) (hLAccount : Has F tLAccount) (hLFin : Has F tLFin) {k : Int} (w : SlR 16 Shard.RI h x (Shard.marksS xs k) fp) (h1 : 0 ≤ k) (h2 : k + sumI Shard.wt1 xs ≤ 9200000000000000000) :
    call F Z 322 [.c x, .c (.int .i64 k)] h = some (.c (.int .i64 (k + sumI Shard.wt1 xs)), h) := by
  have hle := w.le2
  have hl := w.len
  rw [Shard.marksS_len] at hl hle
  rw [call_run F Z (hLShard.lk (g := 322) rfl) _ _ rfl]
  simp only [run0, run1, run2, run3, run4, noSlot, memN, RO.dst, lk, drop, forget, number, Nat.reduceBEq, cut?, splice?, builds, List.length_cons, List.length_nil, List.drop_succ_cons, List.drop_zero, List.take_succ_cons, List.take_zero, List.cons_append, List.nil_append, List.append_nil, List.drop_nil, List.take_nil, Nat.reduceAdd, Nat.reduceLeDiff, Nat.zero_add, Nat.add_zero, ↓reduceIte, Bool.not_true, Bool.not_false, decide_true, decide_false, eq_self, bne_self_eq_false, List.getElem?_cons_zero, List.getElem?_cons_succ, decide_eq_true_eq, Bool.false_eq_true, Bool.true_eq_false, reduceCtorEq, Nat.le_refl]
  obtain ⟨s', hs, l1⟩ := loop_goes (F := F) (Z := Z) (live := [0, 1, 5]) (b := r322L0) xs.length (fun i s => s = ⟨[(0, .c x), (1, .c (.int .i64 (k + sumI Shard.wt1 (xs.take i)))), (5, .c (.int .i64 (i : Nat)))], [], [], h⟩) (fun i s hi hs => by
    subst hs
    refine ⟨_, rfl, ?_⟩
    have hi' : i < (Shard.marksS xs k).length := by rw [Shard.marksS_len]; exact hi
    have hst := sumI_take Shard.wt1 xs hi
    have hp := Shard.sum_pre xs (i + 1)
    have h0 := Shard.sum_nn (xs.take i)
    have hlt : (i : Int) < xs.length := by omega
    have hws := wrapS i (by omega)
    have hxi := w.idx hi'
    obtain ⟨r, f, l4, hR, _⟩ := w.one hi'
    rw [Shard.marksS_at xs k i hi] at hR
    rw [hst]
    generalize xs[i] = a at *
    generalize hkk : k + sumI Shard.wt1 (xs.take i) = q at *
    rw [show k + (sumI Shard.wt1 (xs.take i) + a.wt1) = q + a.wt1 from by omega]
    have hq0 : 0 ≤ q := by omega
    have hq1 : q + a.wt1 ≤ 9200000000000000000 := by omega
    simp only [Shard.wt1] at hq1 ⊢
    obtain ⟨x1, p1, x2, p2, rfl, rfl, w1, w2⟩ := hR
    have e5 := heldAccountS_run (Z := Z) hLAccount (n := a.book.list.length) (k := q + 4) w1 (by omega) (by omega)
    have e6 := heldFinS_run (Z := Z) hLFin (n := a.finished.length) (k := q + 4 + 5 * (a.book.list.length : Nat)) w2 (by omega) (by omega)
    have hw1 := wrapI1 q (by omega) (by omega)
    have hw2 : IntKind.i64.wrap (q + 1 + 1) = q + 2 := by rw [wrapI _ (by omega) (by omega)]; omega
    have hw3 : IntKind.i64.wrap (q + 2 + 1) = q + 3 := by rw [wrapI _ (by omega) (by omega)]; omega
    have hw4 : IntKind.i64.wrap (q + 3 + 1) = q + 4 := by rw [wrapI _ (by omega) (by omega)]; omega
    have hu1 := wrapU1 q (by omega) (by omega)
    have hu2 := wrapU1 (q + 1) (by omega) (by omega)
    have n0 : ¬ q + 4 + 5 * ((a.book.list.length : Nat) : Int) < 0 := by omega
    have n1 : ¬ q + 4 + 5 * ((a.book.list.length : Nat) : Int) + 2 * ((a.finished.length : Nat) : Int) < 0 := by omega
    rw [loop_run]
    conv in (codeF _ _ r322L0 _) => unfold r322L0
    simp only [Shard.mark1] at l4
    simp only [run0, run1, run2, run3, run4, noSlot, memN, RO.dst, lk, drop, forget, number, Nat.reduceBEq, cut?, splice?, builds, List.length_cons, List.length_nil, List.drop_succ_cons, List.drop_zero, List.take_succ_cons, List.take_zero, List.cons_append, List.nil_append, List.append_nil, List.drop_nil, List.take_nil, Nat.reduceAdd, Nat.reduceLeDiff, Nat.zero_add, Nat.add_zero, ↓reduceIte, Bool.not_true, Bool.not_false, decide_true, decide_false, eq_self, bne_self_eq_false, List.getElem?_cons_zero, List.getElem?_cons_succ, decide_eq_true_eq, Bool.false_eq_true, Bool.true_eq_false, reduceCtorEq, Nat.le_refl, hl, hlt, hxi, l4, hw1, hw2, hw3, hw4, hu1, hu2, e5, e6, n0, n1, hws]
    rw [show q + (4 + 5 * ((a.book.list.length : Nat) : Int) + 2 * ((a.finished.length : Nat) : Int)) = q + 4 + 5 * (a.book.list.length : Nat) + 2 * (a.finished.length : Nat) from by omega]) (s := ⟨[(0, .c x), (1, .c (.int .i64 k)), (5, .c (.int .i64 (0 : Nat)))], [], [], h⟩) (by simp [sumI])
  subst hs
  simp only [show ((0 : Nat) : Int) = 0 from rfl, List.take_length] at l1
  rw [l1, loop_run]
  conv in (codeF _ _ r322L0 _) => unfold r322L0
  have hlt : ¬ (xs.length : Int) < xs.length := by omega
  simp only [run0, run1, run2, run3, run4, noSlot, memN, RO.dst, lk, drop, forget, number, Nat.reduceBEq, cut?, splice?, builds, List.length_cons, List.length_nil, List.drop_succ_cons, List.drop_zero, List.take_succ_cons, List.take_zero, List.cons_append, List.nil_append, List.append_nil, List.drop_nil, List.take_nil, Nat.reduceAdd, Nat.reduceLeDiff, Nat.zero_add, Nat.add_zero, ↓reduceIte, Bool.not_true, Bool.not_false, decide_true, decide_false, eq_self, bne_self_eq_false, List.getElem?_cons_zero, List.getElem?_cons_succ, decide_eq_true_eq, Bool.false_eq_true, Bool.true_eq_false, reduceCtorEq, Nat.le_refl, hl, hlt]
end
section
variable {F : Nat → Option RF} {Z : CallF} {h : Heap} {cs : List Cell} {t : Store} {fp : List Nat}
theorem heldStore_r (hLStore : Has F tLStore) (hLShard : Has F tLShard) (hLBook : Has F tLBook) (hLAccount : Has F tLAccount) (hLFin : Has F tLFin) {k : Int} (v : Store.RI h cs (t.marked k) fp) (h1 : 0 ≤ k) (h2 : k + t.wt ≤ 9200000000000000000) :
    call F Z 292 [.agg cs, .c (.int .i64 k)] h = some (.c (.int .i64 (k + t.wt)), h) := by
  obtain ⟨x, p, rfl, rfl, w⟩ := v
  have e := heldShardS_r (Z := Z) hLShard hLAccount hLFin (xs := t.shards) w h1 h2
  have hn := t.wt_nn
  rw [call_run F Z (hLStore.lk (g := 292) rfl) _ _ rfl]
  have he : sumI Shard.wt1 t.shards = t.wt := rfl
  rw [he] at e
  have hk : ¬ k + t.wt < 0 := by omega
  simp only [run0, run1, run2, run3, run4, noSlot, memN, RO.dst, lk, drop, forget, number, Nat.reduceBEq, cut?, splice?, builds, List.length_cons, List.length_nil, List.drop_succ_cons, List.drop_zero, List.take_succ_cons, List.take_zero, List.cons_append, List.nil_append, List.append_nil, List.drop_nil, List.take_nil, Nat.reduceAdd, Nat.reduceLeDiff, Nat.zero_add, Nat.add_zero, ↓reduceIte, Bool.not_true, Bool.not_false, decide_true, decide_false, eq_self, bne_self_eq_false, List.getElem?_cons_zero, List.getElem?_cons_succ, decide_eq_true_eq, Bool.false_eq_true, Bool.true_eq_false, reduceCtorEq, Nat.le_refl, e, hk]
end
def Store.mark1 (t : Store) (k : Int) : Store := ⟨k, k + 1, Shard.marksS t.shards (k + 2)⟩
def Store.wt1 (t : Store) : Int := 2 + sumI Shard.wt1 t.shards
def Store.wtS (xs : List Store) : Int := sumI Store.wt1 xs
def Store.marksS : List Store → Int → List Store
  | [], _ => []
  | t :: r, k => t.mark1 k :: Store.marksS r (k + t.wt1)
theorem Store.wt1_nn (t : Store) : 0 ≤ t.wt1 := by have := Shard.sum_nn t.shards; simp only [wt1]; omega
theorem Store.sum_nn : ∀ xs : List Store, 0 ≤ sumI Store.wt1 xs
  | [] => by simp [sumI]
  | a :: r => by have := a.wt1_nn; have := Store.sum_nn r; simp only [sumI]; omega
theorem Store.wtS_nn (xs : List Store) : 0 ≤ Store.wtS xs := Store.sum_nn xs
theorem Store.sum_pre (xs : List Store) (i : Nat) : sumI Store.wt1 (xs.take i) ≤ sumI Store.wt1 xs := by
  have e := sumI_app Store.wt1 (xs.take i) (xs.drop i)
  rw [List.take_append_drop] at e
  have := Store.sum_nn (xs.drop i)
  omega
theorem Store.marksS_len : ∀ (xs : List Store) (k : Int), (Store.marksS xs k).length = xs.length
  | [], _ => rfl
  | t :: r, k => by simp only [Store.marksS, List.length_cons, Store.marksS_len r]
theorem Store.marksS_app : ∀ (xs ys : List Store) (k : Int), Store.marksS (xs ++ ys) k = Store.marksS xs k ++ Store.marksS ys (k + sumI Store.wt1 xs)
  | [], ys, k => by simp [Store.marksS, sumI]
  | t :: r, ys, k => by
    simp only [List.cons_append, Store.marksS, Store.marksS_app r ys, sumI, Int.add_assoc]
theorem Store.mark_step {xs : List Store} {i : Nat} (hi : i < xs.length) (k : Int) :
    (Store.marksS (xs.take i) k ++ xs.drop i).set i (xs[i].mark1 (k + sumI Store.wt1 (xs.take i))) = Store.marksS (xs.take (i + 1)) k ++ xs.drop (i + 1) := by
  have hl : (Store.marksS (xs.take i) k).length = i := by rw [Store.marksS_len, List.length_take]; omega
  rw [List.set_append_right _ _ (by omega), hl, Nat.sub_self, List.drop_eq_getElem_cons hi, List.set_cons_zero, List.take_add_one, List.getElem?_eq_getElem hi, Store.marksS_app]
  simp [Store.marksS]
theorem Store.mark_at {xs : List Store} {i : Nat} (hi : i < xs.length) (k : Int) (h : i < (Store.marksS (xs.take i) k ++ xs.drop i).length) : (Store.marksS (xs.take i) k ++ xs.drop i)[i] = xs[i] := by
  have hl : (Store.marksS (xs.take i) k).length = i := by rw [Store.marksS_len, List.length_take]; omega
  rw [List.getElem_append_right (by omega)]
  simp [hl]
section
variable {F : Nat → Option RF} {Z : CallF} {h : Heap} {x : Cell} {xs : List Store} {fp : List Nat}
set_option maxHeartbeats 2000000 in
theorem markStoreS_turn (hLStore : Has F tLStore) (hLShard : Has F tLShard) (hLAccount : Has F tLAccount) (hLFin : Has F tLFin) {ys : List Store} {g : Heap} (w : SlR 18 Store.RI g x ys fp) (nd : fp.Nodup) (hlo : ∀ id, id ∈ fp → g.floor ≤ id) {i : Nat} (hi : i < ys.length) (k : Int) (h1 : 0 ≤ k) (h2 : k + ys[i].wt1 ≤ 9200000000000000000) :
    ∃ g', loop F Z [0, 1, 5] r286L0 ⟨[(0, .c x), (1, .c (.int .i64 k)), (5, .c (.int .i64 (i : Nat)))], [], [], g⟩ = loop F Z [0, 1, 5] r286L0 ⟨[(0, .c x), (1, .c (.int .i64 (k + ys[i].wt1))), (5, .c (.int .i64 ((i + 1 : Nat) : Int)))], [], [], g'⟩ ∧
      Mk g g' fp ∧ SlR 18 Store.RI g' x (ys.set i (ys[i].mark1 k)) fp := by
  have hle := w.le2
  have hlt : (i : Int) < ys.length := by omega
  have hws := wrapS i (by omega)
  have hwl := w.len
  have hxi := w.idx hi
  obtain ⟨r, f, rows, hR, hin, nf, hs, hns, hsl, hg, hr, hir, fin⟩ := w.turn Store.okI nd hi
  have hput := storeP_put (h := g) (hlo _ hs) hir
  have he := put_row hg hr
  have hnn := Shard.sum_nn ys[i].shards
  simp only [Store.wt1] at h2 ⊢
  clear w
  generalize ys[i] = a at *
  obtain ⟨x1, p1, rfl, rfl, w1⟩ := hR
  generalize hg4 : g.put x.sid (rows.set i [.int .i64 k, .int .i64 (k + 1), x1]) = g4
  have m4 : Mk g g4 [x.sid] := by rw [← hg4]; exact Mk.put _ _ _
  have l4 : ∀ j n, loadP g4 x.sid i j n = cut? [.int .i64 k, .int .i64 (k + 1), x1] j n := by rw [← hg4]; exact loadP_put hir _
  have s1 : ∀ id, id ∈ f → id ∉ [x.sid] := fun id hid hc => hns (by rw [List.mem_singleton] at hc; rw [← hc]; exact hid)
  have w1' := w1.mk Shard.okI m4 s1
  obtain ⟨g5, e5, m5, u1⟩ := markShardS_r (Z := Z) hLShard hLAccount hLFin w1' nf (fun id hid => by rw [m4.fl]; exact hlo id (hin id hid)) (k + 2) (by omega) (by omega)
  have get5 : g5.get x.sid = g4.get x.sid := m5.get _ fun hc => hns hc
  refine ⟨g5, ?_, ⟨by rw [m5.next, m4.next], by rw [m5.fl, m4.fl], fun id hid => ?_⟩, ?_⟩
  · rw [loop_run]
    conv in (codeF _ _ r286L0 _) => unfold r286L0
    rw [← he]
    have hw1 := wrapI1 k (by omega) (by omega)
    have hw2 : IntKind.i64.wrap (k + 1 + 1) = k + 2 := by rw [wrapI _ (by omega) (by omega)]; omega
    simp only [run0, run1, run2, run3, run4, noSlot, memN, RO.dst, lk, drop, forget, number, Nat.reduceBEq, cut?, splice?, builds, List.length_cons, List.length_nil, List.drop_succ_cons, List.drop_zero, List.take_succ_cons, List.take_zero, List.cons_append, List.nil_append, List.append_nil, List.drop_nil, List.take_nil, Nat.reduceAdd, Nat.reduceLeDiff, Nat.zero_add, Nat.add_zero, ↓reduceIte, Bool.not_true, Bool.not_false, decide_true, decide_false, eq_self, bne_self_eq_false, List.getElem?_cons_zero, List.getElem?_cons_succ, decide_eq_true_eq, Bool.false_eq_true, Bool.true_eq_false, reduceCtorEq, Nat.le_refl, hwl, hlt, hxi, hput, putM_s, hw1, hw2, hg4, l4, e5, hws]
    rw [show k + (2 + sumI Shard.wt1 a.shards) = k + 2 + sumI Shard.wt1 a.shards from by omega]
  · rw [m5.get id (fun hc => hid (hin id hc)), m4.get id (fun hc => hid (by rw [List.mem_singleton] at hc; rw [hc]; exact hs))]
  · refine fin g5 [.int .i64 k, .int .i64 (k + 1), x1] _ (by rw [m5.next, m4.next]; exact Nat.le_refl _) (fun id hid h3 h4 => ?_) (by rw [get5, ← hg4]; simp [Heap.put]) ⟨x1, f, rfl, rfl, u1⟩
    rw [m5.get id (fun hc => h4 hc), m4.get id (by simpa using h3)]
theorem markStoreS_r (hLStore : Has F tLStore) (hLShard : Has F tLShard) (hLBook : Has F tLBook) (hLAccount : Has F tLAccount) (hLFin : Has F tLFin) (w : SlR 18 Store.RI h x xs fp) (nd : fp.Nodup) (hlo : ∀ id, id ∈ fp → h.floor ≤ id) (k : Int) (h1 : 0 ≤ k) (h2 : k + Store.wtS xs ≤ 9200000000000000000) :
    ∃ h', call F Z 286 [.c x, .c (.int .i64 k)] h = some (.c (.int .i64 (k + Store.wtS xs)), h') ∧ Mk h h' fp ∧ SlR 18 Store.RI h' x (Store.marksS xs k) fp := by
  have hle := w.le2
  have hnn : ∀ i, 0 ≤ sumI Store.wt1 (xs.take i) := fun i => Store.sum_nn _
  have hpre : ∀ i, sumI Store.wt1 (xs.take i) ≤ sumI Store.wt1 xs := fun i => Store.sum_pre xs i
  simp only [Store.wtS] at h2 ⊢
  rw [call_run F Z (hLStore.lk (g := 286) rfl) _ _ rfl]
  simp only [run0, run1, run2, run3, run4, noSlot, memN, RO.dst, lk, drop, forget, number, Nat.reduceBEq, cut?, splice?, builds, List.length_cons, List.length_nil, List.drop_succ_cons, List.drop_zero, List.take_succ_cons, List.take_zero, List.cons_append, List.nil_append, List.append_nil, List.drop_nil, List.take_nil, Nat.reduceAdd, Nat.reduceLeDiff, Nat.zero_add, Nat.add_zero, ↓reduceIte, Bool.not_true, Bool.not_false, decide_true, decide_false, eq_self, bne_self_eq_false, List.getElem?_cons_zero, List.getElem?_cons_succ, decide_eq_true_eq, Bool.false_eq_true, Bool.true_eq_false, reduceCtorEq, Nat.le_refl]
  obtain ⟨s', ⟨g, hs, m, u⟩, l1⟩ := loop_goes (F := F) (Z := Z) (live := [0, 1, 5]) (b := r286L0) xs.length (fun i s => ∃ g, s = ⟨[(0, .c x), (1, .c (.int .i64 (k + sumI Store.wt1 (xs.take i)))), (5, .c (.int .i64 (i : Nat)))], [], [], g⟩ ∧ Mk h g fp ∧ SlR 18 Store.RI g x (Store.marksS (xs.take i) k ++ xs.drop i) fp) (fun i s hi ⟨g, hs, m, u⟩ => by
    subst hs
    have hi' : i < (Store.marksS (xs.take i) k ++ xs.drop i).length := by rw [List.length_append, Store.marksS_len, List.length_take, List.length_drop]; omega
    have e := Store.mark_at hi k hi'
    have hst := sumI_take Store.wt1 xs hi
    have hp := hpre (i + 1)
    have h0 := hnn i
    obtain ⟨g', e1, m1, u1⟩ := markStoreS_turn (Z := Z) hLStore hLShard hLAccount hLFin u nd (fun id hid => by rw [m.fl]; exact hlo id hid) hi' (k + sumI Store.wt1 (xs.take i)) (by omega) (by rw [e]; omega)
    rw [e, Store.mark_step hi] at u1
    rw [e] at e1
    refine ⟨_, ⟨g', rfl, ⟨m1.next.trans m.next, m1.fl.trans m.fl, fun id hid => (m1.get id hid).trans (m.get id hid)⟩, u1⟩, ?_⟩
    rw [e1, hst, Int.add_assoc]) (s := ⟨[(0, .c x), (1, .c (.int .i64 k)), (5, .c (.int .i64 (0 : Nat)))], [], [], h⟩) ⟨h, by simp [sumI], Mk.refl _ _, by simpa [Store.marksS] using w⟩
  subst hs
  simp only [show ((0 : Nat) : Int) = 0 from rfl, List.take_length] at l1
  simp only [List.take_length, List.drop_length, List.append_nil] at u
  rw [l1, loop_run]
  conv in (codeF _ _ r286L0 _) => unfold r286L0
  have hlt : ¬ (xs.length : Int) < xs.length := by omega
  have hl := u.len
  rw [Store.marksS_len] at hl
  simp only [run0, run1, run2, run3, run4, noSlot, memN, RO.dst, lk, drop, forget, number, Nat.reduceBEq, cut?, splice?, builds, List.length_cons, List.length_nil, List.drop_succ_cons, List.drop_zero, List.take_succ_cons, List.take_zero, List.cons_append, List.nil_append, List.append_nil, List.drop_nil, List.take_nil, Nat.reduceAdd, Nat.reduceLeDiff, Nat.zero_add, Nat.add_zero, ↓reduceIte, Bool.not_true, Bool.not_false, decide_true, decide_false, eq_self, bne_self_eq_false, List.getElem?_cons_zero, List.getElem?_cons_succ, decide_eq_true_eq, Bool.false_eq_true, Bool.true_eq_false, reduceCtorEq, Nat.le_refl, hl, hlt]
  exact ⟨g, rfl, m, u⟩
end
end Go.Proofs.Ytlfepembgjjejaa.A
/- Who holds an id. -/
namespace Go.Proofs.Ytlfepembgjjejaa.A
open Go
set_option linter.unusedSimpArgs false
set_option linter.unusedVariables false
def Store.holds (s : Store) (id : Int) : Bool := decide (0 ≤ findId s.shards id) && ((Shard.at_ s.shards (findId s.shards id).toNat).state == 0)
def holdAt (l : List Store) (id : Int) (i : Nat) : Bool := match l[i]? with | some s => s.holds id | none => false
def holdersUp (l : List Store) (id : Int) : Nat → List Int
  | 0 => []
  | n + 1 => if holdAt l id n then holdersUp l id n ++ [(n : Int)] else holdersUp l id n
def holders (l : List Store) (id : Int) : List Int := bif areStores l then holdersUp l id l.length else []
theorem holdersUp_len (l : List Store) (id : Int) : ∀ n, (holdersUp l id n).length ≤ n
  | 0 => Nat.le_refl _
  | n + 1 => by
    have := holdersUp_len l id n
    simp only [holdersUp]
    split <;> simp <;> omega
theorem holders_len (l : List Store) (id : Int) : (holders l id).length ≤ l.length := by
  unfold holders
  cases areStores l
  · simp
  · exact holdersUp_len l id _
theorem Store.wtS_le {l : List Store} (sm : l.length ≤ 1048576 ∧ ∀ a, a ∈ l → a.Small) : Store.wtS l ≤ 8388608002097152000 := by
  obtain ⟨h1, h2⟩ := sm
  have h3 := sumI_le Store.wt1 (m := 8000000000002) l fun a ha => by
    have := Store.wt_le (h2 a ha)
    have e : a.wt1 = 2 + a.wt := rfl
    have := a.wt_nn
    omega
  have : Store.wtS l = sumI Store.wt1 l := rfl
  omega
section
variable {F : Nat → Option RF} {Z : CallF} {h : Heap} {x : Cell} {l : List Store} {fp : List Nat} {id : Int}
theorem holdAt_at {i : Nat} (hi : i < l.length) : holdAt l id i = l[i].holds id := by simp [holdAt, List.getElem?_eq_getElem hi]
theorem holds_no {s : Store} (h : findId s.shards id = -1) : s.holds id = false := by simp [Store.holds, h]
theorem holds_at {s : Store} {i : Nat} (h : findId s.shards id = (i : Int)) : s.holds id = ((Shard.at_ s.shards i).state == 0) := by simp [Store.holds, h]
theorem hold_yes {i : Nat} (h : holdAt l id i = true) : holdersUp l id (i + 1) = holdersUp l id i ++ [(i : Int)] := by simp only [holdersUp, h, if_true]
theorem hold_no {i : Nat} (h : holdAt l id i = false) : holdersUp l id (i + 1) = holdersUp l id i := by simp only [holdersUp, h, Bool.false_eq_true, if_false]
set_option maxHeartbeats 1000000 in
theorem Holders_c (k : KI F) (q : KA F) (hL : Has F tLibslicesIndexFuncimplShardimplShard) (hf : h.floor ≤ h.next) (w : SlR 18 Store.RI h x l fp) (id : Int) (ok : ∀ a, a ∈ l → a.Ok) :
    ∃ y h' fq, call F Z 284 [.c x, .c (.int .u64 id)] h = some (.c y, h') ∧ On h h' ∧ SlR 15 (Fl int_enc) h' y (holders l id) fq ∧ Fre h fq := by
  obtain ⟨h1, e1, o1⟩ := areStores_run (Z := Z) k q w ok
  rw [call_run F Z (q.i15.lk (g := 284) rfl) _ _ rfl]
  cases ha : areStores l with
  | false =>
    rw [ha] at e1
    have hd : holders l id = [] := by simp [holders, ha]
    rw [hd]
    simp only [run0, run1, run2, run3, run4, noSlot, memN, RO.dst, lk, drop, forget, number, Nat.reduceBEq, cut?, splice?, builds, List.length_cons, List.length_nil, List.drop_succ_cons, List.drop_zero, List.take_succ_cons, List.take_zero, List.cons_append, List.nil_append, List.append_nil, List.drop_nil, List.take_nil, Nat.reduceAdd, Nat.reduceLeDiff, Nat.zero_add, Nat.add_zero, ↓reduceIte, Bool.not_true, Bool.not_false, decide_true, decide_false, eq_self, bne_self_eq_false, List.getElem?_cons_zero, List.getElem?_cons_succ, decide_eq_true_eq, Bool.false_eq_true, Bool.true_eq_false, reduceCtorEq, Nat.le_refl, e1]
    exact ⟨_, _, _, rfl, o1, SlR.nil _ _ _, Fre.nil h⟩
  | true =>
    rw [ha] at e1
    have hd : holders l id = holdersUp l id l.length := by simp [holders, ha]
    rw [hd]
    obtain ⟨hl, _⟩ := areStores_all ha
    have hwl := w.len
    simp only [run0, run1, run2, run3, run4, noSlot, memN, RO.dst, lk, drop, forget, number, Nat.reduceBEq, cut?, splice?, builds, List.length_cons, List.length_nil, List.drop_succ_cons, List.drop_zero, List.take_succ_cons, List.take_zero, List.cons_append, List.nil_append, List.append_nil, List.drop_nil, List.take_nil, Nat.reduceAdd, Nat.reduceLeDiff, Nat.zero_add, Nat.add_zero, ↓reduceIte, Bool.not_true, Bool.not_false, decide_true, decide_false, eq_self, bne_self_eq_false, List.getElem?_cons_zero, List.getElem?_cons_succ, decide_eq_true_eq, Bool.false_eq_true, Bool.true_eq_false, reduceCtorEq, Nat.le_refl, List.replicate_zero, fills, e1, hwl]
    obtain ⟨s', ⟨y, g, hs, a⟩, lp⟩ := loop_goes (F := F) (Z := Z) (live := [1, 5, 13, 14, 15]) (b := r284L0) l.length (fun i st => ∃ y g, st = ⟨[(1, .c (.int .u64 id)), (5, .c y), (13, .c x), (14, .c (.int .i64 (l.length : Nat))), (15, .c (.int .i64 (i : Nat)))], [], [], g⟩ ∧ Acc 15 h g y ((holdersUp l id i).map int_enc)) (fun i st hi ⟨y, g, hs, a⟩ => by
      subst hs
      have hlt : (i : Int) < l.length := by omega
      have hws := wrapS i (by omega)
      have hxi := w.idx hi
      obtain ⟨r, f, hld, hR, _⟩ := (w.on Store.okI a.on).one hi
      obtain ⟨r1, r2, r3⟩ := Store.lenI hR
      obtain ⟨g1, e2, o2⟩ := shardWith_on (Z := Z) k.i13 hL hR id
      have hR1 := Store.okI.on hR o2
      have a1 := a.go o2
      have hlen := holdersUp_len l id i
      have hat := holdAt_at (id := id) hi
      obtain ⟨xc, p, rfl, _, u⟩ := hR1
      rw [loop_run]
      conv in (codeF _ _ r284L0 _) => unfold r284L0
      generalize l[i] = s at *
      rcases u.found (fun t => decide (t.lo ≤ id) && decide (id ≤ t.hi)) with e | ⟨j, e, hj, _, hx, _, _, hld2⟩
      · change findId s.shards id = -1 at e
        rw [holds_no e] at hat
        rw [← hold_no hat] at a1
        rw [e] at e2
        simp only [run0, run1, run2, run3, run4, noSlot, memN, RO.dst, lk, drop, forget, number, Nat.reduceBEq, cut?, splice?, builds, List.length_cons, List.length_nil, List.drop_succ_cons, List.drop_zero, List.take_succ_cons, List.take_zero, List.cons_append, List.nil_append, List.append_nil, List.drop_nil, List.take_nil, Nat.reduceAdd, Nat.reduceLeDiff, Nat.zero_add, Nat.add_zero, ↓reduceIte, Bool.not_true, Bool.not_false, decide_true, decide_false, eq_self, bne_self_eq_false, List.getElem?_cons_zero, List.getElem?_cons_succ, decide_eq_true_eq, Bool.false_eq_true, Bool.true_eq_false, reduceCtorEq, Nat.le_refl, hlt, hxi, hld, r1, r2, r3, e2, Int.reduceLE, Int.reduceNeg, ge_iff_le, hws]
        exact ⟨_, ⟨_, _, rfl, a1⟩, rfl⟩
      · change findId s.shards id = (j : Int) at e
        rw [holds_at e] at hat
        rw [e] at e2
        have g0 : (j : Int) ≥ 0 := by omega
        cases hb : ((Shard.at_ s.shards j).state == 0) with
        | false =>
          rw [hb] at hat
          rw [← hold_no hat] at a1
          simp only [run0, run1, run2, run3, run4, noSlot, memN, RO.dst, lk, drop, forget, number, Nat.reduceBEq, cut?, splice?, builds, List.length_cons, List.length_nil, List.drop_succ_cons, List.drop_zero, List.take_succ_cons, List.take_zero, List.cons_append, List.nil_append, List.append_nil, List.drop_nil, List.take_nil, Nat.reduceAdd, Nat.reduceLeDiff, Nat.zero_add, Nat.add_zero, ↓reduceIte, Bool.not_true, Bool.not_false, decide_true, decide_false, eq_self, bne_self_eq_false, List.getElem?_cons_zero, List.getElem?_cons_succ, decide_eq_true_eq, Bool.false_eq_true, Bool.true_eq_false, reduceCtorEq, Nat.le_refl, hlt, hxi, hld, r1, r2, r3, e2, g0, hx, hld2, Shard.cells, hb, hws]
          exact ⟨_, ⟨_, _, rfl, a1⟩, rfl⟩
        | true =>
          rw [hb] at hat
          have e3 := a1.one_eq hf (bytes := 8) (by rw [List.length_map]; omega) [.int .i64 (i : Nat)]
          have a2 := a1.one hf (by rw [List.length_map]; omega) [.int .i64 (i : Nat)]
          have hm : (holdersUp l id i).map int_enc ++ [[.int .i64 (i : Nat)]] = (holdersUp l id (i + 1)).map int_enc := by rw [hold_yes hat, List.map_append]; rfl
          rw [hm] at a2
          simp only [run0, run1, run2, run3, run4, noSlot, memN, RO.dst, lk, drop, forget, number, Nat.reduceBEq, cut?, splice?, builds, List.length_cons, List.length_nil, List.drop_succ_cons, List.drop_zero, List.take_succ_cons, List.take_zero, List.cons_append, List.nil_append, List.append_nil, List.drop_nil, List.take_nil, Nat.reduceAdd, Nat.reduceLeDiff, Nat.zero_add, Nat.add_zero, ↓reduceIte, Bool.not_true, Bool.not_false, decide_true, decide_false, eq_self, bne_self_eq_false, List.getElem?_cons_zero, List.getElem?_cons_succ, decide_eq_true_eq, Bool.false_eq_true, Bool.true_eq_false, reduceCtorEq, Nat.le_refl, hlt, hxi, hld, r1, r2, r3, e2, g0, hx, hld2, Shard.cells, hb, List.replicate_succ, List.replicate_zero, fills, and_self, Nat.zero_lt_one, List.set_cons_zero, e3, hws]
          exact ⟨_, ⟨_, _, rfl, a2⟩, rfl⟩) (s := ⟨[(1, .c (.int .u64 id)), (5, .c (.sl 15 h1.next 0 0)), (13, .c x), (14, .c (.int .i64 (l.length : Nat))), (15, .c (.int .i64 (0 : Nat)))], [], [], h1.push []⟩) ⟨_, _, rfl, by simpa [holdersUp] using Acc.lit0 (tag := 15) o1⟩
    subst hs
    simp only [show ((0 : Nat) : Int) = 0 from rfl] at lp
    have hlt : ¬ (l.length : Int) < l.length := by omega
    rw [lp, loop_run]
    conv in (codeF _ _ r284L0 _) => unfold r284L0
    simp only [run0, run1, run2, run3, run4, noSlot, memN, RO.dst, lk, drop, forget, number, Nat.reduceBEq, cut?, splice?, builds, List.length_cons, List.length_nil, List.drop_succ_cons, List.drop_zero, List.take_succ_cons, List.take_zero, List.cons_append, List.nil_append, List.append_nil, List.drop_nil, List.take_nil, Nat.reduceAdd, Nat.reduceLeDiff, Nat.zero_add, Nat.add_zero, ↓reduceIte, Bool.not_true, Bool.not_false, decide_true, decide_false, eq_self, bne_self_eq_false, List.getElem?_cons_zero, List.getElem?_cons_succ, decide_eq_true_eq, Bool.false_eq_true, Bool.true_eq_false, reduceCtorEq, Nat.le_refl, hlt]
    obtain ⟨o, fq, u, f⟩ := a.flat (enc := int_enc)
    exact ⟨_, _, _, rfl, o, u, f⟩
set_option maxHeartbeats 1000000 in
theorem sHolders_c (k : KS F) (hS15 : Has F tS15) (hf : h.floor ≤ h.next) (w : SlR 18 Store.RI h x l fp) (id : Int) (ok : ∀ a, a ∈ l → a.Ok) :
    ∃ y h' fq, call F Z 283 [.c x, .c (.int .u64 id)] h = some (.c y, h') ∧ On h h' ∧ SlR 15 (Fl int_enc) h' y (holders l id) fq ∧ Fre h fq := by
  have e1 := l15All_run (Z := Z) k hS15 (w.on Store.okI (On.push h [])) ok
  rw [call_run F Z (hS15.lk (g := 283) rfl) _ _ rfl]
  cases ha : areStores l with
  | false =>
    rw [ha] at e1
    have hd : holders l id = [] := by simp [holders, ha]
    rw [hd]
    simp only [run0, run1, run2, run3, run4, noSlot, memN, RO.dst, lk, drop, forget, number, Nat.reduceBEq, cut?, splice?, builds, List.length_cons, List.length_nil, List.drop_succ_cons, List.drop_zero, List.take_succ_cons, List.take_zero, List.cons_append, List.nil_append, List.append_nil, List.drop_nil, List.take_nil, Nat.reduceAdd, Nat.reduceLeDiff, Nat.zero_add, Nat.add_zero, ↓reduceIte, Bool.not_true, Bool.not_false, decide_true, decide_false, eq_self, bne_self_eq_false, List.getElem?_cons_zero, List.getElem?_cons_succ, decide_eq_true_eq, Bool.false_eq_true, Bool.true_eq_false, reduceCtorEq, Nat.le_refl, List.replicate_zero, fills, e1]
    exact ⟨_, _, _, rfl, On.push h [], SlR.nil _ _ _, Fre.nil h⟩
  | true =>
    rw [ha] at e1
    have hd : holders l id = holdersUp l id l.length := by simp [holders, ha]
    rw [hd]
    obtain ⟨hl, _⟩ := areStores_all ha
    have hwl := w.len
    simp only [run0, run1, run2, run3, run4, noSlot, memN, RO.dst, lk, drop, forget, number, Nat.reduceBEq, cut?, splice?, builds, List.length_cons, List.length_nil, List.drop_succ_cons, List.drop_zero, List.take_succ_cons, List.take_zero, List.cons_append, List.nil_append, List.append_nil, List.drop_nil, List.take_nil, Nat.reduceAdd, Nat.reduceLeDiff, Nat.zero_add, Nat.add_zero, ↓reduceIte, Bool.not_true, Bool.not_false, decide_true, decide_false, eq_self, bne_self_eq_false, List.getElem?_cons_zero, List.getElem?_cons_succ, decide_eq_true_eq, Bool.false_eq_true, Bool.true_eq_false, reduceCtorEq, Nat.le_refl, List.replicate_zero, fills, e1]
    obtain ⟨s', ⟨y, g, hs, a⟩, lp⟩ := loop_goes (F := F) (Z := Z) (live := [0, 1, 5, 6]) (b := r283L0) l.length (fun i st => ∃ y g, st = ⟨[(0, .c x), (1, .c (.int .u64 id)), (5, .c y), (6, .c (.int .i64 (i : Nat)))], [], [], g⟩ ∧ Acc 15 h g y ((holdersUp l id i).map int_enc)) (fun i st hi ⟨y, g, hs, a⟩ => by
      subst hs
      have hlt : (i : Int) < l.length := by omega
      have hws := wrapS i (by omega)
      have hxi := w.idx hi
      obtain ⟨r, f, hld, hR, _⟩ := (w.on Store.okI a.on).one hi
      obtain ⟨r1, r2, r3⟩ := Store.lenI hR
      have e2 := l13Find_run (Z := Z) k.s13 hR id
      have hlen := holdersUp_len l id i
      have hat := holdAt_at (id := id) hi
      obtain ⟨xc, p, rfl, _, u⟩ := hR
      rw [loop_run]
      conv in (codeF _ _ r283L0 _) => unfold r283L0
      generalize l[i] = s at *
      rcases u.found (fun t => decide (t.lo ≤ id) && decide (id ≤ t.hi)) with e | ⟨j, e, hj, _, hx, _, _, hld2⟩
      · change findId s.shards id = -1 at e
        rw [holds_no e] at hat
        rw [← hold_no hat] at a
        rw [e] at e2
        simp only [run0, run1, run2, run3, run4, noSlot, memN, RO.dst, lk, drop, forget, number, Nat.reduceBEq, cut?, splice?, builds, List.length_cons, List.length_nil, List.drop_succ_cons, List.drop_zero, List.take_succ_cons, List.take_zero, List.cons_append, List.nil_append, List.append_nil, List.drop_nil, List.take_nil, Nat.reduceAdd, Nat.reduceLeDiff, Nat.zero_add, Nat.add_zero, ↓reduceIte, Bool.not_true, Bool.not_false, decide_true, decide_false, eq_self, bne_self_eq_false, List.getElem?_cons_zero, List.getElem?_cons_succ, decide_eq_true_eq, Bool.false_eq_true, Bool.true_eq_false, reduceCtorEq, Nat.le_refl, hwl, hlt, hxi, hld, r1, r2, r3, e2, Int.reduceLE, Int.reduceNeg, ge_iff_le, hws]
        exact ⟨_, ⟨_, _, rfl, a⟩, rfl⟩
      · change findId s.shards id = (j : Int) at e
        rw [holds_at e] at hat
        rw [e] at e2
        have g0 : (j : Int) ≥ 0 := by omega
        cases hb : ((Shard.at_ s.shards j).state == 0) with
        | false =>
          rw [hb] at hat
          rw [← hold_no hat] at a
          simp only [run0, run1, run2, run3, run4, noSlot, memN, RO.dst, lk, drop, forget, number, Nat.reduceBEq, cut?, splice?, builds, List.length_cons, List.length_nil, List.drop_succ_cons, List.drop_zero, List.take_succ_cons, List.take_zero, List.cons_append, List.nil_append, List.append_nil, List.drop_nil, List.take_nil, Nat.reduceAdd, Nat.reduceLeDiff, Nat.zero_add, Nat.add_zero, ↓reduceIte, Bool.not_true, Bool.not_false, decide_true, decide_false, eq_self, bne_self_eq_false, List.getElem?_cons_zero, List.getElem?_cons_succ, decide_eq_true_eq, Bool.false_eq_true, Bool.true_eq_false, reduceCtorEq, Nat.le_refl, hwl, hlt, hxi, hld, r1, r2, r3, e2, g0, hx, hld2, Shard.cells, hb, hws]
          exact ⟨_, ⟨_, _, rfl, a⟩, rfl⟩
        | true =>
          rw [hb] at hat
          have e3 := a.one_eq hf (bytes := 8) (by rw [List.length_map]; omega) [.int .i64 (i : Nat)]
          have a2 := a.one hf (by rw [List.length_map]; omega) [.int .i64 (i : Nat)]
          have hm : (holdersUp l id i).map int_enc ++ [[.int .i64 (i : Nat)]] = (holdersUp l id (i + 1)).map int_enc := by rw [hold_yes hat, List.map_append]; rfl
          rw [hm] at a2
          simp only [run0, run1, run2, run3, run4, noSlot, memN, RO.dst, lk, drop, forget, number, Nat.reduceBEq, cut?, splice?, builds, List.length_cons, List.length_nil, List.drop_succ_cons, List.drop_zero, List.take_succ_cons, List.take_zero, List.cons_append, List.nil_append, List.append_nil, List.drop_nil, List.take_nil, Nat.reduceAdd, Nat.reduceLeDiff, Nat.zero_add, Nat.add_zero, ↓reduceIte, Bool.not_true, Bool.not_false, decide_true, decide_false, eq_self, bne_self_eq_false, List.getElem?_cons_zero, List.getElem?_cons_succ, decide_eq_true_eq, Bool.false_eq_true, Bool.true_eq_false, reduceCtorEq, Nat.le_refl, hwl, hlt, hxi, hld, r1, r2, r3, e2, g0, hx, hld2, Shard.cells, hb, List.replicate_succ, List.replicate_zero, fills, and_self, Nat.zero_lt_one, List.set_cons_zero, e3, hws]
          exact ⟨_, ⟨_, _, rfl, a2⟩, rfl⟩) (s := ⟨[(0, .c x), (1, .c (.int .u64 id)), (5, .c (.sl 15 h.next 0 0)), (6, .c (.int .i64 (0 : Nat)))], [], [], h.push []⟩) ⟨_, _, rfl, by simpa [holdersUp] using Acc.lit0 (tag := 15) (On.refl h)⟩
    subst hs
    simp only [show ((0 : Nat) : Int) = 0 from rfl] at lp
    have hlt : ¬ (l.length : Int) < l.length := by omega
    rw [lp, loop_run]
    conv in (codeF _ _ r283L0 _) => unfold r283L0
    simp only [run0, run1, run2, run3, run4, noSlot, memN, RO.dst, lk, drop, forget, number, Nat.reduceBEq, cut?, splice?, builds, List.length_cons, List.length_nil, List.drop_succ_cons, List.drop_zero, List.take_succ_cons, List.take_zero, List.cons_append, List.nil_append, List.append_nil, List.drop_nil, List.take_nil, Nat.reduceAdd, Nat.reduceLeDiff, Nat.zero_add, Nat.add_zero, ↓reduceIte, Bool.not_true, Bool.not_false, decide_true, decide_false, eq_self, bne_self_eq_false, List.getElem?_cons_zero, List.getElem?_cons_succ, decide_eq_true_eq, Bool.false_eq_true, Bool.true_eq_false, reduceCtorEq, Nat.le_refl, hwl, hlt]
    obtain ⟨o, fq, u, f⟩ := a.flat (enc := int_enc)
    exact ⟨_, _, _, rfl, o, u, f⟩
end
end Go.Proofs.Ytlfepembgjjejaa.A
