/- The functions that the statement reaches, part 4: bodies and what they compute. No condition. -/
import Derived.Test.YtlfepembgjjejaaHCExactCutShard3
/- A shard is cut, the program's way. -/
namespace Go.Proofs.Ytlfepembgjjejaa.A
open Go
set_option linter.unusedSimpArgs false
set_option linter.unusedVariables false
section
variable {F : Nat → Option RF} {Z : CallF} {h : Heap} {cs : List Cell} {fp : List Nat} {s : Store}
/-- The two rows as they begin. -/
theorem Cut.start (h : Heap) (hf : h.floor ≤ h.next) (lo hi a : Int) (z : List Cell) (hz : z.length = 6) :
    ∃ g1 g2, storeP ((h.push [z]).push [z]) h.next 0 0 [.int .u64 lo, .int .u64 (a - 1), .int .i64 0, .int .i64 0, .nil, .nil] = some g1 ∧ storeP g1 (h.push [z]).next 0 0 [.int .u64 a, .int .u64 hi, .int .i64 0, .int .i64 0, .nil, .nil] = some g2 ∧
      (h.push [[.int .u64 lo, .int .u64 (a - 1), .int .i64 0, .int .i64 0, .nil, .nil]]).push [[.int .u64 a, .int .u64 hi, .int .i64 0, .int .i64 0, .nil, .nil]] = g2 ∧
      Cut ((h.push [z]).push [z]) g2 h.next (h.push [z]).next lo hi a [] [] [] [] .nil .nil .nil .nil [] [] [] [] := by
  obtain ⟨z0, z1, z2, z3, z4, z5, rfl⟩ : ∃ a b c d e f, z = [a, b, c, d, e, f] := by
    match z, hz with
    | [a, b, c, d, e, f], _ => exact ⟨a, b, c, d, e, f, rfl⟩
  have hn : (h.push [[z0, z1, z2, z3, z4, z5]]).next = h.next + 1 := rfl
  have q1 : ((h.push [[z0, z1, z2, z3, z4, z5]]).push [[z0, z1, z2, z3, z4, z5]]).get h.next = some [[z0, z1, z2, z3, z4, z5]] := by rw [push_ne _ (by rw [hn]; omega)]; simp [Heap.push]
  have hne : h.next ≠ h.next + 1 := by omega
  have s1 := storeP_at (h := (h.push [[z0, z1, z2, z3, z4, z5]]).push [[z0, z1, z2, z3, z4, z5]]) (id := h.next) (i := 0) (j := 0) (new := [.int .u64 lo, .int .u64 (a - 1), .int .i64 0, .int .i64 0, .nil, .nil]) hf q1 rfl rfl
  have q2 : (((h.push [[z0, z1, z2, z3, z4, z5]]).push [[z0, z1, z2, z3, z4, z5]]).put h.next [[.int .u64 lo, .int .u64 (a - 1), .int .i64 0, .int .i64 0, .nil, .nil]]).get (h.next + 1) = some [[z0, z1, z2, z3, z4, z5]] := by
    rw [put_ne _ (by omega)]; simp [Heap.push]
  have s2 := storeP_at (h := ((h.push [[z0, z1, z2, z3, z4, z5]]).push [[z0, z1, z2, z3, z4, z5]]).put h.next [[.int .u64 lo, .int .u64 (a - 1), .int .i64 0, .int .i64 0, .nil, .nil]]) (id := h.next + 1) (i := 0) (j := 0) (new := [.int .u64 a, .int .u64 hi, .int .i64 0, .int .i64 0, .nil, .nil]) (by show h.floor ≤ h.next + 1; omega) q2 rfl rfl
  rw [hn]
  refine ⟨_, _, s1, s2, ?_, ?_⟩
  · simp only [Heap.push, Heap.put, Heap.mk.injEq, true_and]
    funext i
    by_cases h1 : i = h.next + 1
    · simp [h1]
    · by_cases h2 : i = h.next
      · simp [h2]
      · simp [h1, h2]
  exact {
    le := Nat.le_refl _
    fl := rfl
    hbf := by show h.floor ≤ h.next + 1 + 1; omega
    get := fun id h1 h2 h3 => by rw [put_ne _ h3, put_ne _ h2]
    ne := hne
    q1 := ⟨hf, by show h.next < h.next + 1 + 1; omega⟩
    q2 := ⟨by show h.floor ≤ h.next + 1; omega, by show h.next + 1 < h.next + 1 + 1; omega⟩
    r1 := by rw [put_ne _ hne]; exact put_eq _
    r2 := put_eq _
    s1 := SlR.nil _ _ _
    s2 := SlR.nil _ _ _
    t1 := SlR.nil _ _ _
    t2 := SlR.nil _ _ _
    l1 := fun _ h => nomatch h
    l2 := fun _ h => nomatch h
    m1 := fun _ h => nomatch h
    m2 := fun _ h => nomatch h
    n1 := List.nodup_nil
    n2 := List.nodup_nil
    k1 := List.nodup_nil
    k2 := List.nodup_nil
    d12 := fun _ h => nomatch h
    d1a := fun _ h => nomatch h
    d1b := fun _ h => nomatch h
    d2a := fun _ h => nomatch h
    d2b := fun _ h => nomatch h
    dab := fun _ h => nomatch h }
set_option maxHeartbeats 4000000 in
/-- The parts are put into the store. -/
theorem cut_join {hb g : Heap} {o1 o2 : Nat} {y y1 y2 z1 z2 : Cell} {f1 f2 e1 e2 : List Nat} {a : Int} {k : Nat} (hk : k < s.shards.length) (h8 : s.shards.length ≤ 8)
    (c : Cut hb g o1 o2 (Shard.at_ s.shards k).lo (Shard.at_ s.shards k).hi a ((Shard.at_ s.shards k).book.list.filter (Account.low a)) ((Shard.at_ s.shards k).book.list.filter (Account.high a)) ((Shard.at_ s.shards k).finished.filter (Fin.low a)) ((Shard.at_ s.shards k).finished.filter (Fin.high a)) y1 y2 z1 z2 f1 f2 e1 e2)
    (w : SlR 16 Shard.RI g y s.shards fp) (ob : On h hb) (f : Fre h fp) (hfp : ∀ id, id ∈ fp → id < o1 ∧ id < o2 ∧ id < hb.next) (ho1 : h.next ≤ o1) (ho2 : h.next ≤ o2) (hf : h.floor ≤ h.next) :
    ∃ gs z g3 fz, storeP g y.sid k 0 [.int .u64 (Shard.at_ s.shards k).lo, .int .u64 (a - 1), .int .i64 0, .int .i64 0, y1, z1] = some gs ∧ (∀ j n, loadP gs o2 0 j n = cut? [.int .u64 a, .int .u64 (Shard.at_ s.shards k).hi, .int .i64 0, .int .i64 0, y2, z2] j n) ∧
      insF 16 80 [.c y, .c (.int .i64 ((k + 1 : Nat) : Int)), .c (.sl 16 gs.next 0 1)] (gs.push [[.int .u64 a, .int .u64 (Shard.at_ s.shards k).hi, .int .i64 0, .int .i64 0, y2, z2]]) = some (.c z, g3) ∧
      SlR 16 Shard.RI g3 z (s.cut0 k a).shards fz ∧ On h g3 ∧ Fre h fz := by
  have og : On h g := ⟨⟨Nat.le_trans ob.ext.1 c.le, fun id hid => by rw [c.get id (Nat.lt_of_lt_of_le hid ob.ext.1) (by omega) (by omega)]; exact ob.ext.2 id hid⟩, c.fl.trans ob.fl⟩
  have hfg : ∀ id, id ∈ fp → g.floor ≤ id := fun id hid => by rw [og.fl]; exact Nat.le_trans hf (f.lo id hid)
  obtain ⟨r, fr, rows, hR, hin, nfr, hs, hns, hld, hst, fin⟩ := w.setRow Shard.okI f.nd hfg hk
  have hfe : ∀ id, id ∈ f1 ++ e1 → hb.next ≤ id := fun id hid => by
    rcases List.mem_append.1 hid with h | h
    · exact c.l1 id h
    · exact c.m1 id h
  have v1 : Shard.RI g [.int .u64 (Shard.at_ s.shards k).lo, .int .u64 (a - 1), .int .i64 0, .int .i64 0, y1, z1] ((Shard.at_ s.shards k).one0 a) (f1 ++ e1) := ⟨y1, f1, z1, e1, rfl, rfl, c.s1, c.t1⟩
  have n1 : (f1 ++ e1).Nodup := List.nodup_append.2 ⟨c.n1, c.k1, fun x hx y hy e => c.d1a x hx (e ▸ hy)⟩
  obtain ⟨fp', w', nd', hsub⟩ := fin [.int .u64 (Shard.at_ s.shards k).lo, .int .u64 (a - 1), .int .i64 0, .int .i64 0, y1, z1] ((Shard.at_ s.shards k).one0 a) (f1 ++ e1) v1 n1 (fun id hid => .inr fun hc => by have := hfe id hid; have := (hfp id hc).2.2; omega)
  obtain ⟨q1, qf, rfl⟩ : ∃ q1 qf, r = [.int .u64 s.shards[k].lo, .int .u64 s.shards[k].hi, .int .i64 s.shards[k].state, .int .i64 s.shards[k].epoch, q1, qf] := by
    obtain ⟨x1, _, x2, _, hr, _⟩ := hR
    exact ⟨x1, x2, hr⟩
  have hst' := hst 0 [.int .u64 (Shard.at_ s.shards k).lo, .int .u64 (a - 1), .int .i64 0, .int .i64 0, y1, z1] [.int .u64 (Shard.at_ s.shards k).lo, .int .u64 (a - 1), .int .i64 0, .int .i64 0, y1, z1] rfl
  generalize hgs : g.put y.sid (rows.set k [.int .u64 (Shard.at_ s.shards k).lo, .int .u64 (a - 1), .int .i64 0, .int .i64 0, y1, z1]) = gs at *
  have mk : Mk g gs [y.sid] := by rw [← hgs]; exact Mk.put _ _ _
  have hys := hfp _ hs
  have hget : ∀ id, id ≠ y.sid → gs.get id = g.get id := fun id hid => mk.get id (by simpa using hid)
  have v2 : Shard.RI gs [.int .u64 a, .int .u64 (Shard.at_ s.shards k).hi, .int .i64 0, .int .i64 0, y2, z2] ((Shard.at_ s.shards k).two0 a) (f2 ++ e2) :=
    ⟨y2, f2, z2, e2, rfl, rfl, c.s2.mv (Fl.ok _) (by rw [mk.next]; exact Nat.le_refl _) fun id hid => hget id (by have := c.l2 id hid; omega), c.t2.mv (Fl.ok _) (by rw [mk.next]; exact Nat.le_refl _) fun id hid => hget id (by have := c.m2 id hid; omega)⟩
  have n2 : (f2 ++ e2).Nodup := List.nodup_append.2 ⟨c.n2, c.k2, fun x hx y hy e => c.d2b x hx (e ▸ hy)⟩
  obtain ⟨L, ndL⟩ := SlR.lit1 (tag := 16) Shard.okI v2 n2
  have o5 := On.push gs [[.int .u64 a, .int .u64 (Shard.at_ s.shards k).hi, .int .i64 0, .int .i64 0, y2, z2]]
  have w5 := w'.on Shard.okI o5
  have ogs : On h gs := og.turned mk ⟨fun id hid => by simp only [List.mem_singleton] at hid; subst hid; exact f.lo _ hs, by simp⟩
  have hlt2 : ∀ id, id ∈ f2 ++ e2 → hb.next ≤ id ∧ id < g.next := fun id hid => by
    rcases List.mem_append.1 hid with h | h
    · exact ⟨c.l2 id h, c.s2.lt (Fl.ok _) id h⟩
    · exact ⟨c.m2 id h, c.t2.lt (Fl.ok _) id h⟩
  have hlt' : ∀ id, id ∈ fp' → h.next ≤ id ∧ id < gs.next := fun id hid => by
    refine ⟨?_, w'.lt Shard.okI id hid⟩
    rcases hsub id hid with h1 | h1
    · exact f.lo id h1
    · exact Nat.le_trans ob.ext.1 (hfe id h1)
  have hdis : ∀ id, id ∈ gs.next :: (f2 ++ e2) → id ∉ fp' := fun id hid hc => by
    rcases List.mem_cons.1 hid with rfl | hid
    · have := (hlt' _ hc).2; omega
    · rcases hsub id hc with h1 | h1
      · have := (hfp id h1).2.2; have := (hlt2 id hid).1; omega
      · rcases List.mem_append.1 hid with h2 | h2
        · rcases List.mem_append.1 h1 with h1 | h1
          · exact c.d12 id h1 h2
          · exact c.d2a id h2 h1
        · rcases List.mem_append.1 h1 with h1 | h1
          · exact c.d1b id h1 h2
          · exact c.dab id h1 h2
  have hL0 : ∀ id, id ∈ gs.next :: (f2 ++ e2) → h.next ≤ id := fun id hid => by
    rcases List.mem_cons.1 hid with rfl | hid
    · exact ogs.ext.1
    · exact Nat.le_trans ob.ext.1 (hlt2 id hid).1
  have o0 := ogs.trans o5
  obtain ⟨z, g3, fz, e3, w3, re⟩ := w5.ins Shard.okI nd' (fun id hid => by rw [o0.fl]; exact Nat.le_trans hf (hlt' id hid).1) L ndL (fun id hid => by rw [o0.fl]; exact Nat.le_trans hf (hL0 id hid)) hdis (by simp) (bytes := 80) (by simp; omega) (by simp [maxLen]; omega) (i := k + 1) (by simp; omega)
  have fA : Fre h (fp' ++ gs.next :: (f2 ++ e2)) := ⟨fun id hid => by
    rcases List.mem_append.1 hid with h1 | h1
    · exact (hlt' id h1).1
    · exact hL0 id h1, List.nodup_append.2 ⟨nd', ndL, fun x hx y hy e => hdis y hy (e ▸ hx)⟩⟩
  refine ⟨gs, z, g3, fz, hst', fun j n => ?_, e3, w3, re.on o0 fA, re.fre o0 fA⟩
  exact loadP_row (rows := [[.int .u64 a, .int .u64 (Shard.at_ s.shards k).hi, .int .i64 0, .int .i64 0, y2, z2]]) ((hget o2 (by omega)).trans c.r2) rfl j n
set_option maxHeartbeats 4000000 in
theorem CutShard_c (k : KI F) (hL : Has F tLibslicesIndexFuncimplShardimplShard) (pr : PrimAt F Z 332 (insF 16 80)) (hf : h.floor ≤ h.next) (v : Store.RI h cs s fp) (a e : Int) (ha : 0 ≤ a ∧ a ≤ 18446744073709551615) (ok : s.Ok) (sm : s.Small) :
    ∃ cs' h' fq, call F Z 312 [.agg cs, .c (.int .u64 a), .c (.int .i64 e)] h = some (.tup [.agg cs', .c (.bool (cutShard s a e).2)], h') ∧ On h h' ∧ Store.RI h' cs' (cutShard s a e).1 fq ∧ Fre h fq := by
  obtain ⟨l1, l2, l3⟩ := Store.lenI v
  obtain ⟨cs1, h1, fr, e1, o1, v1, f1⟩ := copyStore_c (Z := Z) k hf v sm
  obtain ⟨h2, e2, o2⟩ := shardWith_on (Z := Z) k.i13 hL (Store.okI.on v o1) a
  obtain ⟨h3, e3, o3⟩ := isNewEpoch_run (Z := Z) k (Store.okI.on (Store.okI.on v o1) o2) ok e
  have o13 := (o1.trans o2).trans o3
  obtain ⟨y, p, rfl, hp, w⟩ := Store.okI.on (Store.okI.on v1 o2) o3
  subst hp
  rw [call_run F Z (k.i13.lk (g := 312) rfl) _ _ rfl]
  cases hn : s.next e with
  | false =>
    rw [hn] at e3
    rw [cut_no hn]
    simp only [run0, run1, run2, run3, run4, noSlot, ownS, ownK, memN, RO.dst, lk, drop, forget, number, Nat.reduceBEq, cut?, splice?, builds, List.length_cons, List.length_nil, List.drop_succ_cons, List.drop_zero, List.take_succ_cons, List.take_zero, List.cons_append, List.nil_append, List.append_nil, List.drop_nil, List.take_nil, Nat.reduceAdd, Nat.reduceLeDiff, Nat.zero_add, Nat.add_zero, ↓reduceIte, Bool.not_true, Bool.not_false, decide_true, decide_false, eq_self, bne_self_eq_false, List.getElem?_cons_zero, List.getElem?_cons_succ, decide_eq_true_eq, Bool.false_eq_true, Bool.true_eq_false, reduceCtorEq, Nat.le_refl, l1, l2, l3, e1, e2, e3]
    exact ⟨_, _, _, rfl, o13, ⟨y, _, rfl, rfl, w⟩, f1⟩
  | true =>
    rw [hn] at e3
    have v3 := Store.okI.on v o13
    obtain ⟨x, p, rfl, hp, wx⟩ := v3
    subst hp
    rcases wx.found (fun t => decide (t.lo ≤ a) && decide (a ≤ t.hi)) with q | ⟨j, q, hj, hpj, hx, _, _, hld⟩
    · change findId s.shards a = -1 at q
      rw [cut_away q]
      rw [q] at e2
      simp only [run0, run1, run2, run3, run4, noSlot, ownS, ownK, memN, RO.dst, lk, drop, forget, number, Nat.reduceBEq, cut?, splice?, builds, List.length_cons, List.length_nil, List.drop_succ_cons, List.drop_zero, List.take_succ_cons, List.take_zero, List.cons_append, List.nil_append, List.append_nil, List.drop_nil, List.take_nil, Nat.reduceAdd, Nat.reduceLeDiff, Nat.zero_add, Nat.add_zero, ↓reduceIte, Bool.not_true, Bool.not_false, decide_true, decide_false, eq_self, bne_self_eq_false, List.getElem?_cons_zero, List.getElem?_cons_succ, decide_eq_true_eq, Bool.false_eq_true, Bool.true_eq_false, reduceCtorEq, Nat.le_refl, l1, l2, l3, e1, e2, e3, Int.reduceLT, Int.reduceNeg]
      exact ⟨_, _, _, rfl, o13, ⟨y, _, rfl, rfl, w⟩, f1⟩
    change findId s.shards a = (j : Int) at q
    rw [q] at e2
    rw [cut_if hn q]
    have g0 : ¬ (j : Int) < 0 := by omega
    have hwl := wx.len
    have hl8 := Store.next_len hn
    by_cases c1 : (Shard.at_ s.shards j).state = 0
    case neg =>
      have c1' : ((Shard.at_ s.shards j).state == 0) = false := by simpa using c1
      have c1n : ((Shard.at_ s.shards j).state != 0) = true := by simpa using c1
      rw [c1']
      simp only [Bool.false_and, cond_false]
      simp only [run0, run1, run2, run3, run4, noSlot, ownS, ownK, memN, RO.dst, lk, drop, forget, number, Nat.reduceBEq, cut?, splice?, builds, List.length_cons, List.length_nil, List.drop_succ_cons, List.drop_zero, List.take_succ_cons, List.take_zero, List.cons_append, List.nil_append, List.append_nil, List.drop_nil, List.take_nil, Nat.reduceAdd, Nat.reduceLeDiff, Nat.zero_add, Nat.add_zero, ↓reduceIte, Bool.not_true, Bool.not_false, decide_true, decide_false, eq_self, bne_self_eq_false, List.getElem?_cons_zero, List.getElem?_cons_succ, decide_eq_true_eq, Bool.false_eq_true, Bool.true_eq_false, reduceCtorEq, Nat.le_refl, l1, l2, l3, e1, e2, e3, g0, hx, hld, Shard.cells, c1n]
      exact ⟨_, _, _, rfl, o13, ⟨y, _, rfl, rfl, w⟩, f1⟩
    have c1' : ((Shard.at_ s.shards j).state == 0) = true := by simpa using c1
    have c1n : ((Shard.at_ s.shards j).state != 0) = false := by simpa using c1
    by_cases c2 : (Shard.at_ s.shards j).lo = a
    · have c2' : ((Shard.at_ s.shards j).lo == a) = true := by simpa using c2
      rw [c2']
      simp only [Bool.not_true, Bool.false_and, Bool.and_false, cond_false]
      simp only [run0, run1, run2, run3, run4, noSlot, ownS, ownK, memN, RO.dst, lk, drop, forget, number, Nat.reduceBEq, cut?, splice?, builds, List.length_cons, List.length_nil, List.drop_succ_cons, List.drop_zero, List.take_succ_cons, List.take_zero, List.cons_append, List.nil_append, List.append_nil, List.drop_nil, List.take_nil, Nat.reduceAdd, Nat.reduceLeDiff, Nat.zero_add, Nat.add_zero, ↓reduceIte, Bool.not_true, Bool.not_false, decide_true, decide_false, eq_self, bne_self_eq_false, List.getElem?_cons_zero, List.getElem?_cons_succ, decide_eq_true_eq, Bool.false_eq_true, Bool.true_eq_false, reduceCtorEq, Nat.le_refl, l1, l2, l3, e1, e2, e3, g0, hx, hld, Shard.cells, c1n, c2']
      exact ⟨_, _, _, rfl, o13, ⟨y, _, rfl, rfl, w⟩, f1⟩
    have c2' : ((Shard.at_ s.shards j).lo == a) = false := by simpa using c2
    cases c3 : ((s.shards.length : Int) == 8) with
    | true =>
      simp only [Bool.not_true, Bool.and_false, cond_false]
      simp only [run0, run1, run2, run3, run4, noSlot, ownS, ownK, memN, RO.dst, lk, drop, forget, number, Nat.reduceBEq, cut?, splice?, builds, List.length_cons, List.length_nil, List.drop_succ_cons, List.drop_zero, List.take_succ_cons, List.take_zero, List.cons_append, List.nil_append, List.append_nil, List.drop_nil, List.take_nil, Nat.reduceAdd, Nat.reduceLeDiff, Nat.zero_add, Nat.add_zero, ↓reduceIte, Bool.not_true, Bool.not_false, decide_true, decide_false, eq_self, bne_self_eq_false, List.getElem?_cons_zero, List.getElem?_cons_succ, decide_eq_true_eq, Bool.false_eq_true, Bool.true_eq_false, reduceCtorEq, Nat.le_refl, l1, l2, l3, e1, e2, e3, g0, hx, hld, Shard.cells, c2', c1n, hwl, c3]
      exact ⟨_, _, _, rfl, o13, ⟨y, _, rfl, rfl, w⟩, f1⟩
    | false =>
      rw [c1', c2']
      simp only [Bool.not_false, Bool.and_true, cond_true]
      have hpj' := hpj
      simp only [Bool.and_eq_true, decide_eq_true_eq] at hpj'
      have hw : IntKind.u64.wrap (a - 1) = a - 1 := by
        have := ok.shards _ (List.getElem_mem hj)
        have h0 := this.lo
        rw [Shard.at_get hj] at hpj' c2
        exact wrapU _ (by omega) (by omega)
      have hgd : (Shard.at_ s.shards j).good = true := by
        have hgs : s.good = true := by
          simp only [Store.next, Bool.and_eq_true] at hn
          exact hn.1
        have := Store.fit_at hgs hj
        simp only [Store.fits, Bool.and_eq_true] at this
        exact this.1
      obtain ⟨r, fx, hlr, hR, hfx⟩ := w.atR hj
      have hyi := w.idx hj
      have smj := Store.at_small sm hj
      obtain ⟨xb, pb, xf, pf, rfl, hfxe, wb, wf⟩ := hR
      have hlt3 : ∀ id, id ∈ fr → id < h3.next := w.lt Shard.okI
      obtain ⟨g1, g2, s1, s2, hg2, c0⟩ := Cut.start h3 (o13.le hf) (Shard.at_ s.shards j).lo (Shard.at_ s.shards j).hi a [.int .u64 0, .int .u64 0, .int .i64 0, .int .i64 0, .nil, .nil] rfl
      have ohb : On h3 ((h3.push [[.int .u64 0, .int .u64 0, .int .i64 0, .int .i64 0, .nil, .nil]]).push [[.int .u64 0, .int .u64 0, .int .i64 0, .int .i64 0, .nil, .nil]]) := (On.push _ _).trans (On.push _ _)
      have hbl := wb.len
      have hfl := wf.len
      have hpb : ∀ id, id ∈ pb → id ∈ fr := fun id hid => hfx id (by rw [hfxe]; exact List.mem_append_left _ hid)
      have hpf : ∀ id, id ∈ pf → id ∈ fr := fun id hid => hfx id (by rw [hfxe]; exact List.mem_append_right _ hid)
      obtain ⟨sm1, sm2⟩ := smj
      have hpn : (h3.push [[.int .u64 0, .int .u64 0, .int .i64 0, .int .i64 0, .nil, .nil]]).next = h3.next + 1 := rfl
      have hfrn : ∀ id, id ∈ fr → id ≠ h3.next ∧ id ≠ (h3.push [[.int .u64 0, .int .u64 0, .int .i64 0, .int .i64 0, .nil, .nil]]).next := fun id hid => by have := hlt3 id hid; rw [hpn]; omega
      obtain ⟨g4, y1, y2, f4, f5, lp1, c4⟩ := cut_loop1 (F := F) (Z := Z) (e := e) (k := (j : Int)) (gr := s.group) (sn := s.seen) (y := y) (wb.on (Fl.ok _) ohb) (fun id hid => hfrn id (hpb id hid)) sm1 [.int .u64 (Shard.at_ s.shards j).lo, .int .u64 (Shard.at_ s.shards j).hi, .int .i64 (Shard.at_ s.shards j).state, .int .i64 (Shard.at_ s.shards j).epoch, xb, xf] c0
      obtain ⟨g5, z1, z2, f6, f7, lp2, c5⟩ := cut_loop2 (F := F) (Z := Z) (e := e) (k := (j : Int)) (gr := s.group) (sn := s.seen) (y := y) (wf.on (Fl.ok _) ohb) (fun id hid => hfrn id (hpf id hid)) sm2 c4
      have w5 : SlR 16 Shard.RI g5 y s.shards fr := w.mv Shard.okI (Nat.le_trans ohb.ext.1 c5.le) fun id hid => by
        have h1 := hlt3 id hid
        have h2 := hfrn id hid
        rw [c5.get id (Nat.lt_of_lt_of_le h1 ohb.ext.1) h2.1 h2.2]
        exact ohb.ext.2 id h1
      obtain ⟨gs, z, g6, fz, e4, hl4, e5, w6, o6, f8⟩ := cut_join hj hl8 c5 w5 (o13.trans ohb) f1 (fun id hid => by have := hlt3 id hid; have h1 := ohb.ext.1; rw [hpn]; omega) o13.ext.1 (by rw [hpn]; have := o13.ext.1; omega) hf
      obtain ⟨cs7, h7, e7, m7, v7⟩ := renewed_c (Z := Z) k (s := s.cut0 j a) ⟨z, _, rfl, rfl, w6⟩ f8.nd (f8.own o6 hf) e
      rw [Store.cut_renew hj hgd c1] at v7
      obtain ⟨n1, n2, n3⟩ := Store.lenI v7
      change call F Z 321 [.agg [.int .i64 s.group, .int .i64 s.seen, z], _] g6 = _ at e7
      have hwj := wrapS j (by omega)
      have hla := c5.load1
      have hlt1 : ¬ ((Shard.at_ s.shards j).book.list.length : Int) < (Shard.at_ s.shards j).book.list.length := by omega
      have hlt2 : ¬ ((Shard.at_ s.shards j).finished.length : Int) < (Shard.at_ s.shards j).finished.length := by omega
      simp only [cutSt1, show ((0 : Nat) : Int) = 0 from rfl] at lp1
      simp only [cutSt2, show ((0 : Nat) : Int) = 0 from rfl] at lp2
      rw [hpn] at hl4
      simp only [push_next] at lp1 lp2
      simp only [run0, run1, run2, run3, run4, noSlot, ownS, ownK, memN, RO.dst, lk, drop, forget, number, Nat.reduceBEq, cut?, splice?, builds, List.length_cons, List.length_nil, List.drop_succ_cons, List.drop_zero, List.take_succ_cons, List.take_zero, List.cons_append, List.nil_append, List.append_nil, List.drop_nil, List.take_nil, Nat.reduceAdd, Nat.reduceLeDiff, Nat.zero_add, Nat.add_zero, ↓reduceIte, Bool.not_true, Bool.not_false, decide_true, decide_false, eq_self, bne_self_eq_false, List.getElem?_cons_zero, List.getElem?_cons_succ, decide_eq_true_eq, Bool.false_eq_true, Bool.true_eq_false, reduceCtorEq, Nat.le_refl, l1, l2, l3, e1, e2, e3, g0, hx, hld, Shard.cells, c2', c1n, hwl, c3, hyi, hlr, hw, hg2, push_next, hbl]
      rw [lp1, loop_run]
      conv in (codeF _ _ r312L1 _) => unfold r312L1
      simp only [run0, run1, run2, run3, run4, noSlot, ownS, ownK, memN, RO.dst, lk, drop, forget, number, Nat.reduceBEq, cut?, splice?, builds, List.length_cons, List.length_nil, List.drop_succ_cons, List.drop_zero, List.take_succ_cons, List.take_zero, List.cons_append, List.nil_append, List.append_nil, List.drop_nil, List.take_nil, Nat.reduceAdd, Nat.reduceLeDiff, Nat.zero_add, Nat.add_zero, ↓reduceIte, Bool.not_true, Bool.not_false, decide_true, decide_false, eq_self, bne_self_eq_false, List.getElem?_cons_zero, List.getElem?_cons_succ, decide_eq_true_eq, Bool.false_eq_true, Bool.true_eq_false, reduceCtorEq, Nat.le_refl, hlt1, hfl]
      rw [lp2, loop_run]
      conv in (codeF _ _ r312L0 _) => unfold r312L0
      simp only [run0, run1, run2, run3, run4, noSlot, ownS, ownK, memN, RO.dst, lk, drop, forget, number, Nat.reduceBEq, cut?, splice?, builds, List.length_cons, List.length_nil, List.drop_succ_cons, List.drop_zero, List.take_succ_cons, List.take_zero, List.cons_append, List.nil_append, List.append_nil, List.drop_nil, List.take_nil, Nat.reduceAdd, Nat.reduceLeDiff, Nat.zero_add, Nat.add_zero, ↓reduceIte, Bool.not_true, Bool.not_false, decide_true, decide_false, eq_self, bne_self_eq_false, List.getElem?_cons_zero, List.getElem?_cons_succ, decide_eq_true_eq, Bool.false_eq_true, Bool.true_eq_false, reduceCtorEq, Nat.le_refl, hlt2, hla, hyi, e4, hwj, hl4, List.replicate_succ, List.replicate_zero, fills, and_self, Nat.zero_lt_one, List.set_cons_zero, pr _ _, e5, e7, n1, n2, n3]
      exact ⟨_, _, _, rfl, o6.turned m7 f8, v7, f8⟩
end
end Go.Proofs.Ytlfepembgjjejaa.A
/- Sums of money, in two words. -/
namespace Go.Proofs.Ytlfepembgjjejaa.A
open Go
set_option linter.unusedSimpArgs false
set_option linter.unusedVariables false
def sumI {α : Type} (f : α → Int) : List α → Int
  | [] => 0
  | a :: r => f a + sumI f r
section
variable {α : Type} (f : α → Int)
theorem sumI_app : ∀ (xs ys : List α), sumI f (xs ++ ys) = sumI f xs + sumI f ys
  | [], ys => by simp [sumI]
  | a :: r, ys => by
    simp only [List.cons_append, sumI, sumI_app r ys]; omega
theorem sumI_take (xs : List α) {i : Nat} (hi : i < xs.length) : sumI f (xs.take (i + 1)) = sumI f (xs.take i) + f xs[i] := by
  rw [List.take_add_one, List.getElem?_eq_getElem hi, sumI_app]
  simp [sumI]
theorem sumI_le {m : Int} : ∀ (xs : List α), (∀ a, a ∈ xs → 0 ≤ f a ∧ f a ≤ m) → 0 ≤ sumI f xs ∧ sumI f xs ≤ m * xs.length
  | [], _ => by simp [sumI]
  | a :: r, h => by
    have h1 := h a (by simp)
    have h2 := sumI_le r fun b hb => h b (by simp [hb])
    simp only [sumI, List.length_cons]
    constructor
    · omega
    · rw [Int.natCast_add, Int.mul_add]
      simp only [Int.natCast_one, Int.mul_one]
      omega
theorem sumI_take_le {m : Int} (hm : 0 ≤ m) (xs : List α) (h : ∀ a, a ∈ xs → 0 ≤ f a ∧ f a ≤ m) (i : Nat) : 0 ≤ sumI f (xs.take i) ∧ sumI f (xs.take i) ≤ m * xs.length := by
  have h1 := sumI_le f (m := m) (xs.take i) fun a ha => h a (List.mem_of_mem_take ha)
  have h2 : m * ((xs.take i).length : Int) ≤ m * (xs.length : Int) := Int.mul_le_mul_of_nonneg_left (by rw [List.length_take]; omega) hm
  exact ⟨h1.1, by omega⟩
end
def Account.money (a : Account) : Int := a.bal + a.hold
def moneyOf (xs : List Account) : Int := sumI Account.money xs
/-- The two words of a sum. -/
def wHi (t : Int) : Int := t / 18446744073709551616
def wLo (t : Int) : Int := t % 18446744073709551616
theorem Account.money_ok {xs : List Account} (hok : ∀ t, t ∈ xs → t.Ok) (hb : bookOk xs = true) : xs.length ≤ 40 ∧ ∀ a, a ∈ xs → 0 ≤ a.money ∧ a.money ≤ 18446744073709551615 := by
  simp only [bookOk, Bool.and_eq_true, List.all_eq_true, List.mem_range, decide_eq_true_eq] at hb
  refine ⟨by omega, fun a ha => ?_⟩
  obtain ⟨i, hi, rfl⟩ := List.mem_iff_getElem.1 ha
  have h1 := hb.1 i hi
  have o := hok _ ha
  have e1 : Account.at_ xs i = xs[i] := by simp [Account.at_, List.getElem?_eq_getElem hi]
  simp only [Account.fits, e1, Account.fine, Bool.and_eq_true, decide_eq_true_eq] at h1
  have b2 := o.bal
  have b3 := o.hold
  have b4 := o.due
  simp only [Account.money]
  omega
theorem moneyOf_le {xs : List Account} (hl : xs.length ≤ 40) (hm : ∀ a, a ∈ xs → 0 ≤ a.money ∧ a.money ≤ 18446744073709551615) : 0 ≤ moneyOf xs ∧ moneyOf xs ≤ 737869762948382064600 := by
  have := sumI_le Account.money xs hm
  simp only [moneyOf]
  omega
section
variable {F : Nat → Option RF} {Z : CallF} {h : Heap} {x : Cell} {xs : List Account} {fp : List Nat}
set_option maxHeartbeats 1000000 in
theorem totalOf_turn (w : SlR 11 (Fl Account.enc) h x xs fp) (hok : ∀ t, t ∈ xs → t.Ok) (hl : xs.length ≤ 40) (hm : ∀ a, a ∈ xs → 0 ≤ a.money ∧ a.money ≤ 18446744073709551615) (i : Nat) (hi : i < xs.length) :
    loop F Z [4, 5, 11, 12, 13] r209L0 ⟨[(4, .c (.int .u64 (wHi (moneyOf (xs.take i))))), (5, .c (.int .u64 (wLo (moneyOf (xs.take i))))), (11, .c x), (12, .c (.int .i64 (xs.length : Nat))), (13, .c (.int .i64 (i : Nat)))], [], [], h⟩
      = loop F Z [4, 5, 11, 12, 13] r209L0 ⟨[(4, .c (.int .u64 (wHi (moneyOf (xs.take (i + 1)))))), (5, .c (.int .u64 (wLo (moneyOf (xs.take (i + 1)))))), (11, .c x), (12, .c (.int .i64 (xs.length : Nat))), (13, .c (.int .i64 ((i + 1 : Nat) : Int)))], [], [], h⟩ := by
  have hle := w.le2
  have hlt : (i : Int) < xs.length := by omega
  have hws := wrapS i (by omega)
  have hxi := w.idx hi
  have hld := w.load hi
  have o1 := hok _ (List.getElem_mem hi)
  have m1 := hm _ (List.getElem_mem hi)
  have ht : moneyOf (xs.take (i + 1)) = moneyOf (xs.take i) + xs[i].money := sumI_take _ xs hi
  have hT := sumI_take_le Account.money (by omega) xs hm i
  change 0 ≤ moneyOf (xs.take i) ∧ moneyOf (xs.take i) ≤ _ at hT
  rw [ht]
  clear w hok hm ht
  generalize moneyOf (xs.take i) = T at *
  generalize xs[i] = a at *
  obtain ⟨id, bal, hold, due, tx⟩ := a
  obtain ⟨a1, a2, a3, a4, a5⟩ := o1
  dsimp only at a1 a2 a3 a4 a5
  simp only [Account.money] at m1 ⊢
  have e0 : IntKind.u64.wrap (bal + hold) = bal + hold := wrapU _ (by omega) (by omega)
  have e1 : (wLo T + (bal + hold) + 0) % 18446744073709551616 = wLo (T + (bal + hold)) := by simp only [wLo]; omega
  have e2 : IntKind.u64.wrap (wHi T + (wLo T + (bal + hold) + 0) / 18446744073709551616) = wHi (T + (bal + hold)) := by
    simp only [wHi, wLo]
    rw [wrapU _ (by omega) (by omega)]; omega
  have c1 : 0 ≤ wLo T := by simp only [wLo]; omega
  have c2 : 0 ≤ bal + hold := by omega
  have c3 : (0 : Int) ≤ 1 := by omega
  rw [loop_run]
  conv in (codeF _ _ r209L0 _) => unfold r209L0
  simp only [run0, run1, run2, run3, run4, noSlot, ownS, ownK, memN, RO.dst, lk, drop, forget, number, Nat.reduceBEq, cut?, splice?, builds, List.length_cons, List.length_nil, List.drop_succ_cons, List.drop_zero, List.take_succ_cons, List.take_zero, List.cons_append, List.nil_append, List.append_nil, List.drop_nil, List.take_nil, Nat.reduceAdd, Nat.reduceLeDiff, Nat.zero_add, Nat.add_zero, ↓reduceIte, Bool.not_true, Bool.not_false, decide_true, decide_false, eq_self, bne_self_eq_false, List.getElem?_cons_zero, List.getElem?_cons_succ, decide_eq_true_eq, Bool.false_eq_true, Bool.true_eq_false, reduceCtorEq, Nat.le_refl, hlt, hxi, hld, Account.enc, e0, e1, e2, c1, c2, c3, Int.le_refl, and_self, hws]
theorem totalOf_run (hI10 : Has F tI10) (w : SlR 11 (Fl Account.enc) h x xs fp) (hok : ∀ t, t ∈ xs → t.Ok) (hl : xs.length ≤ 40) (hm : ∀ a, a ∈ xs → 0 ≤ a.money ∧ a.money ≤ 18446744073709551615) :
    call F Z 209 [.agg [x]] h = some (.tup [.c (.int .u64 (wHi (moneyOf xs))), .c (.int .u64 (wLo (moneyOf xs)))], h) := by
  have key := loop_goesF (F := F) (Z := Z) (live := [4, 5, 11, 12, 13]) (b := r209L0) xs.length (fun i => ⟨[(4, .c (.int .u64 (wHi (moneyOf (xs.take i))))), (5, .c (.int .u64 (wLo (moneyOf (xs.take i))))), (11, .c x), (12, .c (.int .i64 (xs.length : Nat))), (13, .c (.int .i64 (i : Nat)))], [], [], h⟩)
    fun i hi => totalOf_turn w hok hl hm i hi
  have z1 : wHi (moneyOf (xs.take 0)) = 0 := rfl
  have z2 : wLo (moneyOf (xs.take 0)) = 0 := rfl
  simp only [show ((0 : Nat) : Int) = 0 from rfl, z1, z2, List.take_length] at key
  have hlt : ¬ (xs.length : Int) < xs.length := by omega
  have hwl := w.len
  rw [call_run F Z (hI10.lk (g := 209) rfl) _ _ rfl]
  simp only [run0, run1, run2, run3, run4, noSlot, ownS, ownK, memN, RO.dst, lk, drop, forget, number, Nat.reduceBEq, cut?, splice?, builds, List.length_cons, List.length_nil, List.drop_succ_cons, List.drop_zero, List.take_succ_cons, List.take_zero, List.cons_append, List.nil_append, List.append_nil, List.drop_nil, List.take_nil, Nat.reduceAdd, Nat.reduceLeDiff, Nat.zero_add, Nat.add_zero, ↓reduceIte, Bool.not_true, Bool.not_false, decide_true, decide_false, eq_self, bne_self_eq_false, List.getElem?_cons_zero, List.getElem?_cons_succ, decide_eq_true_eq, Bool.false_eq_true, Bool.true_eq_false, reduceCtorEq, Nat.le_refl, hwl, key]
  rw [loop_run]
  conv in (codeF _ _ r209L0 _) => unfold r209L0
  simp only [run0, run1, run2, run3, run4, noSlot, ownS, ownK, memN, RO.dst, lk, drop, forget, number, Nat.reduceBEq, cut?, splice?, builds, List.length_cons, List.length_nil, List.drop_succ_cons, List.drop_zero, List.take_succ_cons, List.take_zero, List.cons_append, List.nil_append, List.append_nil, List.drop_nil, List.take_nil, Nat.reduceAdd, Nat.reduceLeDiff, Nat.zero_add, Nat.add_zero, ↓reduceIte, Bool.not_true, Bool.not_false, decide_true, decide_false, eq_self, bne_self_eq_false, List.getElem?_cons_zero, List.getElem?_cons_succ, decide_eq_true_eq, Bool.false_eq_true, Bool.true_eq_false, reduceCtorEq, Nat.le_refl, hlt]
set_option maxHeartbeats 1000000 in
theorem sTotalOf_turn (w : SlR 11 (Fl Account.enc) h x xs fp) (hok : ∀ t, t ∈ xs → t.Ok) (hl : xs.length ≤ 40) (hm : ∀ a, a ∈ xs → 0 ≤ a.money ∧ a.money ≤ 18446744073709551615) (i : Nat) (hi : i < xs.length) :
    loop F Z [1, 4, 5, 6] r245L0 ⟨[(4, .c (.int .u64 (wHi (moneyOf (xs.take i))))), (5, .c (.int .u64 (wLo (moneyOf (xs.take i))))), (6, .c (.int .i64 (i : Nat)))], [(1, 1, 0)], [(1, [x])], h⟩
      = loop F Z [1, 4, 5, 6] r245L0 ⟨[(4, .c (.int .u64 (wHi (moneyOf (xs.take (i + 1)))))), (5, .c (.int .u64 (wLo (moneyOf (xs.take (i + 1)))))), (6, .c (.int .i64 ((i + 1 : Nat) : Int)))], [(1, 1, 0)], [(1, [x])], h⟩ := by
  have hle := w.le2
  have hlt : (i : Int) < xs.length := by omega
  have hws := wrapS i (by omega)
  have hxi := w.idx hi
  have hld := w.load hi
  have hwl := w.len
  have o1 := hok _ (List.getElem_mem hi)
  have m1 := hm _ (List.getElem_mem hi)
  have ht : moneyOf (xs.take (i + 1)) = moneyOf (xs.take i) + xs[i].money := sumI_take _ xs hi
  have hT := sumI_take_le Account.money (by omega) xs hm i
  change 0 ≤ moneyOf (xs.take i) ∧ moneyOf (xs.take i) ≤ _ at hT
  rw [ht]
  clear w hok hm ht
  generalize moneyOf (xs.take i) = T at *
  generalize xs[i] = a at *
  obtain ⟨id, bal, hold, due, tx⟩ := a
  obtain ⟨a1, a2, a3, a4, a5⟩ := o1
  dsimp only at a1 a2 a3 a4 a5
  simp only [Account.money] at m1 ⊢
  have e0 : IntKind.u64.wrap (bal + hold) = bal + hold := wrapU _ (by omega) (by omega)
  have e1 : IntKind.u64.wrap (wLo T + (bal + hold)) = wLo (T + (bal + hold)) := by
    show (wLo T + (bal + hold)) % 18446744073709551616 = _
    simp only [wLo]; omega
  have e3 : IntKind.u64.wrap (18446744073709551615 - wLo T) = 18446744073709551615 - wLo T := wrapU _ (by simp only [wLo]; omega) (by simp only [wLo]; omega)
  rw [loop_run]
  conv in (codeF _ _ r245L0 _) => unfold r245L0
  by_cases c : bal + hold > 18446744073709551615 - wLo T
  · have e2 : IntKind.u64.wrap (wHi T + 1) = wHi (T + (bal + hold)) := by
      simp only [wLo] at c
      simp only [wHi]
      rw [wrapU _ (by omega) (by omega)]; omega
    simp only [run0, run1, run2, run3, run4, noSlot, ownS, ownK, memN, RO.dst, lk, drop, forget, number, Nat.reduceBEq, cut?, splice?, builds, List.length_cons, List.length_nil, List.drop_succ_cons, List.drop_zero, List.take_succ_cons, List.take_zero, List.cons_append, List.nil_append, List.append_nil, List.drop_nil, List.take_nil, Nat.reduceAdd, Nat.reduceLeDiff, Nat.zero_add, Nat.add_zero, ↓reduceIte, Bool.not_true, Bool.not_false, decide_true, decide_false, eq_self, bne_self_eq_false, List.getElem?_cons_zero, List.getElem?_cons_succ, decide_eq_true_eq, Bool.false_eq_true, Bool.true_eq_false, reduceCtorEq, Nat.le_refl, hwl, hlt, hxi, hld, Account.enc, e0, e1, e2, e3, c, hws]
  · have e2 : wHi T = wHi (T + (bal + hold)) := by
      simp only [wLo] at c
      simp only [wHi]; omega
    simp only [run0, run1, run2, run3, run4, noSlot, ownS, ownK, memN, RO.dst, lk, drop, forget, number, Nat.reduceBEq, cut?, splice?, builds, List.length_cons, List.length_nil, List.drop_succ_cons, List.drop_zero, List.take_succ_cons, List.take_zero, List.cons_append, List.nil_append, List.append_nil, List.drop_nil, List.take_nil, Nat.reduceAdd, Nat.reduceLeDiff, Nat.zero_add, Nat.add_zero, ↓reduceIte, Bool.not_true, Bool.not_false, decide_true, decide_false, eq_self, bne_self_eq_false, List.getElem?_cons_zero, List.getElem?_cons_succ, decide_eq_true_eq, Bool.false_eq_true, Bool.true_eq_false, reduceCtorEq, Nat.le_refl, hwl, hlt, hxi, hld, Account.enc, e0, e1, e3, c, hws]
    rw [e2]
theorem sTotalOf_run (hS10 : Has F tS10) (w : SlR 11 (Fl Account.enc) h x xs fp) (hok : ∀ t, t ∈ xs → t.Ok) (hb : bookOk xs = true) :
    call F Z 245 [.agg [x]] h = some (.tup [.c (.int .u64 (wHi (moneyOf xs))), .c (.int .u64 (wLo (moneyOf xs)))], h) := by
  obtain ⟨hl, hm⟩ := Account.money_ok hok hb
  have hB := sBookOk_run (Z := Z) hS10 w hok
  rw [hb] at hB
  have key := loop_goesF (F := F) (Z := Z) (live := [1, 4, 5, 6]) (b := r245L0) xs.length (fun i => ⟨[(4, .c (.int .u64 (wHi (moneyOf (xs.take i))))), (5, .c (.int .u64 (wLo (moneyOf (xs.take i))))), (6, .c (.int .i64 (i : Nat)))], [(1, 1, 0)], [(1, [x])], h⟩)
    fun i hi => sTotalOf_turn w hok hl hm i hi
  have z1 : wHi (moneyOf (xs.take 0)) = 0 := rfl
  have z2 : wLo (moneyOf (xs.take 0)) = 0 := rfl
  simp only [show ((0 : Nat) : Int) = 0 from rfl, z1, z2, List.take_length] at key
  have hlt : ¬ (xs.length : Int) < xs.length := by omega
  have hwl := w.len
  rw [call_run F Z (hS10.lk (g := 245) rfl) _ _ rfl]
  simp only [run0, run1, run2, run3, run4, noSlot, ownS, ownK, memN, RO.dst, lk, drop, forget, number, Nat.reduceBEq, cut?, splice?, builds, List.length_cons, List.length_nil, List.drop_succ_cons, List.drop_zero, List.take_succ_cons, List.take_zero, List.cons_append, List.nil_append, List.append_nil, List.drop_nil, List.take_nil, Nat.reduceAdd, Nat.reduceLeDiff, Nat.zero_add, Nat.add_zero, ↓reduceIte, Bool.not_true, Bool.not_false, decide_true, decide_false, eq_self, bne_self_eq_false, List.getElem?_cons_zero, List.getElem?_cons_succ, decide_eq_true_eq, Bool.false_eq_true, Bool.true_eq_false, reduceCtorEq, Nat.le_refl, hB, key]
  rw [loop_run]
  conv in (codeF _ _ r245L0 _) => unfold r245L0
  simp only [run0, run1, run2, run3, run4, noSlot, ownS, ownK, memN, RO.dst, lk, drop, forget, number, Nat.reduceBEq, cut?, splice?, builds, List.length_cons, List.length_nil, List.drop_succ_cons, List.drop_zero, List.take_succ_cons, List.take_zero, List.cons_append, List.nil_append, List.append_nil, List.drop_nil, List.take_nil, Nat.reduceAdd, Nat.reduceLeDiff, Nat.zero_add, Nat.add_zero, ↓reduceIte, Bool.not_true, Bool.not_false, decide_true, decide_false, eq_self, bne_self_eq_false, List.getElem?_cons_zero, List.getElem?_cons_succ, decide_eq_true_eq, Bool.false_eq_true, Bool.true_eq_false, reduceCtorEq, Nat.le_refl, hwl, hlt]
end
end Go.Proofs.Ytlfepembgjjejaa.A
/- Shards with memory of their own are marked, one by one. -/
namespace Go.Proofs.Ytlfepembgjjejaa.A
open Go
set_option linter.unusedSimpArgs false
set_option linter.unusedVariables false
def Shard.mark1 (t : Shard) (k : Int) : Shard := ⟨k, k + 1, k + 2, k + 3, ⟨Account.marks t.book.list.length (k + 4)⟩, Fin.marks t.finished.length (k + 4 + 5 * (t.book.list.length : Nat))⟩
def Shard.wt1 (t : Shard) : Int := 4 + 5 * ((t.book.list.length : Nat) : Int) + 2 * ((t.finished.length : Nat) : Int)
def Shard.marksS : List Shard → Int → List Shard
  | [], _ => []
  | t :: r, k => t.mark1 k :: Shard.marksS r (k + t.wt1)
theorem Shard.wt1_nn (t : Shard) : 0 ≤ t.wt1 := by simp only [wt1]; omega
theorem Shard.marksS_len : ∀ (xs : List Shard) (k : Int), (Shard.marksS xs k).length = xs.length
  | [], _ => rfl
  | t :: r, k => by simp only [Shard.marksS, List.length_cons, Shard.marksS_len r]
theorem Shard.marksS_app : ∀ (xs ys : List Shard) (k : Int), Shard.marksS (xs ++ ys) k = Shard.marksS xs k ++ Shard.marksS ys (k + sumI Shard.wt1 xs)
  | [], ys, k => by simp [Shard.marksS, sumI]
  | t :: r, ys, k => by
    simp only [List.cons_append, Shard.marksS, Shard.marksS_app r ys, sumI, Int.add_assoc]
theorem Shard.mark_step {xs : List Shard} {i : Nat} (hi : i < xs.length) (k : Int) :
    (Shard.marksS (xs.take i) k ++ xs.drop i).set i (xs[i].mark1 (k + sumI Shard.wt1 (xs.take i))) = Shard.marksS (xs.take (i + 1)) k ++ xs.drop (i + 1) := by
  have hl : (Shard.marksS (xs.take i) k).length = i := by rw [Shard.marksS_len, List.length_take]; omega
  rw [List.set_append_right _ _ (by omega), hl, Nat.sub_self, List.drop_eq_getElem_cons hi, List.set_cons_zero, List.take_add_one, List.getElem?_eq_getElem hi, Shard.marksS_app]
  simp [Shard.marksS]
theorem Shard.mark_at {xs : List Shard} {i : Nat} (hi : i < xs.length) (k : Int) (h : i < (Shard.marksS (xs.take i) k ++ xs.drop i).length) : (Shard.marksS (xs.take i) k ++ xs.drop i)[i] = xs[i] := by
  have hl : (Shard.marksS (xs.take i) k).length = i := by rw [Shard.marksS_len, List.length_take]; omega
  rw [List.getElem_append_right (by omega)]
  simp [hl]
section
variable {F : Nat → Option RF} {Z : CallF} {h : Heap} {x : Cell} {xs : List Shard} {fp : List Nat}
set_option maxHeartbeats 2000000 in
theorem markShardS_turn (hLShard : Has F tLShard) (hLAccount : Has F tLAccount) (hLFin : Has F tLFin) {ys : List Shard} {g : Heap} (w : SlR 16 Shard.RI g x ys fp) (nd : fp.Nodup) (hlo : ∀ id, id ∈ fp → g.floor ≤ id) {i : Nat} (hi : i < ys.length) (k : Int) (h1 : 0 ≤ k) (h2 : k + ys[i].wt1 ≤ 9200000000000000000) :
    ∃ g', loop F Z [0, 1, 5] r230L0 ⟨[(0, .c x), (1, .c (.int .i64 k)), (5, .c (.int .i64 (i : Nat)))], [], [], g⟩ = loop F Z [0, 1, 5] r230L0 ⟨[(0, .c x), (1, .c (.int .i64 (k + ys[i].wt1))), (5, .c (.int .i64 ((i + 1 : Nat) : Int)))], [], [], g'⟩ ∧
      Mk g g' fp ∧ SlR 16 Shard.RI g' x (ys.set i (ys[i].mark1 k)) fp := by
  have hle := w.le2
  have hlt : (i : Int) < ys.length := by omega
  have hws := wrapS i (by omega)
  have hwl := w.len
  have hxi := w.idx hi
  obtain ⟨r, f, rows, hR, hin, nf, hs, hns, hsl, hg, hr, hir, fin⟩ := w.turn Shard.okI nd hi
  have hput := storeP_put (h := g) (hlo _ hs) hir
  have he := put_row hg hr
  simp only [Shard.wt1] at h2 ⊢
  clear w
  generalize ys[i] = a at *
  obtain ⟨x1, p1, x2, p2, rfl, rfl, w1, w2⟩ := hR
  obtain ⟨nd1, nd2, nd3⟩ := List.nodup_append.1 nf
  generalize hg4 : g.put x.sid (rows.set i [.int .u64 k, .int .u64 (k + 1), .int .i64 (k + 2), .int .i64 (k + 3), x1, x2]) = g4
  have m4 : Mk g g4 [x.sid] := by rw [← hg4]; exact Mk.put _ _ _
  have l4 : ∀ j n, loadP g4 x.sid i j n = cut? [.int .u64 k, .int .u64 (k + 1), .int .i64 (k + 2), .int .i64 (k + 3), x1, x2] j n := by rw [← hg4]; exact loadP_put hir _
  have s1 : ∀ id, id ∈ p1 → id ∉ [x.sid] := fun id hid hc => hns (by rw [List.mem_singleton] at hc; rw [← hc]; simp [hid])
  have s2 : ∀ id, id ∈ p2 → id ∉ [x.sid] := fun id hid hc => hns (by rw [List.mem_singleton] at hc; rw [← hc]; simp [hid])
  have w1' := w1.mk (Fl.ok _) m4 s1
  have w2' := w2.mk (Fl.ok _) m4 s2
  obtain ⟨g5, e5, m5, u1⟩ := markAccountS_run (Z := Z) hLAccount w1' (fun id hid => by rw [m4.fl]; exact hlo id (hin id (by simp [hid]))) (k + 4) (by omega) (by omega)
  have w2'' := w2'.mk (Fl.ok _) m5 (fun id h1 h2 => nd3 id h2 id h1 rfl)
  have get5 : g5.get x.sid = g4.get x.sid := m5.get _ fun hc => hns (by simp [hc])
  have l5 : ∀ j n, loadP g5 x.sid i j n = cut? [.int .u64 k, .int .u64 (k + 1), .int .i64 (k + 2), .int .i64 (k + 3), x1, x2] j n := fun j n => by rw [← l4]; simp only [loadP, rowOf, get5]
  obtain ⟨g6, e6, m6, u2⟩ := markFinS_run (Z := Z) hLFin w2'' (fun id hid => by rw [m5.fl, m4.fl]; exact hlo id (hin id (by simp [hid]))) (k + 4 + 5 * (a.book.list.length : Nat)) (by omega) (by omega)
  have u1' := u1.mk (Fl.ok _) m6 (fun id h1 h2 => nd3 id h1 id h2 rfl)
  have get6 : g6.get x.sid = g4.get x.sid := (m6.get _ fun hc => hns (by simp [hc])).trans get5
  refine ⟨g6, ?_, ⟨by rw [m6.next, m5.next, m4.next], by rw [m6.fl, m5.fl, m4.fl], fun id hid => ?_⟩, ?_⟩
  · rw [loop_run]
    conv in (codeF _ _ r230L0 _) => unfold r230L0
    rw [← he]
    have hw1 := wrapI1 k (by omega) (by omega)
    have hw2 : IntKind.i64.wrap (k + 1 + 1) = k + 2 := by rw [wrapI _ (by omega) (by omega)]; omega
    have hw3 : IntKind.i64.wrap (k + 2 + 1) = k + 3 := by rw [wrapI _ (by omega) (by omega)]; omega
    have hw4 : IntKind.i64.wrap (k + 3 + 1) = k + 4 := by rw [wrapI _ (by omega) (by omega)]; omega
    have hu1 := wrapU1 k (by omega) (by omega)
    have hu2 := wrapU1 (k + 1) (by omega) (by omega)
    simp only [run0, run1, run2, run3, run4, noSlot, ownS, ownK, memN, RO.dst, lk, drop, forget, number, Nat.reduceBEq, cut?, splice?, builds, List.length_cons, List.length_nil, List.drop_succ_cons, List.drop_zero, List.take_succ_cons, List.take_zero, List.cons_append, List.nil_append, List.append_nil, List.drop_nil, List.take_nil, Nat.reduceAdd, Nat.reduceLeDiff, Nat.zero_add, Nat.add_zero, ↓reduceIte, Bool.not_true, Bool.not_false, decide_true, decide_false, eq_self, bne_self_eq_false, List.getElem?_cons_zero, List.getElem?_cons_succ, decide_eq_true_eq, Bool.false_eq_true, Bool.true_eq_false, reduceCtorEq, Nat.le_refl, hwl, hlt, hxi, hput, putM_s, hw1, hw2, hw3, hw4, hu1, hu2, hg4, l4, e5, l5, e6, hws]
    rw [show k + (4 + 5 * ((a.book.list.length : Nat) : Int) + 2 * ((a.finished.length : Nat) : Int)) = k + 4 + 5 * (a.book.list.length : Nat) + 2 * (a.finished.length : Nat) from by omega]
  · rw [m6.get id (fun hc => hid (hin id (by simp [hc]))), m5.get id (fun hc => hid (hin id (by simp [hc]))), m4.get id (fun hc => hid (by rw [List.mem_singleton] at hc; rw [hc]; exact hs))]
  · refine fin g6 [.int .u64 k, .int .u64 (k + 1), .int .i64 (k + 2), .int .i64 (k + 3), x1, x2] _ (by rw [m6.next, m5.next, m4.next]; exact Nat.le_refl _) (fun id hid h3 h4 => ?_) (by rw [get6, ← hg4]; simp [Heap.put]) ⟨x1, p1, x2, p2, rfl, rfl, u1', u2⟩
    rw [m6.get id (fun hc => h4 (by simp [hc])), m5.get id (fun hc => h4 (by simp [hc])), m4.get id (by simpa using h3)]
theorem markShardS_r (hLShard : Has F tLShard) (hLAccount : Has F tLAccount) (hLFin : Has F tLFin) (w : SlR 16 Shard.RI h x xs fp) (nd : fp.Nodup) (hlo : ∀ id, id ∈ fp → h.floor ≤ id) (k : Int) (h1 : 0 ≤ k) (h2 : k + sumI Shard.wt1 xs ≤ 9200000000000000000) :
    ∃ h', call F Z 230 [.c x, .c (.int .i64 k)] h = some (.c (.int .i64 (k + sumI Shard.wt1 xs)), h') ∧ Mk h h' fp ∧ SlR 16 Shard.RI h' x (Shard.marksS xs k) fp := by
  have hle := w.le2
  have hnn : ∀ i, 0 ≤ sumI Shard.wt1 (xs.take i) := fun i => by
    have : ∀ ys : List Shard, 0 ≤ sumI Shard.wt1 ys := fun ys => by
      induction ys with
      | nil => simp [sumI]
      | cons a r ih => have := a.wt1_nn; simp only [sumI]; omega
    exact this _
  have hpre : ∀ i, sumI Shard.wt1 (xs.take i) ≤ sumI Shard.wt1 xs := fun i => by
    have e := sumI_app Shard.wt1 (xs.take i) (xs.drop i)
    rw [List.take_append_drop] at e
    have : ∀ ys : List Shard, 0 ≤ sumI Shard.wt1 ys := fun ys => by
      induction ys with
      | nil => simp [sumI]
      | cons a r ih => have := a.wt1_nn; simp only [sumI]; omega
    have := this (xs.drop i)
    omega
  rw [call_run F Z (hLShard.lk (g := 230) rfl) _ _ rfl]
  simp only [run0, run1, run2, run3, run4, noSlot, ownS, ownK, memN, RO.dst, lk, drop, forget, number, Nat.reduceBEq, cut?, splice?, builds, List.length_cons, List.length_nil, List.drop_succ_cons, List.drop_zero, List.take_succ_cons, List.take_zero, List.cons_append, List.nil_append, List.append_nil, List.drop_nil, List.take_nil, Nat.reduceAdd, Nat.reduceLeDiff, Nat.zero_add, Nat.add_zero, ↓reduceIte, Bool.not_true, Bool.not_false, decide_true, decide_false, eq_self, bne_self_eq_false, List.getElem?_cons_zero, List.getElem?_cons_succ, decide_eq_true_eq, Bool.false_eq_true, Bool.true_eq_false, reduceCtorEq, Nat.le_refl]
  obtain ⟨s', ⟨g, hs, m, u⟩, l1⟩ := loop_goes (F := F) (Z := Z) (live := [0, 1, 5]) (b := r230L0) xs.length (fun i s => ∃ g, s = ⟨[(0, .c x), (1, .c (.int .i64 (k + sumI Shard.wt1 (xs.take i)))), (5, .c (.int .i64 (i : Nat)))], [], [], g⟩ ∧ Mk h g fp ∧ SlR 16 Shard.RI g x (Shard.marksS (xs.take i) k ++ xs.drop i) fp) (fun i s hi ⟨g, hs, m, u⟩ => by
    subst hs
    have hi' : i < (Shard.marksS (xs.take i) k ++ xs.drop i).length := by rw [List.length_append, Shard.marksS_len, List.length_take, List.length_drop]; omega
    have e := Shard.mark_at hi k hi'
    have hst := sumI_take Shard.wt1 xs hi
    have hp := hpre (i + 1)
    have h0 := hnn i
    obtain ⟨g', e1, m1, u1⟩ := markShardS_turn (Z := Z) hLShard hLAccount hLFin u nd (fun id hid => by rw [m.fl]; exact hlo id hid) hi' (k + sumI Shard.wt1 (xs.take i)) (by omega) (by rw [e]; omega)
    rw [e, Shard.mark_step hi] at u1
    rw [e] at e1
    refine ⟨_, ⟨g', rfl, ⟨m1.next.trans m.next, m1.fl.trans m.fl, fun id hid => (m1.get id hid).trans (m.get id hid)⟩, u1⟩, ?_⟩
    rw [e1, hst, Int.add_assoc]) (s := ⟨[(0, .c x), (1, .c (.int .i64 k)), (5, .c (.int .i64 (0 : Nat)))], [], [], h⟩) ⟨h, by simp [sumI], Mk.refl _ _, by simpa [Shard.marksS] using w⟩
  subst hs
  simp only [show ((0 : Nat) : Int) = 0 from rfl, List.take_length] at l1
  simp only [List.take_length, List.drop_length, List.append_nil] at u
  rw [l1, loop_run]
  conv in (codeF _ _ r230L0 _) => unfold r230L0
  have hlt : ¬ (xs.length : Int) < xs.length := by omega
  have hl := u.len
  rw [Shard.marksS_len] at hl
  simp only [run0, run1, run2, run3, run4, noSlot, ownS, ownK, memN, RO.dst, lk, drop, forget, number, Nat.reduceBEq, cut?, splice?, builds, List.length_cons, List.length_nil, List.drop_succ_cons, List.drop_zero, List.take_succ_cons, List.take_zero, List.cons_append, List.nil_append, List.append_nil, List.drop_nil, List.take_nil, Nat.reduceAdd, Nat.reduceLeDiff, Nat.zero_add, Nat.add_zero, ↓reduceIte, Bool.not_true, Bool.not_false, decide_true, decide_false, eq_self, bne_self_eq_false, List.getElem?_cons_zero, List.getElem?_cons_succ, decide_eq_true_eq, Bool.false_eq_true, Bool.true_eq_false, reduceCtorEq, Nat.le_refl, hl, hlt]
  exact ⟨g, rfl, m, u⟩
end
namespace Store
def wt (s : Store) : Int := sumI Shard.wt1 s.shards
def marked (s : Store) (k : Int) : Store := { s with shards := Shard.marksS s.shards k }
end Store
theorem Store.wt_nn (s : Store) : 0 ≤ s.wt := by
  have : ∀ ys : List Shard, 0 ≤ sumI Shard.wt1 ys := fun ys => by
    induction ys with
    | nil => simp [sumI]
    | cons a r ih => have := a.wt1_nn; simp only [sumI]; omega
  exact this _
theorem Store.wt_le {s : Store} (sm : s.Small) : s.wt ≤ 8000000000000 := by
  obtain ⟨h1, h2⟩ := sm
  have h3 := sumI_le Shard.wt1 (m := 7340036) s.shards fun a ha => by
    obtain ⟨b1, b2⟩ := h2 a ha
    have b1' : a.book.list.length ≤ 1048576 := b1
    have := a.wt1_nn
    refine ⟨this, ?_⟩
    simp only [Shard.wt1]; omega
  have : s.wt = sumI Shard.wt1 s.shards := rfl
  omega
section
variable {F : Nat → Option RF} {Z : CallF} {h : Heap} {cs : List Cell} {t : Store} {fp : List Nat}
theorem markStore_r (hLStore : Has F tLStore) (hLShard : Has F tLShard) (hLBook : Has F tLBook) (hLAccount : Has F tLAccount) (hLFin : Has F tLFin) (v : Store.RI h cs t fp) (nd : fp.Nodup) (hlo : ∀ id, id ∈ fp → h.floor ≤ id) (k : Int) (h1 : 0 ≤ k) (h2 : k + t.wt ≤ 9200000000000000000) :
    ∃ h', call F Z 191 [.agg cs, .c (.int .i64 k)] h = some (.c (.int .i64 (k + t.wt)), h') ∧ Mk h h' fp ∧ Store.RI h' cs (t.marked k) fp := by
  obtain ⟨x, p, rfl, rfl, w⟩ := v
  obtain ⟨g, e, m, u⟩ := markShardS_r (Z := Z) hLShard hLAccount hLFin w nd hlo k h1 h2
  rw [call_run F Z (hLStore.lk (g := 191) rfl) _ _ rfl]
  simp only [run0, run1, run2, run3, run4, noSlot, ownS, ownK, memN, RO.dst, lk, drop, forget, number, Nat.reduceBEq, cut?, splice?, builds, List.length_cons, List.length_nil, List.drop_succ_cons, List.drop_zero, List.take_succ_cons, List.take_zero, List.cons_append, List.nil_append, List.append_nil, List.drop_nil, List.take_nil, Nat.reduceAdd, Nat.reduceLeDiff, Nat.zero_add, Nat.add_zero, ↓reduceIte, Bool.not_true, Bool.not_false, decide_true, decide_false, eq_self, bne_self_eq_false, List.getElem?_cons_zero, List.getElem?_cons_succ, decide_eq_true_eq, Bool.false_eq_true, Bool.true_eq_false, reduceCtorEq, Nat.le_refl, e]
  exact ⟨g, rfl, m, ⟨x, _, rfl, rfl, u⟩⟩
end
end Go.Proofs.Ytlfepembgjjejaa.A
/- What the converters of slices of Store compute. -/
namespace Go.Proofs.Ytlfepembgjjejaa.A
open Go
set_option linter.unusedSimpArgs false
set_option linter.unusedVariables false
def Store.zeroC : List Cell := [.int .i64 0, .int .i64 0, .nil]
theorem Wf.isStoreS' {h : Heap} {n : Nat} {a : List Cell} (w : Wf h (n + 8) shStoreS a) : ∃ x xs fp, a = [x] ∧ SlR 17 Store.RL h x xs fp ∧ ∀ t, t ∈ xs → t.Ok := by
  have hx : ∃ x, a = [x] := by rcases w with w | ⟨_, _, w, _⟩ <;> exact ⟨_, w⟩
  obtain ⟨x, rfl⟩ := hx
  obtain ⟨xs, fp, v, ok⟩ := SlR.ofWf (R := Store.RL) (A := fun t => t.Ok) (fun r hr => by obtain ⟨t, fp, v, ok⟩ := Wf.isStore hr.2; exact ⟨t, fp, v, ok⟩) w
  exact ⟨x, xs, fp, rfl, v, ok⟩
section
variable {F : Nat → Option RF} {Z : CallF} {h : Heap} {x y : Cell} {xs ys : List Store} {fp fq : List Nat}
theorem szStoreS_c (hLStore : Has F tLStore) (hLShard : Has F tLShard) (hLBook : Has F tLBook) (hLAccount : Has F tLAccount) (hLFin : Has F tLFin) (w : SlR 17 Store.RL h x xs fp) (left : Int) (h1 : 0 ≤ left) (h2 : left ≤ 1048576) : ∃ r, call F Z 169 [.c x, .c (.int .i64 left)] h = some (.c (.int .i64 r), h) ∧ r ≤ left ∧ (0 ≤ r → xs.length ≤ 1048576 ∧ ∀ a, a ∈ xs → a.Small) := by
  have hle := w.le2
  rw [call_run F Z (hLStore.lk (g := 169) rfl) _ _ rfl]
  simp only [run0, run1, run2, run3, run4, noSlot, ownS, ownK, memN, RO.dst, lk, drop, forget, number, Nat.reduceBEq, cut?, splice?, builds, List.length_cons, List.length_nil, List.drop_succ_cons, List.drop_zero, List.take_succ_cons, List.take_zero, List.cons_append, List.nil_append, List.append_nil, List.drop_nil, List.take_nil, Nat.reduceAdd, Nat.reduceLeDiff, Nat.zero_add, Nat.add_zero, ↓reduceIte, Bool.not_true, Bool.not_false, decide_true, decide_false, eq_self, bne_self_eq_false, List.getElem?_cons_zero, List.getElem?_cons_succ, decide_eq_true_eq, Bool.false_eq_true, Bool.true_eq_false, reduceCtorEq, Nat.le_refl, w.len, wrapI (left - xs.length) (by omega) (by omega)]
  by_cases n0 : left - xs.length < 0
  · simp only [run0, run1, run2, run3, run4, noSlot, ownS, ownK, memN, RO.dst, lk, drop, forget, number, Nat.reduceBEq, cut?, splice?, builds, List.length_cons, List.length_nil, List.drop_succ_cons, List.drop_zero, List.take_succ_cons, List.take_zero, List.cons_append, List.nil_append, List.append_nil, List.drop_nil, List.take_nil, Nat.reduceAdd, Nat.reduceLeDiff, Nat.zero_add, Nat.add_zero, ↓reduceIte, Bool.not_true, Bool.not_false, decide_true, decide_false, eq_self, bne_self_eq_false, List.getElem?_cons_zero, List.getElem?_cons_succ, decide_eq_true_eq, Bool.false_eq_true, Bool.true_eq_false, reduceCtorEq, Nat.le_refl, n0]
    exact ⟨_, rfl, by omega, by omega⟩
  simp only [run0, run1, run2, run3, run4, noSlot, ownS, ownK, memN, RO.dst, lk, drop, forget, number, Nat.reduceBEq, cut?, splice?, builds, List.length_cons, List.length_nil, List.drop_succ_cons, List.drop_zero, List.take_succ_cons, List.take_zero, List.cons_append, List.nil_append, List.append_nil, List.drop_nil, List.take_nil, Nat.reduceAdd, Nat.reduceLeDiff, Nat.zero_add, Nat.add_zero, ↓reduceIte, Bool.not_true, Bool.not_false, decide_true, decide_false, eq_self, bne_self_eq_false, List.getElem?_cons_zero, List.getElem?_cons_succ, decide_eq_true_eq, Bool.false_eq_true, Bool.true_eq_false, reduceCtorEq, Nat.le_refl, n0]
  rcases loop_rel (F := F) (Z := Z) (live := [0, 1, 5]) (b := r169L0) xs.length (fun i s => ∃ l, s = ⟨[(0, .c x), (1, .c (.int .i64 l)), (5, .c (.int .i64 (i : Nat)))], [], [], h⟩ ∧ 0 ≤ l ∧ l ≤ left ∧ ∀ a, a ∈ xs.take i → a.Small) (fun s => lk s.env 4 = some (.c (.int .i64 (-1))) ∧ s.hp = h) (fun i s hi ⟨l, hs, q1, q2, q3⟩ => by
    subst hs
    obtain ⟨r, f, hld, hr, _⟩ := w.one hi
    obtain ⟨l1, l2, l3⟩ := Store.lenL hr
    obtain ⟨l', e, k1, k2⟩ := szStore_c (Z := Z) hLStore hLShard hLBook hLAccount hLFin hr l q1 (by omega)
    have hlt : (i : Int) < xs.length := by omega
    rw [loop_run]
    conv in (codeF _ _ r169L0 _) => unfold r169L0
    simp only [run0, run1, run2, run3, run4, noSlot, ownS, ownK, memN, RO.dst, lk, drop, forget, number, Nat.reduceBEq, cut?, splice?, builds, List.length_cons, List.length_nil, List.drop_succ_cons, List.drop_zero, List.take_succ_cons, List.take_zero, List.cons_append, List.nil_append, List.append_nil, List.drop_nil, List.take_nil, Nat.reduceAdd, Nat.reduceLeDiff, Nat.zero_add, Nat.add_zero, ↓reduceIte, Bool.not_true, Bool.not_false, decide_true, decide_false, eq_self, bne_self_eq_false, List.getElem?_cons_zero, List.getElem?_cons_succ, decide_eq_true_eq, Bool.false_eq_true, Bool.true_eq_false, reduceCtorEq, Nat.le_refl, w.len, hlt, w.idx hi, hld, l1, l2, e]
    by_cases n1 : l' < 0
    · simp only [run0, run1, run2, run3, run4, noSlot, ownS, ownK, memN, RO.dst, lk, drop, forget, number, Nat.reduceBEq, cut?, splice?, builds, List.length_cons, List.length_nil, List.drop_succ_cons, List.drop_zero, List.take_succ_cons, List.take_zero, List.cons_append, List.nil_append, List.append_nil, List.drop_nil, List.take_nil, Nat.reduceAdd, Nat.reduceLeDiff, Nat.zero_add, Nat.add_zero, ↓reduceIte, Bool.not_true, Bool.not_false, decide_true, decide_false, eq_self, bne_self_eq_false, List.getElem?_cons_zero, List.getElem?_cons_succ, decide_eq_true_eq, Bool.false_eq_true, Bool.true_eq_false, reduceCtorEq, Nat.le_refl, n1]
      exact Or.inr ⟨_, rfl, rfl, rfl⟩
    · simp only [run0, run1, run2, run3, run4, noSlot, ownS, ownK, memN, RO.dst, lk, drop, forget, number, Nat.reduceBEq, cut?, splice?, builds, List.length_cons, List.length_nil, List.drop_succ_cons, List.drop_zero, List.take_succ_cons, List.take_zero, List.cons_append, List.nil_append, List.append_nil, List.drop_nil, List.take_nil, Nat.reduceAdd, Nat.reduceLeDiff, Nat.zero_add, Nat.add_zero, ↓reduceIte, Bool.not_true, Bool.not_false, decide_true, decide_false, eq_self, bne_self_eq_false, List.getElem?_cons_zero, List.getElem?_cons_succ, decide_eq_true_eq, Bool.false_eq_true, Bool.true_eq_false, reduceCtorEq, Nat.le_refl, n1, wrapS i (by omega)]
      refine Or.inl ⟨_, ⟨l', rfl, by omega, by omega, fun a ha => ?_⟩, rfl⟩
      rw [List.take_add_one, List.getElem?_eq_getElem hi] at ha
      rcases List.mem_append.1 ha with ha | ha
      · exact q3 a ha
      · simp at ha; subst ha; exact k2 (by omega)) (s := ⟨[(0, .c x), (1, .c (.int .i64 (left - xs.length))), (5, .c (.int .i64 (0 : Nat)))], [], [], h⟩) ⟨_, rfl, by omega, by omega, fun a ha => by simp at ha⟩ with ⟨s', ⟨l, hs', q1, q2, q3⟩, l1⟩ | ⟨s', l1, q1, q2⟩
  · subst hs'
    simp only [show ((0 : Nat) : Int) = 0 from rfl] at l1
    rw [l1, loop_run]
    conv in (codeF _ _ r169L0 _) => unfold r169L0
    have hlt : ¬ (xs.length : Int) < xs.length := by omega
    simp only [run0, run1, run2, run3, run4, noSlot, ownS, ownK, memN, RO.dst, lk, drop, forget, number, Nat.reduceBEq, cut?, splice?, builds, List.length_cons, List.length_nil, List.drop_succ_cons, List.drop_zero, List.take_succ_cons, List.take_zero, List.cons_append, List.nil_append, List.append_nil, List.drop_nil, List.take_nil, Nat.reduceAdd, Nat.reduceLeDiff, Nat.zero_add, Nat.add_zero, ↓reduceIte, Bool.not_true, Bool.not_false, decide_true, decide_false, eq_self, bne_self_eq_false, List.getElem?_cons_zero, List.getElem?_cons_succ, decide_eq_true_eq, Bool.false_eq_true, Bool.true_eq_false, reduceCtorEq, Nat.le_refl, w.len, hlt]
    rw [List.take_length] at q3
    exact ⟨_, rfl, by omega, fun _ => ⟨by omega, q3⟩⟩
  · simp only [show ((0 : Nat) : Int) = 0 from rfl] at l1
    rw [l1]
    simp only [run0, run1, run2, run3, run4, noSlot, ownS, ownK, memN, RO.dst, lk, drop, forget, number, Nat.reduceBEq, cut?, splice?, builds, List.length_cons, List.length_nil, List.drop_succ_cons, List.drop_zero, List.take_succ_cons, List.take_zero, List.cons_append, List.nil_append, List.append_nil, List.drop_nil, List.take_nil, Nat.reduceAdd, Nat.reduceLeDiff, Nat.zero_add, Nat.add_zero, ↓reduceIte, Bool.not_true, Bool.not_false, decide_true, decide_false, eq_self, bne_self_eq_false, List.getElem?_cons_zero, List.getElem?_cons_succ, decide_eq_true_eq, Bool.false_eq_true, Bool.true_eq_false, reduceCtorEq, Nat.le_refl, q1, q2]
    exact ⟨_, rfl, by omega, by omega⟩
theorem toStoreS_c (hLStore : Has F tLStore) (hLShard : Has F tLShard) (hLBook : Has F tLBook) (hLAccount : Has F tLAccount) (hLFin : Has F tLFin) (hf : h.floor ≤ h.next) (w : SlR 17 Store.RL h x xs fp) (sm : xs.length ≤ 1048576 ∧ ∀ a, a ∈ xs → a.Small) : ∃ y h' fq, call F Z 170 [.c x] h = some (.c y, h') ∧ On h h' ∧ SlR 18 Store.RI h' y xs fq ∧ Fre h fq := by
  obtain ⟨hn, sm⟩ := sm
  rw [call_run F Z (hLStore.lk (g := 170) rfl) _ _ rfl]
  simp only [run0, run1, run2, run3, run4, noSlot, ownS, ownK, memN, RO.dst, lk, drop, forget, number, Nat.reduceBEq, cut?, splice?, builds, List.length_cons, List.length_nil, List.drop_succ_cons, List.drop_zero, List.take_succ_cons, List.take_zero, List.cons_append, List.nil_append, List.append_nil, List.drop_nil, List.take_nil, Nat.reduceAdd, Nat.reduceLeDiff, Nat.zero_add, Nat.add_zero, ↓reduceIte, Bool.not_true, Bool.not_false, decide_true, decide_false, eq_self, bne_self_eq_false, List.getElem?_cons_zero, List.getElem?_cons_succ, decide_eq_true_eq, Bool.false_eq_true, Bool.true_eq_false, reduceCtorEq, Nat.le_refl, w.len]
  rw [if_pos (by omega)]
  simp only [run0, run1, run2, run3, run4, noSlot, ownS, ownK, memN, RO.dst, lk, drop, forget, number, Nat.reduceBEq, cut?, splice?, builds, List.length_cons, List.length_nil, List.drop_succ_cons, List.drop_zero, List.take_succ_cons, List.take_zero, List.cons_append, List.nil_append, List.append_nil, List.drop_nil, List.take_nil, Nat.reduceAdd, Nat.reduceLeDiff, Nat.zero_add, Nat.add_zero, ↓reduceIte, Bool.not_true, Bool.not_false, decide_true, decide_false, eq_self, bne_self_eq_false, List.getElem?_cons_zero, List.getElem?_cons_succ, decide_eq_true_eq, Bool.false_eq_true, Bool.true_eq_false, reduceCtorEq, Nat.le_refl, Int.toNat_natCast]
  obtain ⟨s', ⟨g, rows, fps, hs', fl⟩, l1⟩ := loop_goes (F := F) (Z := Z) (live := [0, 3, 4]) (b := r170L0) xs.length (fun i s => ∃ g rows fps, s = ⟨[(0, .c x), (3, .c (.sl 18 h.next 0 xs.length)), (4, .c (.int .i64 (i : Nat)))], [], [], g⟩ ∧ Filled Store.RI h g h.next Store.zeroC xs i rows fps) (fun i s hi ⟨g, rows, fps, hs, fl⟩ => by
    subst hs
    have wg := w.mono Store.okL fl.on.ext
    obtain ⟨r, f, hld, hr, _⟩ := wg.one hi
    obtain ⟨l1, l2, l3⟩ := Store.lenL hr
    obtain ⟨cs', g', fq, e, o', v, fr⟩ := toStore_c (Z := Z) hLStore hLShard hLBook hLAccount hLFin (fl.on.le hf) hr (sm _ (List.getElem_mem hi))
    obtain ⟨vl, _, _⟩ := Store.lenI v
    obtain ⟨st, fl'⟩ := fl.step Store.okI hf hi vl o' v fr
    have hlt : (i : Int) < xs.length := by omega
    have h0 : (0 : Int) ≤ i := by omega
    rw [loop_run]
    conv in (codeF _ _ r170L0 _) => unfold r170L0
    simp only [run0, run1, run2, run3, run4, noSlot, ownS, ownK, memN, RO.dst, lk, drop, forget, number, Nat.reduceBEq, cut?, splice?, builds, List.length_cons, List.length_nil, List.drop_succ_cons, List.drop_zero, List.take_succ_cons, List.take_zero, List.cons_append, List.nil_append, List.append_nil, List.drop_nil, List.take_nil, Nat.reduceAdd, Nat.reduceLeDiff, Nat.zero_add, Nat.add_zero, ↓reduceIte, Bool.not_true, Bool.not_false, decide_true, decide_false, eq_self, bne_self_eq_false, List.getElem?_cons_zero, List.getElem?_cons_succ, decide_eq_true_eq, Bool.false_eq_true, Bool.true_eq_false, reduceCtorEq, Nat.le_refl, w.len, hlt, w.idx hi, hld, l1, l2, e, h0, and_self, Int.toNat_natCast, vl, st, wrapS i (by omega)]
    exact ⟨_, ⟨_, _, _, rfl, fl'⟩, rfl⟩) (s := ⟨[(0, .c x), (3, .c (.sl 18 h.next 0 xs.length)), (4, .c (.int .i64 (0 : Nat)))], [], [], h.push (List.replicate xs.length Store.zeroC)⟩) ⟨_, _, _, rfl, Filled.start h Store.zeroC xs⟩
  subst hs'
  simp only [show ((0 : Nat) : Int) = 0 from rfl, Store.zeroC] at l1
  rw [l1, loop_run]
  conv in (codeF _ _ r170L0 _) => unfold r170L0
  have hlt : ¬ (xs.length : Int) < xs.length := by omega
  simp only [run0, run1, run2, run3, run4, noSlot, ownS, ownK, memN, RO.dst, lk, drop, forget, number, Nat.reduceBEq, cut?, splice?, builds, List.length_cons, List.length_nil, List.drop_succ_cons, List.drop_zero, List.take_succ_cons, List.take_zero, List.cons_append, List.nil_append, List.append_nil, List.drop_nil, List.take_nil, Nat.reduceAdd, Nat.reduceLeDiff, Nat.zero_add, Nat.add_zero, ↓reduceIte, Bool.not_true, Bool.not_false, decide_true, decide_false, eq_self, bne_self_eq_false, List.getElem?_cons_zero, List.getElem?_cons_succ, decide_eq_true_eq, Bool.false_eq_true, Bool.true_eq_false, reduceCtorEq, Nat.le_refl, w.len, hlt]
  obtain ⟨o, v, f⟩ := fl.all hn 18
  exact ⟨_, _, _, rfl, o, v, f⟩
theorem eqStoreS_r (hLStore : Has F tLStore) (hLShard : Has F tLShard) (hLBook : Has F tLBook) (hLAccount : Has F tLAccount) (hLFin : Has F tLFin) (w : SlR 18 Store.RI h x xs fp) (v : SlR 18 Store.RI h y ys fq) : call F Z 173 [.c x, .c y] h = some (.c (.bool (decide (xs = ys))), h) := by
  have hw := w.le2
  have hv := v.le2
  rw [call_run F Z (hLStore.lk (g := 173) rfl) _ _ rfl]
  simp only [run0, run1, run2, run3, run4, noSlot, ownS, ownK, memN, RO.dst, lk, drop, forget, number, Nat.reduceBEq, cut?, splice?, builds, List.length_cons, List.length_nil, List.drop_succ_cons, List.drop_zero, List.take_succ_cons, List.take_zero, List.cons_append, List.nil_append, List.append_nil, List.drop_nil, List.take_nil, Nat.reduceAdd, Nat.reduceLeDiff, Nat.zero_add, Nat.add_zero, ↓reduceIte, Bool.not_true, Bool.not_false, decide_true, decide_false, eq_self, bne_self_eq_false, List.getElem?_cons_zero, List.getElem?_cons_succ, decide_eq_true_eq, Bool.false_eq_true, Bool.true_eq_false, reduceCtorEq, Nat.le_refl, w.len, v.len]
  rw [condC_if]
  split
  · rename_i hne
    have : xs ≠ ys := by rintro rfl; simp at hne
    simp only [run0, run1, run2, run3, run4, noSlot, ownS, ownK, memN, RO.dst, lk, drop, forget, number, Nat.reduceBEq, cut?, splice?, builds, List.length_cons, List.length_nil, List.drop_succ_cons, List.drop_zero, List.take_succ_cons, List.take_zero, List.cons_append, List.nil_append, List.append_nil, List.drop_nil, List.take_nil, Nat.reduceAdd, Nat.reduceLeDiff, Nat.zero_add, Nat.add_zero, ↓reduceIte, Bool.not_true, Bool.not_false, decide_true, decide_false, eq_self, bne_self_eq_false, List.getElem?_cons_zero, List.getElem?_cons_succ, decide_eq_true_eq, Bool.false_eq_true, Bool.true_eq_false, reduceCtorEq, Nat.le_refl, this]
  · rename_i he
    have he : xs.length = ys.length := by simp at he; omega
    simp only [run0, run1, run2, run3, run4, noSlot, ownS, ownK, memN, RO.dst, lk, drop, forget, number, Nat.reduceBEq, cut?, splice?, builds, List.length_cons, List.length_nil, List.drop_succ_cons, List.drop_zero, List.take_succ_cons, List.take_zero, List.cons_append, List.nil_append, List.append_nil, List.drop_nil, List.take_nil, Nat.reduceAdd, Nat.reduceLeDiff, Nat.zero_add, Nat.add_zero, ↓reduceIte, Bool.not_true, Bool.not_false, decide_true, decide_false, eq_self, bne_self_eq_false, List.getElem?_cons_zero, List.getElem?_cons_succ, decide_eq_true_eq, Bool.false_eq_true, Bool.true_eq_false, reduceCtorEq, Nat.le_refl]
    have key := loop_allN (F := F) (Z := Z) (live := [0, 1, 5]) (b := r173L0) xs.length (fun i => ⟨[(0, .c x), (1, .c y), (5, .c (.int .i64 (i : Nat)))], [], [], h⟩) (fun i => decide (xs[i]? = ys[i]?)) (fun s => lk s.env 4 = some (.c (.bool false)) ∧ s.hp = h) fun i hi => by
      have hi' : i < ys.length := by omega
      have hlt : (i : Int) < xs.length := by omega
      obtain ⟨r, f, hld, hr, _⟩ := w.one hi
      obtain ⟨r', f', hld', hr', _⟩ := v.one hi'
      obtain ⟨l1, l2, l3⟩ := Store.lenI hr
      obtain ⟨l1', l2', l3'⟩ := Store.lenI hr'
      have e := eqStore_r (Z := Z) (h := ⟨h.next, h.next, h.get⟩) hLStore hLShard hLBook hLAccount hLFin (Store.okI.up hr _) (Store.okI.up hr' _)
      rw [loop_run]
      conv in (codeF _ _ r173L0 _) => unfold r173L0
      simp only [run0, run1, run2, run3, run4, noSlot, ownS, ownK, memN, RO.dst, lk, drop, forget, number, Nat.reduceBEq, cut?, splice?, builds, List.length_cons, List.length_nil, List.drop_succ_cons, List.drop_zero, List.take_succ_cons, List.take_zero, List.cons_append, List.nil_append, List.append_nil, List.drop_nil, List.take_nil, Nat.reduceAdd, Nat.reduceLeDiff, Nat.zero_add, Nat.add_zero, ↓reduceIte, Bool.not_true, Bool.not_false, decide_true, decide_false, eq_self, bne_self_eq_false, List.getElem?_cons_zero, List.getElem?_cons_succ, decide_eq_true_eq, Bool.false_eq_true, Bool.true_eq_false, reduceCtorEq, Nat.le_refl, w.len, hlt, w.idx hi, v.idx hi', hld, hld', l1, l2, l1', l2', e, wrapS i (by omega)]
      rw [List.getElem?_eq_getElem hi, List.getElem?_eq_getElem hi']
      clear e hld hld' hr hr' l1 l2 l3 l1' l2' l3'
      (repeat' ((first | (rw [gF_if]; split) | (rw [condC_if]; split) | (rw [pickR_if]; split)) <;> (rename_i hh; (try simp only [Bool.not_eq_true, decide_eq_true_eq] at hh); simp only [hh, run0, run1, run2, run3, run4, noSlot, ownS, ownK, memN, RO.dst, lk, drop, forget, number, Nat.reduceBEq, cut?, splice?, builds, List.length_cons, List.length_nil, List.drop_succ_cons, List.drop_zero, List.take_succ_cons, List.take_zero, List.cons_append, List.nil_append, List.append_nil, List.drop_nil, List.take_nil, Nat.reduceAdd, Nat.reduceLeDiff, Nat.zero_add, Nat.add_zero, ↓reduceIte, Bool.not_true, Bool.not_false, decide_true, decide_false, eq_self, bne_self_eq_false, List.getElem?_cons_zero, List.getElem?_cons_succ, decide_eq_true_eq, Bool.false_eq_true, Bool.true_eq_false, reduceCtorEq, Nat.le_refl, wrapS i (by omega)])))
      · exact .inr ⟨by simp_all, _, rfl, rfl, rfl⟩
      · exact .inl ⟨by simp_all, rfl⟩
    rw [all_same he] at key
    rcases key with ⟨k1, k2⟩ | ⟨k1, s, k2, k3, k4⟩
    · simp only [show ((0 : Nat) : Int) = 0 from rfl] at k2
      rw [k2, loop_run]
      conv in (codeF _ _ r173L0 _) => unfold r173L0
      have hlt : ¬ (xs.length : Int) < xs.length := by omega
      simp only [run0, run1, run2, run3, run4, noSlot, ownS, ownK, memN, RO.dst, lk, drop, forget, number, Nat.reduceBEq, cut?, splice?, builds, List.length_cons, List.length_nil, List.drop_succ_cons, List.drop_zero, List.take_succ_cons, List.take_zero, List.cons_append, List.nil_append, List.append_nil, List.drop_nil, List.take_nil, Nat.reduceAdd, Nat.reduceLeDiff, Nat.zero_add, Nat.add_zero, ↓reduceIte, Bool.not_true, Bool.not_false, decide_true, decide_false, eq_self, bne_self_eq_false, List.getElem?_cons_zero, List.getElem?_cons_succ, decide_eq_true_eq, Bool.false_eq_true, Bool.true_eq_false, reduceCtorEq, Nat.le_refl, w.len, hlt, k1]
    · simp only [show ((0 : Nat) : Int) = 0 from rfl] at k2
      rw [k2]
      simp only [run0, run1, run2, run3, run4, noSlot, ownS, ownK, memN, RO.dst, lk, drop, forget, number, Nat.reduceBEq, cut?, splice?, builds, List.length_cons, List.length_nil, List.drop_succ_cons, List.drop_zero, List.take_succ_cons, List.take_zero, List.cons_append, List.nil_append, List.append_nil, List.drop_nil, List.take_nil, Nat.reduceAdd, Nat.reduceLeDiff, Nat.zero_add, Nat.add_zero, ↓reduceIte, Bool.not_true, Bool.not_false, decide_true, decide_false, eq_self, bne_self_eq_false, List.getElem?_cons_zero, List.getElem?_cons_succ, decide_eq_true_eq, Bool.false_eq_true, Bool.true_eq_false, reduceCtorEq, Nat.le_refl, k3, k4, k1]
end
end Go.Proofs.Ytlfepembgjjejaa.A
/- Shards and stores with memory of their own: marks that are held; stores marked, one by one. -/
namespace Go.Proofs.Ytlfepembgjjejaa.A
open Go
set_option linter.unusedSimpArgs false
set_option linter.unusedVariables false
theorem Shard.marksS_at : ∀ (xs : List Shard) (k : Int) (i : Nat) (hi : i < xs.length) (h : i < (Shard.marksS xs k).length), (Shard.marksS xs k)[i] = xs[i].mark1 (k + sumI Shard.wt1 (xs.take i))
  | [], k, i, hi, h => by simp at hi
  | t :: r, k, 0, hi, h => by simp [Shard.marksS, sumI]
  | t :: r, k, i + 1, hi, h => by
    simp only [Shard.marksS, List.getElem_cons_succ, List.take_succ_cons, sumI]
    rw [Shard.marksS_at r _ i (by simpa using hi)]
    simp [Int.add_assoc]
theorem Shard.sum_nn : ∀ xs : List Shard, 0 ≤ sumI Shard.wt1 xs
  | [] => by simp [sumI]
  | a :: r => by have := a.wt1_nn; have := Shard.sum_nn r; simp only [sumI]; omega
theorem Shard.sum_pre (xs : List Shard) (i : Nat) : sumI Shard.wt1 (xs.take i) ≤ sumI Shard.wt1 xs := by
  have e := sumI_app Shard.wt1 (xs.take i) (xs.drop i)
  rw [List.take_append_drop] at e
  have := Shard.sum_nn (xs.drop i)
  omega
section
variable {F : Nat → Option RF} {Z : CallF} {h : Heap} {x : Cell} {xs : List Shard} {fp : List Nat}
set_option maxHeartbeats 2000000 in
theorem heldShardS_r (hLShard : Has F tLShard) (hLAccount : Has F tLAccount) (hLFin : Has F tLFin) {k : Int} (w : SlR 16 Shard.RI h x (Shard.marksS xs k) fp) (h1 : 0 ≤ k) (h2 : k + sumI Shard.wt1 xs ≤ 9200000000000000000) :
    call F Z 322 [.c x, .c (.int .i64 k)] h = some (.c (.int .i64 (k + sumI Shard.wt1 xs)), h) := by
  have hle := w.le2
  have hl := w.len
  rw [Shard.marksS_len] at hl hle
  rw [call_run F Z (hLShard.lk (g := 322) rfl) _ _ rfl]
  simp only [run0, run1, run2, run3, run4, noSlot, ownS, ownK, memN, RO.dst, lk, drop, forget, number, Nat.reduceBEq, cut?, splice?, builds, List.length_cons, List.length_nil, List.drop_succ_cons, List.drop_zero, List.take_succ_cons, List.take_zero, List.cons_append, List.nil_append, List.append_nil, List.drop_nil, List.take_nil, Nat.reduceAdd, Nat.reduceLeDiff, Nat.zero_add, Nat.add_zero, ↓reduceIte, Bool.not_true, Bool.not_false, decide_true, decide_false, eq_self, bne_self_eq_false, List.getElem?_cons_zero, List.getElem?_cons_succ, decide_eq_true_eq, Bool.false_eq_true, Bool.true_eq_false, reduceCtorEq, Nat.le_refl]
  obtain ⟨s', hs, l1⟩ := loop_goes (F := F) (Z := Z) (live := [0, 1, 5]) (b := r322L0) xs.length (fun i s => s = ⟨[(0, .c x), (1, .c (.int .i64 (k + sumI Shard.wt1 (xs.take i)))), (5, .c (.int .i64 (i : Nat)))], [], [], h⟩) (fun i s hi hs => by
    subst hs
    refine ⟨_, rfl, ?_⟩
    have hi' : i < (Shard.marksS xs k).length := by rw [Shard.marksS_len]; exact hi
    have hst := sumI_take Shard.wt1 xs hi
    have hp := Shard.sum_pre xs (i + 1)
    have h0 := Shard.sum_nn (xs.take i)
    have hlt : (i : Int) < xs.length := by omega
    have hws := wrapS i (by omega)
    have hxi := w.idx hi'
    obtain ⟨r, f, l4, hR, _⟩ := w.one hi'
    rw [Shard.marksS_at xs k i hi] at hR
    rw [hst]
    generalize xs[i] = a at *
    generalize hkk : k + sumI Shard.wt1 (xs.take i) = q at *
    rw [show k + (sumI Shard.wt1 (xs.take i) + a.wt1) = q + a.wt1 from by omega]
    have hq0 : 0 ≤ q := by omega
    have hq1 : q + a.wt1 ≤ 9200000000000000000 := by omega
    simp only [Shard.wt1] at hq1 ⊢
    obtain ⟨x1, p1, x2, p2, rfl, rfl, w1, w2⟩ := hR
    have e5 := heldAccountS_run (Z := Z) hLAccount (n := a.book.list.length) (k := q + 4) w1 (by omega) (by omega)
    have e6 := heldFinS_run (Z := Z) hLFin (n := a.finished.length) (k := q + 4 + 5 * (a.book.list.length : Nat)) w2 (by omega) (by omega)
    have hw1 := wrapI1 q (by omega) (by omega)
    have hw2 : IntKind.i64.wrap (q + 1 + 1) = q + 2 := by rw [wrapI _ (by omega) (by omega)]; omega
    have hw3 : IntKind.i64.wrap (q + 2 + 1) = q + 3 := by rw [wrapI _ (by omega) (by omega)]; omega
    have hw4 : IntKind.i64.wrap (q + 3 + 1) = q + 4 := by rw [wrapI _ (by omega) (by omega)]; omega
    have hu1 := wrapU1 q (by omega) (by omega)
    have hu2 := wrapU1 (q + 1) (by omega) (by omega)
    have n0 : ¬ q + 4 + 5 * ((a.book.list.length : Nat) : Int) < 0 := by omega
    have n1 : ¬ q + 4 + 5 * ((a.book.list.length : Nat) : Int) + 2 * ((a.finished.length : Nat) : Int) < 0 := by omega
    rw [loop_run]
    conv in (codeF _ _ r322L0 _) => unfold r322L0
    simp only [Shard.mark1] at l4
    simp only [run0, run1, run2, run3, run4, noSlot, ownS, ownK, memN, RO.dst, lk, drop, forget, number, Nat.reduceBEq, cut?, splice?, builds, List.length_cons, List.length_nil, List.drop_succ_cons, List.drop_zero, List.take_succ_cons, List.take_zero, List.cons_append, List.nil_append, List.append_nil, List.drop_nil, List.take_nil, Nat.reduceAdd, Nat.reduceLeDiff, Nat.zero_add, Nat.add_zero, ↓reduceIte, Bool.not_true, Bool.not_false, decide_true, decide_false, eq_self, bne_self_eq_false, List.getElem?_cons_zero, List.getElem?_cons_succ, decide_eq_true_eq, Bool.false_eq_true, Bool.true_eq_false, reduceCtorEq, Nat.le_refl, hl, hlt, hxi, l4, hw1, hw2, hw3, hw4, hu1, hu2, e5, e6, n0, n1, hws]
    rw [show q + (4 + 5 * ((a.book.list.length : Nat) : Int) + 2 * ((a.finished.length : Nat) : Int)) = q + 4 + 5 * (a.book.list.length : Nat) + 2 * (a.finished.length : Nat) from by omega]) (s := ⟨[(0, .c x), (1, .c (.int .i64 k)), (5, .c (.int .i64 (0 : Nat)))], [], [], h⟩) (by simp [sumI])
  subst hs
  simp only [show ((0 : Nat) : Int) = 0 from rfl, List.take_length] at l1
  rw [l1, loop_run]
  conv in (codeF _ _ r322L0 _) => unfold r322L0
  have hlt : ¬ (xs.length : Int) < xs.length := by omega
  simp only [run0, run1, run2, run3, run4, noSlot, ownS, ownK, memN, RO.dst, lk, drop, forget, number, Nat.reduceBEq, cut?, splice?, builds, List.length_cons, List.length_nil, List.drop_succ_cons, List.drop_zero, List.take_succ_cons, List.take_zero, List.cons_append, List.nil_append, List.append_nil, List.drop_nil, List.take_nil, Nat.reduceAdd, Nat.reduceLeDiff, Nat.zero_add, Nat.add_zero, ↓reduceIte, Bool.not_true, Bool.not_false, decide_true, decide_false, eq_self, bne_self_eq_false, List.getElem?_cons_zero, List.getElem?_cons_succ, decide_eq_true_eq, Bool.false_eq_true, Bool.true_eq_false, reduceCtorEq, Nat.le_refl, hl, hlt]
end
section
variable {F : Nat → Option RF} {Z : CallF} {h : Heap} {cs : List Cell} {t : Store} {fp : List Nat}
theorem heldStore_r (hLStore : Has F tLStore) (hLShard : Has F tLShard) (hLBook : Has F tLBook) (hLAccount : Has F tLAccount) (hLFin : Has F tLFin) {k : Int} (v : Store.RI h cs (t.marked k) fp) (h1 : 0 ≤ k) (h2 : k + t.wt ≤ 9200000000000000000) :
    call F Z 292 [.agg cs, .c (.int .i64 k)] h = some (.c (.int .i64 (k + t.wt)), h) := by
  obtain ⟨x, p, rfl, rfl, w⟩ := v
  have e := heldShardS_r (Z := Z) hLShard hLAccount hLFin (xs := t.shards) w h1 h2
  have hn := t.wt_nn
  rw [call_run F Z (hLStore.lk (g := 292) rfl) _ _ rfl]
  have he : sumI Shard.wt1 t.shards = t.wt := rfl
  rw [he] at e
  have hk : ¬ k + t.wt < 0 := by omega
  simp only [run0, run1, run2, run3, run4, noSlot, ownS, ownK, memN, RO.dst, lk, drop, forget, number, Nat.reduceBEq, cut?, splice?, builds, List.length_cons, List.length_nil, List.drop_succ_cons, List.drop_zero, List.take_succ_cons, List.take_zero, List.cons_append, List.nil_append, List.append_nil, List.drop_nil, List.take_nil, Nat.reduceAdd, Nat.reduceLeDiff, Nat.zero_add, Nat.add_zero, ↓reduceIte, Bool.not_true, Bool.not_false, decide_true, decide_false, eq_self, bne_self_eq_false, List.getElem?_cons_zero, List.getElem?_cons_succ, decide_eq_true_eq, Bool.false_eq_true, Bool.true_eq_false, reduceCtorEq, Nat.le_refl, e, hk]
end
def Store.mark1 (t : Store) (k : Int) : Store := ⟨k, k + 1, Shard.marksS t.shards (k + 2)⟩
def Store.wt1 (t : Store) : Int := 2 + sumI Shard.wt1 t.shards
def Store.wtS (xs : List Store) : Int := sumI Store.wt1 xs
def Store.marksS : List Store → Int → List Store
  | [], _ => []
  | t :: r, k => t.mark1 k :: Store.marksS r (k + t.wt1)
theorem Store.wt1_nn (t : Store) : 0 ≤ t.wt1 := by have := Shard.sum_nn t.shards; simp only [wt1]; omega
theorem Store.sum_nn : ∀ xs : List Store, 0 ≤ sumI Store.wt1 xs
  | [] => by simp [sumI]
  | a :: r => by have := a.wt1_nn; have := Store.sum_nn r; simp only [sumI]; omega
theorem Store.wtS_nn (xs : List Store) : 0 ≤ Store.wtS xs := Store.sum_nn xs
theorem Store.sum_pre (xs : List Store) (i : Nat) : sumI Store.wt1 (xs.take i) ≤ sumI Store.wt1 xs := by
  have e := sumI_app Store.wt1 (xs.take i) (xs.drop i)
  rw [List.take_append_drop] at e
  have := Store.sum_nn (xs.drop i)
  omega
theorem Store.marksS_len : ∀ (xs : List Store) (k : Int), (Store.marksS xs k).length = xs.length
  | [], _ => rfl
  | t :: r, k => by simp only [Store.marksS, List.length_cons, Store.marksS_len r]
theorem Store.marksS_app : ∀ (xs ys : List Store) (k : Int), Store.marksS (xs ++ ys) k = Store.marksS xs k ++ Store.marksS ys (k + sumI Store.wt1 xs)
  | [], ys, k => by simp [Store.marksS, sumI]
  | t :: r, ys, k => by
    simp only [List.cons_append, Store.marksS, Store.marksS_app r ys, sumI, Int.add_assoc]
theorem Store.mark_step {xs : List Store} {i : Nat} (hi : i < xs.length) (k : Int) :
    (Store.marksS (xs.take i) k ++ xs.drop i).set i (xs[i].mark1 (k + sumI Store.wt1 (xs.take i))) = Store.marksS (xs.take (i + 1)) k ++ xs.drop (i + 1) := by
  have hl : (Store.marksS (xs.take i) k).length = i := by rw [Store.marksS_len, List.length_take]; omega
  rw [List.set_append_right _ _ (by omega), hl, Nat.sub_self, List.drop_eq_getElem_cons hi, List.set_cons_zero, List.take_add_one, List.getElem?_eq_getElem hi, Store.marksS_app]
  simp [Store.marksS]
theorem Store.mark_at {xs : List Store} {i : Nat} (hi : i < xs.length) (k : Int) (h : i < (Store.marksS (xs.take i) k ++ xs.drop i).length) : (Store.marksS (xs.take i) k ++ xs.drop i)[i] = xs[i] := by
  have hl : (Store.marksS (xs.take i) k).length = i := by rw [Store.marksS_len, List.length_take]; omega
  rw [List.getElem_append_right (by omega)]
  simp [hl]
section
variable {F : Nat → Option RF} {Z : CallF} {h : Heap} {x : Cell} {xs : List Store} {fp : List Nat}
set_option maxHeartbeats 2000000 in
theorem markStoreS_turn (hLStore : Has F tLStore) (hLShard : Has F tLShard) (hLAccount : Has F tLAccount) (hLFin : Has F tLFin) {ys : List Store} {g : Heap} (w : SlR 18 Store.RI g x ys fp) (nd : fp.Nodup) (hlo : ∀ id, id ∈ fp → g.floor ≤ id) {i : Nat} (hi : i < ys.length) (k : Int) (h1 : 0 ≤ k) (h2 : k + ys[i].wt1 ≤ 9200000000000000000) :
    ∃ g', loop F Z [0, 1, 5] r286L0 ⟨[(0, .c x), (1, .c (.int .i64 k)), (5, .c (.int .i64 (i : Nat)))], [], [], g⟩ = loop F Z [0, 1, 5] r286L0 ⟨[(0, .c x), (1, .c (.int .i64 (k + ys[i].wt1))), (5, .c (.int .i64 ((i + 1 : Nat) : Int)))], [], [], g'⟩ ∧
      Mk g g' fp ∧ SlR 18 Store.RI g' x (ys.set i (ys[i].mark1 k)) fp := by
  have hle := w.le2
  have hlt : (i : Int) < ys.length := by omega
  have hws := wrapS i (by omega)
  have hwl := w.len
  have hxi := w.idx hi
  obtain ⟨r, f, rows, hR, hin, nf, hs, hns, hsl, hg, hr, hir, fin⟩ := w.turn Store.okI nd hi
  have hput := storeP_put (h := g) (hlo _ hs) hir
  have he := put_row hg hr
  have hnn := Shard.sum_nn ys[i].shards
  simp only [Store.wt1] at h2 ⊢
  clear w
  generalize ys[i] = a at *
  obtain ⟨x1, p1, rfl, rfl, w1⟩ := hR
  generalize hg4 : g.put x.sid (rows.set i [.int .i64 k, .int .i64 (k + 1), x1]) = g4
  have m4 : Mk g g4 [x.sid] := by rw [← hg4]; exact Mk.put _ _ _
  have l4 : ∀ j n, loadP g4 x.sid i j n = cut? [.int .i64 k, .int .i64 (k + 1), x1] j n := by rw [← hg4]; exact loadP_put hir _
  have s1 : ∀ id, id ∈ f → id ∉ [x.sid] := fun id hid hc => hns (by rw [List.mem_singleton] at hc; rw [← hc]; exact hid)
  have w1' := w1.mk Shard.okI m4 s1
  obtain ⟨g5, e5, m5, u1⟩ := markShardS_r (Z := Z) hLShard hLAccount hLFin w1' nf (fun id hid => by rw [m4.fl]; exact hlo id (hin id hid)) (k + 2) (by omega) (by omega)
  have get5 : g5.get x.sid = g4.get x.sid := m5.get _ fun hc => hns hc
  refine ⟨g5, ?_, ⟨by rw [m5.next, m4.next], by rw [m5.fl, m4.fl], fun id hid => ?_⟩, ?_⟩
  · rw [loop_run]
    conv in (codeF _ _ r286L0 _) => unfold r286L0
    rw [← he]
    have hw1 := wrapI1 k (by omega) (by omega)
    have hw2 : IntKind.i64.wrap (k + 1 + 1) = k + 2 := by rw [wrapI _ (by omega) (by omega)]; omega
    simp only [run0, run1, run2, run3, run4, noSlot, ownS, ownK, memN, RO.dst, lk, drop, forget, number, Nat.reduceBEq, cut?, splice?, builds, List.length_cons, List.length_nil, List.drop_succ_cons, List.drop_zero, List.take_succ_cons, List.take_zero, List.cons_append, List.nil_append, List.append_nil, List.drop_nil, List.take_nil, Nat.reduceAdd, Nat.reduceLeDiff, Nat.zero_add, Nat.add_zero, ↓reduceIte, Bool.not_true, Bool.not_false, decide_true, decide_false, eq_self, bne_self_eq_false, List.getElem?_cons_zero, List.getElem?_cons_succ, decide_eq_true_eq, Bool.false_eq_true, Bool.true_eq_false, reduceCtorEq, Nat.le_refl, hwl, hlt, hxi, hput, putM_s, hw1, hw2, hg4, l4, e5, hws]
    rw [show k + (2 + sumI Shard.wt1 a.shards) = k + 2 + sumI Shard.wt1 a.shards from by omega]
  · rw [m5.get id (fun hc => hid (hin id hc)), m4.get id (fun hc => hid (by rw [List.mem_singleton] at hc; rw [hc]; exact hs))]
  · refine fin g5 [.int .i64 k, .int .i64 (k + 1), x1] _ (by rw [m5.next, m4.next]; exact Nat.le_refl _) (fun id hid h3 h4 => ?_) (by rw [get5, ← hg4]; simp [Heap.put]) ⟨x1, f, rfl, rfl, u1⟩
    rw [m5.get id (fun hc => h4 hc), m4.get id (by simpa using h3)]
theorem markStoreS_r (hLStore : Has F tLStore) (hLShard : Has F tLShard) (hLBook : Has F tLBook) (hLAccount : Has F tLAccount) (hLFin : Has F tLFin) (w : SlR 18 Store.RI h x xs fp) (nd : fp.Nodup) (hlo : ∀ id, id ∈ fp → h.floor ≤ id) (k : Int) (h1 : 0 ≤ k) (h2 : k + Store.wtS xs ≤ 9200000000000000000) :
    ∃ h', call F Z 286 [.c x, .c (.int .i64 k)] h = some (.c (.int .i64 (k + Store.wtS xs)), h') ∧ Mk h h' fp ∧ SlR 18 Store.RI h' x (Store.marksS xs k) fp := by
  have hle := w.le2
  have hnn : ∀ i, 0 ≤ sumI Store.wt1 (xs.take i) := fun i => Store.sum_nn _
  have hpre : ∀ i, sumI Store.wt1 (xs.take i) ≤ sumI Store.wt1 xs := fun i => Store.sum_pre xs i
  simp only [Store.wtS] at h2 ⊢
  rw [call_run F Z (hLStore.lk (g := 286) rfl) _ _ rfl]
  simp only [run0, run1, run2, run3, run4, noSlot, ownS, ownK, memN, RO.dst, lk, drop, forget, number, Nat.reduceBEq, cut?, splice?, builds, List.length_cons, List.length_nil, List.drop_succ_cons, List.drop_zero, List.take_succ_cons, List.take_zero, List.cons_append, List.nil_append, List.append_nil, List.drop_nil, List.take_nil, Nat.reduceAdd, Nat.reduceLeDiff, Nat.zero_add, Nat.add_zero, ↓reduceIte, Bool.not_true, Bool.not_false, decide_true, decide_false, eq_self, bne_self_eq_false, List.getElem?_cons_zero, List.getElem?_cons_succ, decide_eq_true_eq, Bool.false_eq_true, Bool.true_eq_false, reduceCtorEq, Nat.le_refl]
  obtain ⟨s', ⟨g, hs, m, u⟩, l1⟩ := loop_goes (F := F) (Z := Z) (live := [0, 1, 5]) (b := r286L0) xs.length (fun i s => ∃ g, s = ⟨[(0, .c x), (1, .c (.int .i64 (k + sumI Store.wt1 (xs.take i)))), (5, .c (.int .i64 (i : Nat)))], [], [], g⟩ ∧ Mk h g fp ∧ SlR 18 Store.RI g x (Store.marksS (xs.take i) k ++ xs.drop i) fp) (fun i s hi ⟨g, hs, m, u⟩ => by
    subst hs
    have hi' : i < (Store.marksS (xs.take i) k ++ xs.drop i).length := by rw [List.length_append, Store.marksS_len, List.length_take, List.length_drop]; omega
    have e := Store.mark_at hi k hi'
    have hst := sumI_take Store.wt1 xs hi
    have hp := hpre (i + 1)
    have h0 := hnn i
    obtain ⟨g', e1, m1, u1⟩ := markStoreS_turn (Z := Z) hLStore hLShard hLAccount hLFin u nd (fun id hid => by rw [m.fl]; exact hlo id hid) hi' (k + sumI Store.wt1 (xs.take i)) (by omega) (by rw [e]; omega)
    rw [e, Store.mark_step hi] at u1
    rw [e] at e1
    refine ⟨_, ⟨g', rfl, ⟨m1.next.trans m.next, m1.fl.trans m.fl, fun id hid => (m1.get id hid).trans (m.get id hid)⟩, u1⟩, ?_⟩
    rw [e1, hst, Int.add_assoc]) (s := ⟨[(0, .c x), (1, .c (.int .i64 k)), (5, .c (.int .i64 (0 : Nat)))], [], [], h⟩) ⟨h, by simp [sumI], Mk.refl _ _, by simpa [Store.marksS] using w⟩
  subst hs
  simp only [show ((0 : Nat) : Int) = 0 from rfl, List.take_length] at l1
  simp only [List.take_length, List.drop_length, List.append_nil] at u
  rw [l1, loop_run]
  conv in (codeF _ _ r286L0 _) => unfold r286L0
  have hlt : ¬ (xs.length : Int) < xs.length := by omega
  have hl := u.len
  rw [Store.marksS_len] at hl
  simp only [run0, run1, run2, run3, run4, noSlot, ownS, ownK, memN, RO.dst, lk, drop, forget, number, Nat.reduceBEq, cut?, splice?, builds, List.length_cons, List.length_nil, List.drop_succ_cons, List.drop_zero, List.take_succ_cons, List.take_zero, List.cons_append, List.nil_append, List.append_nil, List.drop_nil, List.take_nil, Nat.reduceAdd, Nat.reduceLeDiff, Nat.zero_add, Nat.add_zero, ↓reduceIte, Bool.not_true, Bool.not_false, decide_true, decide_false, eq_self, bne_self_eq_false, List.getElem?_cons_zero, List.getElem?_cons_succ, decide_eq_true_eq, Bool.false_eq_true, Bool.true_eq_false, reduceCtorEq, Nat.le_refl, hl, hlt]
  exact ⟨g, rfl, m, u⟩
end
end Go.Proofs.Ytlfepembgjjejaa.A
