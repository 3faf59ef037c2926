/- The functions that the statement reaches, part 3: bodies and what they compute. No condition. -/
import Derived.Test.YtgfclcpnefinoaaHCExactPlayHand2
import Derived.Test.YtgfclcpnefinoaaD
namespace Go.Proofs.Ytgfclcpnefinoaa.A
open Go
set_option linter.unusedSimpArgs false
set_option linter.unusedVariables false
def Store.without (s : Store) (i : Nat) : Store := { s with shards := s.shards.eraseIdx i }
def retireShard (s : Store) (lo e : Int) : Store × Bool := bif s.good && (decide (0 ≤ findAt s.shards lo 1) && decide ((Shard.at_ s.shards (findAt s.shards lo 1).toNat).epoch = e)) then (s.without (findAt s.shards lo 1).toNat, true) else (s, false)
theorem Store.without_small {s : Store} (sm : s.Small) (i : Nat) : (s.without i).Small :=
  ⟨Nat.le_trans (List.length_eraseIdx_le _ _) sm.1, fun a ha => sm.2 a (List.mem_of_mem_eraseIdx ha)⟩
theorem retireShard_small {s : Store} (sm : s.Small) (lo e : Int) : (retireShard s lo e).1.Small := by
  unfold retireShard
  cases (s.good && (decide (0 ≤ findAt s.shards lo 1) && decide ((Shard.at_ s.shards (findAt s.shards lo 1).toNat).epoch = e)))
  · exact sm
  · exact Store.without_small sm _
theorem retire_no {s : Store} {lo e : Int} (h : s.good = false) : retireShard s lo e = (s, false) := by simp [retireShard, h]
theorem retire_away {s : Store} {lo e : Int} (h : findAt s.shards lo 1 = -1) : retireShard s lo e = (s, false) := by simp [retireShard, h]
theorem retire_old {s : Store} {lo e : Int} {i : Nat} (h : findAt s.shards lo 1 = (i : Int)) (h2 : ¬ (Shard.at_ s.shards i).epoch = e) : retireShard s lo e = (s, false) := by simp [retireShard, h, h2]
theorem retire_yes {s : Store} {lo e : Int} {i : Nat} (h0 : s.good = true) (h : findAt s.shards lo 1 = (i : Int)) (h2 : (Shard.at_ s.shards i).epoch = e) : retireShard s lo e = (s.without i, true) := by simp [retireShard, h0, h, h2]
theorem erase_skip {α : Type} {xs : List α} {k : Nat} (hk : k < xs.length) : (xs.take (k + 1)).eraseIdx k = (xs.take k).eraseIdx k := by
  rw [List.eraseIdx_of_length_le (k := k) (l := xs.take k) (by rw [List.length_take]; omega), List.eraseIdx_eq_take_drop_succ, List.drop_eq_nil_of_le (by rw [List.length_take]; omega), List.take_take, List.append_nil]
  congr 1
  omega
theorem erase_next {α : Type} {xs : List α} {i k : Nat} (hi : i < xs.length) (hne : i ≠ k) : (xs.take (i + 1)).eraseIdx k = (xs.take i).eraseIdx k ++ [xs[i]] := by
  rw [List.take_add_one, List.getElem?_eq_getElem hi]
  rcases Nat.lt_or_ge k i with h | h
  · rw [List.eraseIdx_append_of_lt_length (by rw [List.length_take]; omega)]; rfl
  · rw [List.eraseIdx_of_length_le (k := k) (l := xs.take i) (by rw [List.length_take]; omega), List.eraseIdx_of_length_le (by simp; omega)]; rfl
section
variable {F : Nat → Option RF} {Z : CallF} {h : Heap} {x : Cell} {xs : List Shard} {fp fq : List Nat} {cs : List Cell} {s : Store} {t : Shard}
set_option maxHeartbeats 1000000 in
theorem RetireShard_c (k : KI F) (hL : Has F tLibslicesIndexFuncimplShardimplShard) (pr : PrimAt F Z 330 (delF 16)) (hf : h.floor ≤ h.next) (v : Store.RI h cs s fp) (lo e : Int) (ok : s.Ok) (sm : s.Small) :
    ∃ cs' h' fq, call F Z 298 [.agg cs, .c (.int .u64 lo), .c (.int .i64 e)] h = some (.tup [.agg cs', .c (.bool (retireShard s lo e).2)], h') ∧ On h h' ∧ Store.RI h' cs' (retireShard s lo e).1 fq ∧ Fre h fq := by
  obtain ⟨l1, l2, l3⟩ := Store.lenI v
  obtain ⟨cs1, h1, fq, e1, o1, v1, f1⟩ := copyStore_c (Z := Z) k hf v sm
  have v' := Store.okI.on v o1
  obtain ⟨h2, e2, o2⟩ := shardAt_on (Z := Z) k.i13 hL v' lo 1
  have v'' := Store.okI.on v' o2
  obtain ⟨h3, e3, o3⟩ := isStore_run (Z := Z) k v'' ok
  have o13 := (o1.trans o2).trans o3
  have v3 := Store.okI.on (Store.okI.on v1 o2) o3
  have vs := Store.okI.on v'' o3
  clear v v' v'' v1
  rw [call_run F Z (k.i13.lk (g := 298) rfl) _ _ rfl]
  obtain ⟨y, p, rfl, hp, w⟩ := v3
  subst hp
  obtain ⟨x, p, rfl, hp, u⟩ := vs
  subst hp
  cases hg : s.good with
  | false =>
    rw [hg] at e3
    rw [retire_no hg]
    simp only [run0, run1, run2, run3, run4, noSlot, ownS, ownK, memN, RO.dst, lk, drop, forget, number, Nat.reduceBEq, cut?, splice?, builds, Nat.reduceAdd, Nat.reduceLeDiff, ↓reduceIte, reduceCtorEq, qqa, qqb, qqc, qqd, qqe, qqf, qqg, qqh, qqi, qqj, qqk, qql, qqm, qqn, qqo, qqp, qqq, qqr, qqs, qqt, qqu, qqv, qqw, qqx, qqy, l1, l2, l3, e1, e2, e3]
    exact ⟨_, _, _, rfl, o13, ⟨y, _, rfl, rfl, w⟩, f1⟩
  | true =>
    rw [hg] at e3
    rcases u.found (fun t => (t.lo == lo) && (t.state == 1)) with q | ⟨i, q, hi, _, hx, _, _, hld⟩
    · change findAt s.shards lo 1 = -1 at q
      rw [retire_away q]
      rw [q] at e2
      simp only [run0, run1, run2, run3, run4, noSlot, ownS, ownK, memN, RO.dst, lk, drop, forget, number, Nat.reduceBEq, cut?, splice?, builds, Nat.reduceAdd, Nat.reduceLeDiff, ↓reduceIte, reduceCtorEq, qqa, qqb, qqc, qqd, qqe, qqf, qqg, qqh, qqi, qqj, qqk, qql, qqm, qqn, qqo, qqp, qqq, qqr, qqs, qqt, qqu, qqv, qqw, qqx, qqy, l1, l2, l3, e1, e2, e3, Int.reduceLT, Int.reduceNeg]
      exact ⟨_, _, _, rfl, o13, ⟨y, _, rfl, rfl, w⟩, f1⟩
    · change findAt s.shards lo 1 = (i : Int) at q
      rw [q] at e2
      have g0 : ¬ (i : Int) < 0 := by omega
      by_cases he : (Shard.at_ s.shards i).epoch = e
      · rw [retire_yes hg q he]
        have hle := u.le2
        obtain ⟨z, g, fr, e4, w4, re⟩ := w.del Shard.okI f1.nd (f1.own o13 hf) hi
        have hw := wrapS i (by omega)
        simp only [run0, run1, run2, run3, run4, noSlot, ownS, ownK, memN, RO.dst, lk, drop, forget, number, Nat.reduceBEq, cut?, splice?, builds, Nat.reduceAdd, Nat.reduceLeDiff, ↓reduceIte, reduceCtorEq, qqa, qqb, qqc, qqd, qqe, qqf, qqg, qqh, qqi, qqj, qqk, qql, qqm, qqn, qqo, qqp, qqq, qqr, qqs, qqt, qqu, qqv, qqw, qqx, qqy, l1, l2, l3, e1, e2, e3, g0, hx, hld, he, Shard.cells, hw, pr _ _, e4]
        exact ⟨_, _, _, rfl, re.on o13 f1, ⟨z, _, rfl, rfl, w4⟩, re.fre o13 f1⟩
      · have hb : ((Shard.at_ s.shards i).epoch != e) = true := by simpa using he
        rw [retire_old q he]
        simp only [run0, run1, run2, run3, run4, noSlot, ownS, ownK, memN, RO.dst, lk, drop, forget, number, Nat.reduceBEq, cut?, splice?, builds, Nat.reduceAdd, Nat.reduceLeDiff, ↓reduceIte, reduceCtorEq, qqa, qqb, qqc, qqd, qqe, qqf, qqg, qqh, qqi, qqj, qqk, qql, qqm, qqn, qqo, qqp, qqq, qqr, qqs, qqt, qqu, qqv, qqw, qqx, qqy, l1, l2, l3, e1, e2, e3, g0, hx, hld, hb, Shard.cells]
        exact ⟨_, _, _, rfl, o13, ⟨y, _, rfl, rfl, w⟩, f1⟩
set_option maxHeartbeats 1000000 in
theorem sRetireShard_c (k : KS F) (hf : h.floor ≤ h.next) (v : Store.RI h cs s fp) (lo e : Int) (ok : s.Ok) (sm : s.Small) :
    ∃ cs' h' fq, call F Z 297 [.agg cs, .c (.int .u64 lo), .c (.int .i64 e)] h = some (.tup [.agg cs', .c (.bool (retireShard s lo e).2)], h') ∧ On h h' ∧ Store.RI h' cs' (retireShard s lo e).1 fq ∧ Fre h fq := by
  obtain ⟨l1, l2, l3⟩ := Store.lenI v
  obtain ⟨cs1, h1, fq, e1, o1, v1, f1⟩ := l13Copy_c (Z := Z) k hf v sm
  obtain ⟨m1, m2, m3⟩ := Store.lenI v1
  have e2 := l13At_run (Z := Z) k.s13 v lo 1
  have e3 := sStoreOk_run (Z := Z) k v ok
  rw [call_run F Z (k.s13.lk (g := 297) rfl) _ _ rfl]
  cases hg : s.good with
  | false =>
    rw [hg] at e3
    rw [retire_no hg]
    simp only [run0, run1, run2, run3, run4, noSlot, ownS, ownK, memN, RO.dst, lk, drop, forget, number, Nat.reduceBEq, cut?, splice?, builds, Nat.reduceAdd, Nat.reduceLeDiff, ↓reduceIte, reduceCtorEq, qqa, qqb, qqc, qqd, qqe, qqf, qqg, qqh, qqi, qqj, qqk, qql, qqm, qqn, qqo, qqp, qqq, qqr, qqs, qqt, qqu, qqv, qqw, qqx, qqy, l1, l2, l3, e1, e2, e3, m1, m2, m3]
    exact ⟨_, _, _, rfl, o1, v1, f1⟩
  | true =>
    rw [hg] at e3
    obtain ⟨x, p, rfl, hp, u⟩ := v
    subst hp
    rcases u.found (fun t => (t.lo == lo) && (t.state == 1)) with q | ⟨j, q, hj, _, hx, _, _, hld⟩
    · change findAt s.shards lo 1 = -1 at q
      rw [retire_away q]
      rw [q] at e2
      simp only [run0, run1, run2, run3, run4, noSlot, ownS, ownK, memN, RO.dst, lk, drop, forget, number, Nat.reduceBEq, cut?, splice?, builds, Nat.reduceAdd, Nat.reduceLeDiff, ↓reduceIte, reduceCtorEq, qqa, qqb, qqc, qqd, qqe, qqf, qqg, qqh, qqi, qqj, qqk, qql, qqm, qqn, qqo, qqp, qqq, qqr, qqs, qqt, qqu, qqv, qqw, qqx, qqy, l1, l2, l3, e1, e2, e3, m1, m2, m3, Int.reduceLT, Int.reduceNeg]
      exact ⟨_, _, _, rfl, o1, v1, f1⟩
    · change findAt s.shards lo 1 = (j : Int) at q
      rw [q] at e2
      have g0 : ¬ (j : Int) < 0 := by omega
      by_cases he : (Shard.at_ s.shards j).epoch = e
      · rw [retire_yes hg q he]
        have hle := u.le2
        have hwl := u.len
        clear e1 o1 v1 f1 m1 m2 m3
        simp only [run0, run1, run2, run3, run4, noSlot, ownS, ownK, memN, RO.dst, lk, drop, forget, number, Nat.reduceBEq, cut?, splice?, builds, Nat.reduceAdd, Nat.reduceLeDiff, ↓reduceIte, reduceCtorEq, qqa, qqb, qqc, qqd, qqe, qqf, qqg, qqh, qqi, qqj, qqk, qql, qqm, qqn, qqo, qqp, qqq, qqr, qqs, qqt, qqu, qqv, qqw, qqx, qqy, l1, l2, l3, e2, e3, g0, hx, hld, he, Shard.cells]
        obtain ⟨s', ⟨y, g, fq, hs, a⟩, lp⟩ := loop_goes (F := F) (Z := Z) (live := [3, 6, 8, 9, 10]) (b := r297L0) s.shards.length (fun i st => ∃ y g fq, st = ⟨[(8, .c (.int .i64 (j : Nat))), (10, .c (.int .i64 (i : Nat)))], [(3, 3, 0), (6, 6, 0), (9, 9, 0)], [(3, [.int .i64 s.group, .int .i64 s.seen, x]), (6, [.int .i64 0, .int .i64 0, .nil]), (9, [.int .i64 s.group, .int .i64 s.seen, y])], g⟩ ∧ AccM Shard.RI 16 h g y ((s.shards.take i).eraseIdx j) fq) (fun i st hi ⟨y, g, fq, hs, a⟩ => by
          subst hs
          have hlt : (i : Int) < s.shards.length := by omega
          have hws := wrapS i (by omega)
          rw [loop_run]
          conv in (codeF _ _ r297L0 _) => unfold r297L0
          by_cases hij : i = j
          · subst hij
            rw [← erase_skip hi] at a
            simp only [run0, run1, run2, run3, run4, noSlot, ownS, ownK, memN, RO.dst, lk, drop, forget, number, Nat.reduceBEq, cut?, splice?, builds, Nat.reduceAdd, Nat.reduceLeDiff, ↓reduceIte, reduceCtorEq, qqa, qqb, qqc, qqd, qqe, qqf, qqg, qqh, qqi, qqj, qqk, qql, qqm, qqn, qqo, qqp, qqq, qqr, qqs, qqt, qqu, qqv, qqw, qqx, qqy, hwl, hlt, hws]
            exact ⟨_, ⟨_, _, _, rfl, a⟩, rfl⟩
          have hne0 : ¬ (i : Int) = (j : Int) := by omega
          have hne : ((i : Int) != (j : Int)) = true := by simpa using hne0
          have hxi := u.idx hi
          obtain ⟨r, f, hld, hR, _⟩ := (u.on Shard.okI a.on).one hi
          obtain ⟨r1, r2, r3⟩ := Shard.lenI hR
          obtain ⟨cs', h', g1, fr, e1, hg1, o1, u1, f1, c1⟩ := l13CopyShard_q (Z := Z) k.s10 k.s13 hR (sm.2 _ (List.getElem_mem hi))
          obtain ⟨y', g', fp', e2, a2⟩ := a.next hf (by have := List.length_eraseIdx_le (s.shards.take i) j; have := sm.1; rw [List.length_take] at *; omega) o1 u1 f1
          rw [← erase_next hi hij] at a2
          simp only [run0, run1, run2, run3, run4, noSlot, ownS, ownK, memN, RO.dst, lk, drop, forget, number, Nat.reduceBEq, cut?, splice?, builds, Nat.reduceAdd, Nat.reduceLeDiff, ↓reduceIte, reduceCtorEq, qqa, qqb, qqc, qqd, qqe, qqf, qqg, qqh, qqi, qqj, qqk, qql, qqm, qqn, qqo, qqp, qqq, qqr, qqs, qqt, qqu, qqv, qqw, qqx, qqy, hwl, hlt, hxi, hne, hld, r1, r2, r3, e1, hg1, List.replicate_succ, List.replicate_zero, fills, and_self, Nat.zero_lt_one, c1, List.set_cons_zero, e2, hws]
          exact ⟨_, ⟨_, _, _, rfl, a2⟩, rfl⟩) (s := ⟨[(8, .c (.int .i64 (j : Nat))), (10, .c (.int .i64 (0 : Nat)))], [(3, 3, 0), (6, 6, 0), (9, 9, 0)], [(3, [.int .i64 s.group, .int .i64 s.seen, x]), (6, [.int .i64 0, .int .i64 0, .nil]), (9, [.int .i64 s.group, .int .i64 s.seen, .nil])], h⟩) ⟨_, _, _, rfl, by simpa using AccM.nil Shard.RI 16 h⟩
        subst hs
        simp only [show ((0 : Nat) : Int) = 0 from rfl] at lp
        rw [List.take_length] at a
        have hlt : ¬ (s.shards.length : Int) < s.shards.length := by omega
        rw [lp, loop_run]
        conv in (codeF _ _ r297L0 _) => unfold r297L0
        simp only [run0, run1, run2, run3, run4, noSlot, ownS, ownK, memN, RO.dst, lk, drop, forget, number, Nat.reduceBEq, cut?, splice?, builds, Nat.reduceAdd, Nat.reduceLeDiff, ↓reduceIte, reduceCtorEq, qqa, qqb, qqc, qqd, qqe, qqf, qqg, qqh, qqi, qqj, qqk, qql, qqm, qqn, qqo, qqp, qqq, qqr, qqs, qqt, qqu, qqv, qqw, qqx, qqy, hwl, hlt]
        exact ⟨_, _, _, rfl, a.on, ⟨_, _, rfl, rfl, a.sh⟩, a.fr⟩
      · have hb : ((Shard.at_ s.shards j).epoch != e) = true := by simpa using he
        rw [retire_old q he]
        simp only [run0, run1, run2, run3, run4, noSlot, ownS, ownK, memN, RO.dst, lk, drop, forget, number, Nat.reduceBEq, cut?, splice?, builds, Nat.reduceAdd, Nat.reduceLeDiff, ↓reduceIte, reduceCtorEq, qqa, qqb, qqc, qqd, qqe, qqf, qqg, qqh, qqi, qqj, qqk, qql, qqm, qqn, qqo, qqp, qqq, qqr, qqs, qqt, qqu, qqv, qqw, qqx, qqy, l1, l2, l3, e1, e2, e3, g0, hx, hld, hb, Shard.cells, m1, m2, m3]
        exact ⟨_, _, _, rfl, o1, v1, f1⟩
end
end Go.Proofs.Ytgfclcpnefinoaa.A
namespace Go.Proofs.Ytgfclcpnefinoaa.A
open Go
set_option linter.unusedSimpArgs false
set_option linter.unusedVariables false
section
variable {F : Nat → Option RF} {Z : CallF} {h : Heap} {cs : List Cell} {t : HandMsg} {fp : List Nat}
end
end Go.Proofs.Ytgfclcpnefinoaa.A
namespace Go.Proofs.Ytgfclcpnefinoaa.A
open Go
set_option linter.unusedSimpArgs false
set_option linter.unusedVariables false
def HandMsg.none_ : HandMsg := ⟨0, 0, 0, 0, Shard.none_⟩
def handSend (a : Hand) (s : Store) : HandMsg × Bool :=
  bif a.ok && !(a.phase == 3) then (bif a.phase == 1 then (bif (exportShard s a.lo).2 && ((exportShard s a.lo).1.epoch == a.epoch) then (⟨1, a.lo, a.to, a.epoch + 1, (exportShard s a.lo).1⟩, true) else (HandMsg.none_, false)) else (⟨a.phase, a.lo, a.from_, a.epoch, Shard.none_⟩, true)) else (HandMsg.none_, false)
def handTake (s : Store) (m : HandMsg) : Store × Bool := bif m.to == s.group then (bif m.step == 0 then freezeShard s m.lo m.epoch else bif m.step == 1 then installShard s m.shard m.epoch else bif m.step == 2 then retireShard s m.lo m.epoch else (s, false)) else (s, false)
theorem Shard.none_small : Shard.none_.Small := by simp [Shard.none_, Shard.Small, Book.Small]
theorem handSend_small {s : Store} (sm : s.Small) (a : Hand) : (handSend a s).1.Small := by
  unfold handSend
  cases (a.ok && !(a.phase == 3)) <;> simp only [cond_true, cond_false]
  · exact Shard.none_small
  cases (a.phase == 1) <;> simp only [cond_true, cond_false]
  · exact Shard.none_small
  cases ((exportShard s a.lo).2 && ((exportShard s a.lo).1.epoch == a.epoch)) <;> simp only [cond_true, cond_false]
  · exact Shard.none_small
  · exact exportShard_small sm
theorem handTake_small {s : Store} (sm : s.Small) {m : HandMsg} (smm : m.Small) : (handTake s m).1.Small := by
  unfold handTake
  cases (m.to == s.group) <;> simp only [cond_true, cond_false]
  · exact sm
  cases (m.step == 0) <;> simp only [cond_true, cond_false]
  · cases (m.step == 1) <;> simp only [cond_true, cond_false]
    · cases (m.step == 2) <;> simp only [cond_true, cond_false]
      · exact sm
      · exact retireShard_small sm _ _
    · exact installShard_small sm smm _
  · exact freezeShard_small sm _ _
theorem Hand.ok_epoch {a : Hand} (h : a.ok = true) : IntKind.i64.wrap (a.epoch + 1) = a.epoch + 1 := by
  simp only [Hand.ok, handOk, inR, Bool.and_eq_true, decide_eq_true_eq] at h
  exact wrapI _ (by omega) (by omega)
section
variable {F : Nat → Option RF} {Z : CallF} {h : Heap} {cs ds : List Cell} {fp fq : List Nat} {s : Store} {m : HandMsg}
theorem HandMsg.none_R (h : Heap) : HandMsg.RI h [.int .i64 0, .int .u64 0, .int .i64 0, .int .i64 0, .int .u64 0, .int .u64 0, .int .i64 0, .int .i64 0, .nil, .nil] HandMsg.none_ [] := ⟨.nil, [], .nil, [], rfl, rfl, SlR.nil _ _ _, SlR.nil _ _ _⟩
theorem send_bad {a : Hand} (h : a.ok = false) : handSend a s = (HandMsg.none_, false) := by simp [handSend, h]
theorem send_over {a : Hand} (h : a.phase = 3) : handSend a s = (HandMsg.none_, false) := by simp [handSend, h]
theorem send_other {a : Hand} (h : a.ok = true) (h3 : ¬ a.phase = 3) (h1 : ¬ a.phase = 1) : handSend a s = (⟨a.phase, a.lo, a.from_, a.epoch, Shard.none_⟩, true) := by
  have h3' : (a.phase == 3) = false := by simpa using h3
  have h1' : (a.phase == 1) = false := by simpa using h1
  simp [handSend, h, h1', h3']
theorem send_none {a : Hand} (h1 : a.phase = 1) (h2 : (exportShard s a.lo).2 = false) : handSend a s = (HandMsg.none_, false) := by simp [handSend, h1, h2]
theorem send_old {a : Hand} (h1 : a.phase = 1) (h2 : ¬ (exportShard s a.lo).1.epoch = a.epoch) : handSend a s = (HandMsg.none_, false) := by
  have h2' : ((exportShard s a.lo).1.epoch == a.epoch) = false := by simpa using h2
  simp [handSend, h1, h2']
theorem send_yes {a : Hand} (h : a.ok = true) (h1 : a.phase = 1) (h2 : (exportShard s a.lo).2 = true) (h3 : (exportShard s a.lo).1.epoch = a.epoch) : handSend a s = (⟨1, a.lo, a.to, a.epoch + 1, (exportShard s a.lo).1⟩, true) := by simp [handSend, h, h1, h2, h3]
set_option maxHeartbeats 1000000 in
theorem handSend_c (k : KI F) (hI15 : Has F tI15) (hL : Has F tLibslicesIndexFuncimplShardimplShard) (hf : h.floor ≤ h.next) (a : Hand) (v : Store.RI h cs s fp) (ok : s.Ok) (sm : s.Small) :
    ∃ cs' h' fq, call F Z 331 [.agg a.enc, .agg cs] h = some (.tup [.agg cs', .c (.bool (handSend a s).2)], h') ∧ On h h' ∧ HandMsg.RI h' cs' (handSend a s).1 fq ∧ Fre h fq := by
  obtain ⟨l1, l2, l3⟩ := Store.lenI v
  have e1 := isHand_run (Z := Z) k.i11 hI15 a.lo a.from_ a.to a.epoch a.phase h
  obtain ⟨cs1, h1, fq, e2, o2, v2, f2⟩ := ExportShard_c (Z := Z) k hL hf v a.lo ok sm
  have e3 := fun h => handEpoch_run (Z := Z) hI15 a.lo a.from_ a.to a.epoch a.phase h
  have hw := fun (hh : a.ok = true) => Hand.ok_epoch hh
  rw [call_run F Z (hI15.lk (g := 331) rfl) _ _ rfl]
  simp only [Hand.enc]
  cases ha : a.ok with
  | false =>
    rw [show handOk a.lo a.from_ a.to a.epoch a.phase = false from ha] at e1
    rw [send_bad ha]
    simp only [run0, run1, run2, run3, run4, noSlot, ownS, ownK, memN, RO.dst, lk, drop, forget, number, Nat.reduceBEq, cut?, splice?, builds, Nat.reduceAdd, Nat.reduceLeDiff, ↓reduceIte, reduceCtorEq, qqa, qqb, qqc, qqd, qqe, qqf, qqg, qqh, qqi, qqj, qqk, qql, qqm, qqn, qqo, qqp, qqq, qqr, qqs, qqt, qqu, qqv, qqw, qqx, qqy, l1, l2, l3, e1]
    exact ⟨_, _, _, rfl, On.refl h, HandMsg.none_R h, Fre.nil h⟩
  | true =>
    rw [show handOk a.lo a.from_ a.to a.epoch a.phase = true from ha] at e1
    by_cases h3 : a.phase = 3
    · rw [send_over h3]
      have h3t : (a.phase == 3) = true := by simpa using h3
      simp only [run0, run1, run2, run3, run4, noSlot, ownS, ownK, memN, RO.dst, lk, drop, forget, number, Nat.reduceBEq, cut?, splice?, builds, Nat.reduceAdd, Nat.reduceLeDiff, ↓reduceIte, reduceCtorEq, qqa, qqb, qqc, qqd, qqe, qqf, qqg, qqh, qqi, qqj, qqk, qql, qqm, qqn, qqo, qqp, qqq, qqr, qqs, qqt, qqu, qqv, qqw, qqx, qqy, l1, l2, l3, e1, h3t]
      exact ⟨_, _, _, rfl, On.refl h, HandMsg.none_R h, Fre.nil h⟩
    have h3' : (a.phase == 3) = false := by simpa using h3
    by_cases h1 : a.phase = 1
    · have h1' : (a.phase == 1) = true := by simpa using h1
      obtain ⟨m1, m2, m3⟩ := Shard.lenI v2
      have e3' : ∀ h, call F Z 132 [.agg [.int .u64 a.lo, .int .i64 a.from_, .int .i64 a.to, .int .i64 a.epoch, .int .i64 a.phase]] h = some (.c (.int .i64 (a.epoch + 1)), h) := fun h => by rw [e3 h]; simp only [handEp]; rw [if_pos h1, hw ha]
      cases hx : (exportShard s a.lo).2 with
      | false =>
        rw [hx] at e2
        rw [send_none h1 hx]
        simp only [run0, run1, run2, run3, run4, noSlot, ownS, ownK, memN, RO.dst, lk, drop, forget, number, Nat.reduceBEq, cut?, splice?, builds, Nat.reduceAdd, Nat.reduceLeDiff, ↓reduceIte, reduceCtorEq, qqa, qqb, qqc, qqd, qqe, qqf, qqg, qqh, qqi, qqj, qqk, qql, qqm, qqn, qqo, qqp, qqq, qqr, qqs, qqt, qqu, qqv, qqw, qqx, qqy, l1, l2, l3, e1, h3', h1', e3', e2, m1, m2, m3]
        exact ⟨_, _, _, rfl, o2, HandMsg.none_R _, Fre.nil h⟩
      | true =>
        rw [hx] at e2
        have v2' := v2
        obtain ⟨x1, p1, x2, p2, rfl, hq, w1, w2⟩ := v2'
        by_cases h4 : (exportShard s a.lo).1.epoch = a.epoch
        · have h4' : ((exportShard s a.lo).1.epoch != a.epoch) = false := by simpa using h4
          rw [send_yes ha h1 hx h4]
          simp only [run0, run1, run2, run3, run4, noSlot, ownS, ownK, memN, RO.dst, lk, drop, forget, number, Nat.reduceBEq, cut?, splice?, builds, Nat.reduceAdd, Nat.reduceLeDiff, ↓reduceIte, reduceCtorEq, qqa, qqb, qqc, qqd, qqe, qqf, qqg, qqh, qqi, qqj, qqk, qql, qqm, qqn, qqo, qqp, qqq, qqr, qqs, qqt, qqu, qqv, qqw, qqx, qqy, l1, l2, l3, e1, h3', h1', e3', e2, h4']
          rw [h1]
          exact ⟨_, _, _, rfl, o2, ⟨x1, p1, x2, p2, rfl, hq, w1, w2⟩, f2⟩
        · have h4' : ((exportShard s a.lo).1.epoch != a.epoch) = true := by simpa using h4
          rw [send_old h1 h4]
          simp only [run0, run1, run2, run3, run4, noSlot, ownS, ownK, memN, RO.dst, lk, drop, forget, number, Nat.reduceBEq, cut?, splice?, builds, Nat.reduceAdd, Nat.reduceLeDiff, ↓reduceIte, reduceCtorEq, qqa, qqb, qqc, qqd, qqe, qqf, qqg, qqh, qqi, qqj, qqk, qql, qqm, qqn, qqo, qqp, qqq, qqr, qqs, qqt, qqu, qqv, qqw, qqx, qqy, l1, l2, l3, e1, h3', h1', e3', e2, h4']
          exact ⟨_, _, _, rfl, o2, HandMsg.none_R _, Fre.nil h⟩
    · have h1' : (a.phase == 1) = false := by simpa using h1
      have e3' : ∀ h, call F Z 132 [.agg [.int .u64 a.lo, .int .i64 a.from_, .int .i64 a.to, .int .i64 a.epoch, .int .i64 a.phase]] h = some (.c (.int .i64 a.epoch), h) := fun h => by rw [e3 h]; simp only [handEp]; rw [if_neg h1]
      rw [send_other ha h3 h1]
      simp only [run0, run1, run2, run3, run4, noSlot, ownS, ownK, memN, RO.dst, lk, drop, forget, number, Nat.reduceBEq, cut?, splice?, builds, Nat.reduceAdd, Nat.reduceLeDiff, ↓reduceIte, reduceCtorEq, qqa, qqb, qqc, qqd, qqe, qqf, qqg, qqh, qqi, qqj, qqk, qql, qqm, qqn, qqo, qqp, qqq, qqr, qqs, qqt, qqu, qqv, qqw, qqx, qqy, l1, l2, l3, e1, h3', h1', e3']
      exact ⟨_, _, _, rfl, On.refl h, ⟨.nil, [], .nil, [], rfl, rfl, SlR.nil _ _ _, SlR.nil _ _ _⟩, Fre.nil h⟩
set_option maxHeartbeats 1000000 in
theorem sHandSend_c (k : KS F) (hS15 : Has F tS15) (hf : h.floor ≤ h.next) (a : Hand) (v : Store.RI h cs s fp) (ok : s.Ok) (sm : s.Small) :
    ∃ cs' h' fq, call F Z 303 [.agg a.enc, .agg cs] h = some (.tup [.agg cs', .c (.bool (handSend a s).2)], h') ∧ On h h' ∧ HandMsg.RI h' cs' (handSend a s).1 fq ∧ Fre h fq := by
  obtain ⟨l1, l2, l3⟩ := Store.lenI v
  have e1 := sHandOk_run (Z := Z) k.s01 hS15 a.lo a.from_ a.to a.epoch a.phase h
  obtain ⟨cs1, h1, fq, e2, o2, v2, f2⟩ := sExportShard_c (Z := Z) k hf v a.lo ok sm
  have hw := fun (hh : a.ok = true) => Hand.ok_epoch hh
  rw [call_run F Z (hS15.lk (g := 303) rfl) _ _ rfl]
  simp only [Hand.enc]
  cases ha : a.ok with
  | false =>
    rw [show handOk a.lo a.from_ a.to a.epoch a.phase = false from ha] at e1
    rw [send_bad ha]
    simp only [run0, run1, run2, run3, run4, noSlot, ownS, ownK, memN, RO.dst, lk, drop, forget, number, Nat.reduceBEq, cut?, splice?, builds, Nat.reduceAdd, Nat.reduceLeDiff, ↓reduceIte, reduceCtorEq, qqa, qqb, qqc, qqd, qqe, qqf, qqg, qqh, qqi, qqj, qqk, qql, qqm, qqn, qqo, qqp, qqq, qqr, qqs, qqt, qqu, qqv, qqw, qqx, qqy, l1, l2, l3, e1]
    exact ⟨_, _, _, rfl, On.refl h, HandMsg.none_R h, Fre.nil h⟩
  | true =>
    rw [show handOk a.lo a.from_ a.to a.epoch a.phase = true from ha] at e1
    by_cases h3 : a.phase = 3
    · rw [send_over h3]
      have h3t : (a.phase == 3) = true := by simpa using h3
      simp only [run0, run1, run2, run3, run4, noSlot, ownS, ownK, memN, RO.dst, lk, drop, forget, number, Nat.reduceBEq, cut?, splice?, builds, Nat.reduceAdd, Nat.reduceLeDiff, ↓reduceIte, reduceCtorEq, qqa, qqb, qqc, qqd, qqe, qqf, qqg, qqh, qqi, qqj, qqk, qql, qqm, qqn, qqo, qqp, qqq, qqr, qqs, qqt, qqu, qqv, qqw, qqx, qqy, l1, l2, l3, e1, h3t]
      exact ⟨_, _, _, rfl, On.refl h, HandMsg.none_R h, Fre.nil h⟩
    have h3' : (a.phase == 3) = false := by simpa using h3
    by_cases h1 : a.phase = 1
    · have h1' : (a.phase == 1) = true := by simpa using h1
      obtain ⟨m1, m2, m3⟩ := Shard.lenI v2
      cases hx : (exportShard s a.lo).2 with
      | false =>
        rw [hx] at e2
        rw [send_none h1 hx]
        simp only [run0, run1, run2, run3, run4, noSlot, ownS, ownK, memN, RO.dst, lk, drop, forget, number, Nat.reduceBEq, cut?, splice?, builds, Nat.reduceAdd, Nat.reduceLeDiff, ↓reduceIte, reduceCtorEq, qqa, qqb, qqc, qqd, qqe, qqf, qqg, qqh, qqi, qqj, qqk, qql, qqm, qqn, qqo, qqp, qqq, qqr, qqs, qqt, qqu, qqv, qqw, qqx, qqy, l1, l2, l3, e1, h3', h1', e2, m1, m2, m3]
        exact ⟨_, _, _, rfl, o2, HandMsg.none_R _, Fre.nil h⟩
      | true =>
        rw [hx] at e2
        have v2' := v2
        obtain ⟨x1, p1, x2, p2, rfl, hq, w1, w2⟩ := v2'
        by_cases h4 : (exportShard s a.lo).1.epoch = a.epoch
        · have h4' : ((exportShard s a.lo).1.epoch != a.epoch) = false := by simpa using h4
          rw [send_yes ha h1 hx h4]
          simp only [run0, run1, run2, run3, run4, noSlot, ownS, ownK, memN, RO.dst, lk, drop, forget, number, Nat.reduceBEq, cut?, splice?, builds, Nat.reduceAdd, Nat.reduceLeDiff, ↓reduceIte, reduceCtorEq, qqa, qqb, qqc, qqd, qqe, qqf, qqg, qqh, qqi, qqj, qqk, qql, qqm, qqn, qqo, qqp, qqq, qqr, qqs, qqt, qqu, qqv, qqw, qqx, qqy, l1, l2, l3, e1, h3', h1', e2, h4', hw ha]
          rw [h1]
          exact ⟨_, _, _, rfl, o2, ⟨x1, p1, x2, p2, rfl, hq, w1, w2⟩, f2⟩
        · have h4' : ((exportShard s a.lo).1.epoch != a.epoch) = true := by simpa using h4
          rw [send_old h1 h4]
          simp only [run0, run1, run2, run3, run4, noSlot, ownS, ownK, memN, RO.dst, lk, drop, forget, number, Nat.reduceBEq, cut?, splice?, builds, Nat.reduceAdd, Nat.reduceLeDiff, ↓reduceIte, reduceCtorEq, qqa, qqb, qqc, qqd, qqe, qqf, qqg, qqh, qqi, qqj, qqk, qql, qqm, qqn, qqo, qqp, qqq, qqr, qqs, qqt, qqu, qqv, qqw, qqx, qqy, l1, l2, l3, e1, h3', h1', e2, h4']
          exact ⟨_, _, _, rfl, o2, HandMsg.none_R _, Fre.nil h⟩
    · have h1' : (a.phase == 1) = false := by simpa using h1
      rw [send_other ha h3 h1]
      simp only [run0, run1, run2, run3, run4, noSlot, ownS, ownK, memN, RO.dst, lk, drop, forget, number, Nat.reduceBEq, cut?, splice?, builds, Nat.reduceAdd, Nat.reduceLeDiff, ↓reduceIte, reduceCtorEq, qqa, qqb, qqc, qqd, qqe, qqf, qqg, qqh, qqi, qqj, qqk, qql, qqm, qqn, qqo, qqp, qqq, qqr, qqs, qqt, qqu, qqv, qqw, qqx, qqy, l1, l2, l3, e1, h3', h1']
      exact ⟨_, _, _, rfl, On.refl h, ⟨.nil, [], .nil, [], rfl, rfl, SlR.nil _ _ _, SlR.nil _ _ _⟩, Fre.nil h⟩
theorem HandMsg.shardI (u : HandMsg.RI h ds m fq) : ∃ x1 x2, ds = [.int .i64 m.step, .int .u64 m.lo, .int .i64 m.to, .int .i64 m.epoch, .int .u64 m.shard.lo, .int .u64 m.shard.hi, .int .i64 m.shard.state, .int .i64 m.shard.epoch, x1, x2] ∧ Shard.RI h [.int .u64 m.shard.lo, .int .u64 m.shard.hi, .int .i64 m.shard.state, .int .i64 m.shard.epoch, x1, x2] m.shard fq := by
  obtain ⟨x1, p1, x2, p2, rfl, hq, w1, w2⟩ := u
  exact ⟨x1, x2, rfl, ⟨x1, p1, x2, p2, rfl, hq, w1, w2⟩⟩
set_option maxHeartbeats 1000000 in
theorem handTake_c (k : KI F) (hI15 : Has F tI15) (hL : Has F tLibslicesIndexFuncimplShardimplShard) (prd : PrimAt F Z 330 (delF 16)) (pri : PrimAt F Z 332 (insF 16 80)) (hf : h.floor ≤ h.next) (v : Store.RI h cs s fp) (u : HandMsg.RI h ds m fq) (ok : s.Ok) (sm : s.Small) (okm : m.Ok) (smm : m.Small) :
    ∃ cs' h' fq, call F Z 334 [.agg cs, .agg ds] h = some (.tup [.agg cs', .c (.bool (handTake s m).2)], h') ∧ On h h' ∧ Store.RI h' cs' (handTake s m).1 fq ∧ Fre h fq := by
  obtain ⟨x1, x2, rfl, ux⟩ := HandMsg.shardI u
  obtain ⟨cs0, h0, f0, e0, o0, v0, r0⟩ := copyStore_c (Z := Z) k hf v sm
  obtain ⟨cs1, h1, f1, e1, o1, v1, r1⟩ := FreezeShard_c (Z := Z) k hL hf v m.lo m.epoch ok sm
  obtain ⟨cs2, h2, f2, e2, o2, v2, r2⟩ := InstallShard_c (Z := Z) k pri hf v ux m.epoch ok sm okm.shard smm
  obtain ⟨cs3, h3, f3, e3, o3, v3, r3⟩ := RetireShard_c (Z := Z) k hL prd hf v m.lo m.epoch ok sm
  obtain ⟨a01, a02, a03⟩ := Store.lenI v0
  obtain ⟨a11, a12, a13⟩ := Store.lenI v1
  obtain ⟨a21, a22, a23⟩ := Store.lenI v2
  obtain ⟨a31, a32, a33⟩ := Store.lenI v3
  rw [call_run F Z (hI15.lk (g := 334) rfl) _ _ rfl]
  obtain ⟨y, p, rfl, _⟩ := v
  by_cases c0 : m.to = s.group
  · have c0' : (m.to != s.group) = false := by simpa using c0
    by_cases c1 : m.step = 0
    · have c1' : (m.step == 0) = true := by simpa using c1
      have hd : handTake s m = freezeShard s m.lo m.epoch := by simp [handTake, c0, c1]
      rw [hd]
      simp only [run0, run1, run2, run3, run4, noSlot, ownS, ownK, memN, RO.dst, lk, drop, forget, number, Nat.reduceBEq, cut?, splice?, builds, Nat.reduceAdd, Nat.reduceLeDiff, ↓reduceIte, reduceCtorEq, qqa, qqb, qqc, qqd, qqe, qqf, qqg, qqh, qqi, qqj, qqk, qql, qqm, qqn, qqo, qqp, qqq, qqr, qqs, qqt, qqu, qqv, qqw, qqx, qqy, c0', c1', e1, a11, a12, a13]
      exact ⟨_, _, _, rfl, o1, v1, r1⟩
    have c1' : (m.step == 0) = false := by simpa using c1
    by_cases c2 : m.step = 1
    · have c2' : (m.step == 1) = true := by simpa using c2
      have hd : handTake s m = installShard s m.shard m.epoch := by simp [handTake, c0, c2]
      rw [hd]
      simp only [run0, run1, run2, run3, run4, noSlot, ownS, ownK, memN, RO.dst, lk, drop, forget, number, Nat.reduceBEq, cut?, splice?, builds, Nat.reduceAdd, Nat.reduceLeDiff, ↓reduceIte, reduceCtorEq, qqa, qqb, qqc, qqd, qqe, qqf, qqg, qqh, qqi, qqj, qqk, qql, qqm, qqn, qqo, qqp, qqq, qqr, qqs, qqt, qqu, qqv, qqw, qqx, qqy, c0', c1', c2', e2, a21, a22, a23]
      exact ⟨_, _, _, rfl, o2, v2, r2⟩
    have c2' : (m.step == 1) = false := by simpa using c2
    by_cases c3 : m.step = 2
    · have c3' : (m.step == 2) = true := by simpa using c3
      have hd : handTake s m = retireShard s m.lo m.epoch := by simp [handTake, c0, c3]
      rw [hd]
      simp only [run0, run1, run2, run3, run4, noSlot, ownS, ownK, memN, RO.dst, lk, drop, forget, number, Nat.reduceBEq, cut?, splice?, builds, Nat.reduceAdd, Nat.reduceLeDiff, ↓reduceIte, reduceCtorEq, qqa, qqb, qqc, qqd, qqe, qqf, qqg, qqh, qqi, qqj, qqk, qql, qqm, qqn, qqo, qqp, qqq, qqr, qqs, qqt, qqu, qqv, qqw, qqx, qqy, c0', c1', c2', c3', e3, a31, a32, a33]
      exact ⟨_, _, _, rfl, o3, v3, r3⟩
    have c3' : (m.step == 2) = false := by simpa using c3
    have hd : handTake s m = (s, false) := by simp [handTake, c0, c1', c2', c3']
    rw [hd]
    simp only [run0, run1, run2, run3, run4, noSlot, ownS, ownK, memN, RO.dst, lk, drop, forget, number, Nat.reduceBEq, cut?, splice?, builds, Nat.reduceAdd, Nat.reduceLeDiff, ↓reduceIte, reduceCtorEq, qqa, qqb, qqc, qqd, qqe, qqf, qqg, qqh, qqi, qqj, qqk, qql, qqm, qqn, qqo, qqp, qqq, qqr, qqs, qqt, qqu, qqv, qqw, qqx, qqy, c0', c1', c2', c3', e0, a01, a02, a03]
    exact ⟨_, _, _, rfl, o0, v0, r0⟩
  · have c0' : (m.to != s.group) = true := by simpa using c0
    have hd : handTake s m = (s, false) := by
      have : (m.to == s.group) = false := by simpa using c0
      simp [handTake, this]
    rw [hd]
    simp only [run0, run1, run2, run3, run4, noSlot, ownS, ownK, memN, RO.dst, lk, drop, forget, number, Nat.reduceBEq, cut?, splice?, builds, Nat.reduceAdd, Nat.reduceLeDiff, ↓reduceIte, reduceCtorEq, qqa, qqb, qqc, qqd, qqe, qqf, qqg, qqh, qqi, qqj, qqk, qql, qqm, qqn, qqo, qqp, qqq, qqr, qqs, qqt, qqu, qqv, qqw, qqx, qqy, c0', e0, a01, a02, a03]
    exact ⟨_, _, _, rfl, o0, v0, r0⟩
set_option maxHeartbeats 1000000 in
theorem sHandTake_c (k : KS F) (hS15 : Has F tS15) (hf : h.floor ≤ h.next) (v : Store.RI h cs s fp) (u : HandMsg.RI h ds m fq) (ok : s.Ok) (sm : s.Small) (okm : m.Ok) (smm : m.Small) :
    ∃ cs' h' fq, call F Z 314 [.agg cs, .agg ds] h = some (.tup [.agg cs', .c (.bool (handTake s m).2)], h') ∧ On h h' ∧ Store.RI h' cs' (handTake s m).1 fq ∧ Fre h fq := by
  obtain ⟨x1, x2, rfl, ux⟩ := HandMsg.shardI u
  have cp : ∀ {cs1 : List Cell} {h1 : Heap} {t : Store} {f1 : List Nat}, On h h1 → Store.RI h1 cs1 t f1 → t.Small → ∃ cs2 h2 f2, call F Z 317 [.agg cs1] h1 = some (.agg cs2, h2) ∧ On h h2 ∧ Store.RI h2 cs2 t f2 ∧ Fre h f2 ∧ cs2.length = 3 ∧ cs2.take 3 = cs2 ∧ cs2.drop 3 = [] := fun {cs1 h1 t f1} o v sm => by
    obtain ⟨cs2, h2, f2, e, o2, v2, r2⟩ := l13Copy_c (Z := Z) k (o.le hf) v sm
    obtain ⟨a1, a2, a3⟩ := Store.lenI v2
    exact ⟨cs2, h2, f2, e, o.trans o2, v2, ⟨fun id hid => Nat.le_trans o.ext.1 (r2.lo id hid), r2.nd⟩, a1, a2, a3⟩
  obtain ⟨cs1, h1, f1, e1, o1, v1, r1⟩ := sFreezeShard_c (Z := Z) k hf v m.lo m.epoch ok sm
  obtain ⟨cs2, h2, f2, e2, o2, v2, r2⟩ := sInstallShard_c (Z := Z) k hf v ux m.epoch ok sm okm.shard smm
  obtain ⟨cs3, h3, f3, e3, o3, v3, r3⟩ := sRetireShard_c (Z := Z) k hf v m.lo m.epoch ok sm
  obtain ⟨b11, b12, b13⟩ := Store.lenI v1
  obtain ⟨b21, b22, b23⟩ := Store.lenI v2
  obtain ⟨b31, b32, b33⟩ := Store.lenI v3
  obtain ⟨ds0, g0, q0, c0, p0, u0, s0, a01, a02, a03⟩ := cp (On.refl h) v sm
  obtain ⟨ds1, g1, q1, c1, p1, u1, s1, a11, a12, a13⟩ := cp o1 v1 (freezeShard_small sm _ _)
  obtain ⟨ds2, g2, q2, c2, p2, u2, s2, a21, a22, a23⟩ := cp o2 v2 (installShard_small sm smm _)
  obtain ⟨ds3, g3, q3, c3, p3, u3, s3, a31, a32, a33⟩ := cp o3 v3 (retireShard_small sm _ _)
  clear cp
  rw [call_run F Z (hS15.lk (g := 314) rfl) _ _ rfl]
  obtain ⟨y, p, rfl, _⟩ := v
  by_cases d0 : m.to = s.group
  · have d0' : (s.group != m.to) = false := by simpa using d0.symm
    by_cases d1 : m.step = 0
    · have d1' : (m.step == 0) = true := by simpa using d1
      have hd : handTake s m = freezeShard s m.lo m.epoch := by simp [handTake, d0, d1]
      rw [hd]
      simp only [run0, run1, run2, run3, run4, noSlot, ownS, ownK, memN, RO.dst, lk, drop, forget, number, Nat.reduceBEq, cut?, splice?, builds, Nat.reduceAdd, Nat.reduceLeDiff, ↓reduceIte, reduceCtorEq, qqa, qqb, qqc, qqd, qqe, qqf, qqg, qqh, qqi, qqj, qqk, qql, qqm, qqn, qqo, qqp, qqq, qqr, qqs, qqt, qqu, qqv, qqw, qqx, qqy, d0', d1', e1, b11, b12, b13, c1, a11, a12, a13]
      exact ⟨_, _, _, rfl, p1, u1, s1⟩
    have d1' : (m.step == 0) = false := by simpa using d1
    by_cases d2 : m.step = 1
    · have d2' : (m.step == 1) = true := by simpa using d2
      have hd : handTake s m = installShard s m.shard m.epoch := by simp [handTake, d0, d2]
      rw [hd]
      simp only [run0, run1, run2, run3, run4, noSlot, ownS, ownK, memN, RO.dst, lk, drop, forget, number, Nat.reduceBEq, cut?, splice?, builds, Nat.reduceAdd, Nat.reduceLeDiff, ↓reduceIte, reduceCtorEq, qqa, qqb, qqc, qqd, qqe, qqf, qqg, qqh, qqi, qqj, qqk, qql, qqm, qqn, qqo, qqp, qqq, qqr, qqs, qqt, qqu, qqv, qqw, qqx, qqy, d0', d1', d2', e2, b21, b22, b23, c2, a21, a22, a23]
      exact ⟨_, _, _, rfl, p2, u2, s2⟩
    have d2' : (m.step == 1) = false := by simpa using d2
    by_cases d3 : m.step = 2
    · have d3' : (m.step == 2) = true := by simpa using d3
      have hd : handTake s m = retireShard s m.lo m.epoch := by simp [handTake, d0, d3]
      rw [hd]
      simp only [run0, run1, run2, run3, run4, noSlot, ownS, ownK, memN, RO.dst, lk, drop, forget, number, Nat.reduceBEq, cut?, splice?, builds, Nat.reduceAdd, Nat.reduceLeDiff, ↓reduceIte, reduceCtorEq, qqa, qqb, qqc, qqd, qqe, qqf, qqg, qqh, qqi, qqj, qqk, qql, qqm, qqn, qqo, qqp, qqq, qqr, qqs, qqt, qqu, qqv, qqw, qqx, qqy, d0', d1', d2', d3', e3, b31, b32, b33, c3, a31, a32, a33]
      exact ⟨_, _, _, rfl, p3, u3, s3⟩
    have d3' : (m.step == 2) = false := by simpa using d3
    have hd : handTake s m = (s, false) := by simp [handTake, d0, d1', d2', d3']
    rw [hd]
    simp only [run0, run1, run2, run3, run4, noSlot, ownS, ownK, memN, RO.dst, lk, drop, forget, number, Nat.reduceBEq, cut?, splice?, builds, Nat.reduceAdd, Nat.reduceLeDiff, ↓reduceIte, reduceCtorEq, qqa, qqb, qqc, qqd, qqe, qqf, qqg, qqh, qqi, qqj, qqk, qql, qqm, qqn, qqo, qqp, qqq, qqr, qqs, qqt, qqu, qqv, qqw, qqx, qqy, d0', d1', d2', d3', c0, a01, a02, a03]
    exact ⟨_, _, _, rfl, p0, u0, s0⟩
  · have d0' : (s.group != m.to) = true := by simpa using fun e => d0 e.symm
    have hd : handTake s m = (s, false) := by
      have : (m.to == s.group) = false := by simpa using d0
      simp [handTake, this]
    rw [hd]
    simp only [run0, run1, run2, run3, run4, noSlot, ownS, ownK, memN, RO.dst, lk, drop, forget, number, Nat.reduceBEq, cut?, splice?, builds, Nat.reduceAdd, Nat.reduceLeDiff, ↓reduceIte, reduceCtorEq, qqa, qqb, qqc, qqd, qqe, qqf, qqg, qqh, qqi, qqj, qqk, qql, qqm, qqn, qqo, qqp, qqq, qqr, qqs, qqt, qqu, qqv, qqw, qqx, qqy, d0', c0, a01, a02, a03]
    exact ⟨_, _, _, rfl, p0, u0, s0⟩
end
end Go.Proofs.Ytgfclcpnefinoaa.A
namespace Go.Proofs.Ytgfclcpnefinoaa.A
open Go
set_option linter.unusedSimpArgs false
set_option linter.unusedVariables false
theorem Shard.none_ok : Shard.none_.Ok := by constructor <;> simp [Shard.none_]; exact ⟨fun _ h => (nomatch h)⟩
theorem Store.at_ok' {s : Store} (ok : s.Ok) (i : Nat) : (Shard.at_ s.shards i).Ok := by
  by_cases hi : i < s.shards.length
  · exact Store.at_ok ok hi
  · rw [Shard.at_, List.getElem?_eq_none (by omega)]; exact Shard.none_ok
theorem Store.renew_ok {s : Store} (ok : s.Ok) {e : Int} (he : -9223372036854775808 ≤ e ∧ e ≤ 9223372036854775807) : (s.renew e).Ok := by
  refine ⟨ok.group, he, fun a ha => ?_⟩
  obtain ⟨t, ht, rfl⟩ := List.mem_map.1 (show a ∈ s.shards.map (Shard.renew e) from ha)
  have h := ok.shards t ht
  unfold Shard.renew
  cases (t.state == 0)
  · exact h
  · exact ⟨h.lo, h.hi, h.state, he, h.book, h.finished⟩
theorem freezeShard_ok {s : Store} (ok : s.Ok) (lo : Int) {e : Int} (he : -9223372036854775808 ≤ e ∧ e ≤ 9223372036854775807) : (freezeShard s lo e).1.Ok := by
  unfold freezeShard
  cases (s.next e && decide (0 ≤ findAt s.shards lo 0)) with
  | false => exact ok
  | true =>
    refine Store.renew_ok (s := s.frozen (findAt s.shards lo 0).toNat e) ⟨ok.group, ok.seen, fun a ha => ?_⟩ he
    rcases List.mem_or_eq_of_mem_set (show a ∈ s.shards.set _ _ from ha) with h | h
    · exact ok.shards a h
    · subst h
      have h := Store.at_ok' ok (findAt s.shards lo 0).toNat
      exact ⟨h.lo, h.hi, by simp, he, h.book, h.finished⟩
theorem installShard_ok {s : Store} (ok : s.Ok) {x : Shard} (okx : x.Ok) {e : Int} (he : -9223372036854775808 ≤ e ∧ e ≤ 9223372036854775807) : (installShard s x e).1.Ok := by
  unfold installShard
  cases (installable s x e && !(s.shards.any x.over)) with
  | false => exact ok
  | true =>
    refine Store.renew_ok (s := s.plus x) ⟨ok.group, ok.seen, fun a ha => ?_⟩ he
    simp only [Store.plus, List.mem_append, List.mem_singleton] at ha
    rcases ha with (ha | ha) | ha
    · exact ok.shards a (List.mem_of_mem_take ha)
    · subst ha; exact ⟨okx.lo, okx.hi, by simp [Shard.awake], okx.epoch, okx.book, okx.finished⟩
    · exact ok.shards a (List.mem_of_mem_drop ha)
theorem retireShard_ok {s : Store} (ok : s.Ok) (lo e : Int) : (retireShard s lo e).1.Ok := by
  unfold retireShard
  cases (s.good && (decide (0 ≤ findAt s.shards lo 1) && decide ((Shard.at_ s.shards (findAt s.shards lo 1).toNat).epoch = e))) with
  | false => exact ok
  | true => exact ⟨ok.group, ok.seen, fun a ha => ok.shards a (List.mem_of_mem_eraseIdx (show a ∈ s.shards.eraseIdx _ from ha))⟩
theorem exportShard_ok {s : Store} (ok : s.Ok) (lo : Int) : (exportShard s lo).1.Ok := by
  unfold exportShard
  cases (s.good && decide (0 ≤ findAt s.shards lo 1)) with
  | false => exact Shard.none_ok
  | true => exact Store.at_ok' ok _
theorem HandMsg.none_ok : HandMsg.none_.Ok := by
  refine ⟨by simp [HandMsg.none_], by simp [HandMsg.none_], by simp [HandMsg.none_], by simp [HandMsg.none_], Shard.none_ok⟩
theorem HandMsg.none_small : HandMsg.none_.Small := Shard.none_small
theorem Hand.ok_in {a : Hand} (h : a.ok = true) : (1 ≤ a.epoch ∧ a.epoch ≤ 999999) ∧ (0 ≤ a.phase ∧ a.phase ≤ 3) := by
  simp only [Hand.ok, handOk, inR, Bool.and_eq_true, decide_eq_true_eq] at h
  omega
theorem handSend_ok {a : Hand} (oka : a.Ok) {s : Store} (ok : s.Ok) : (handSend a s).1.Ok := by
  unfold handSend
  cases h0 : (a.ok && !(a.phase == 3)) <;> simp only [cond_true, cond_false]
  · exact HandMsg.none_ok
  simp only [Bool.and_eq_true] at h0
  obtain ⟨h1, h2⟩ := Hand.ok_in h0.1
  cases (a.phase == 1) <;> simp only [cond_true, cond_false]
  · exact ⟨oka.phase, oka.lo, oka.from_, oka.epoch, Shard.none_ok⟩
  cases ((exportShard s a.lo).2 && ((exportShard s a.lo).1.epoch == a.epoch)) <;> simp only [cond_true, cond_false]
  · exact HandMsg.none_ok
  · exact ⟨by simp, oka.lo, oka.to, by show -9223372036854775808 ≤ a.epoch + 1 ∧ a.epoch + 1 ≤ 9223372036854775807; omega, exportShard_ok ok _⟩
theorem handTake_ok {s : Store} (ok : s.Ok) {m : HandMsg} (okm : m.Ok) : (handTake s m).1.Ok := by
  unfold handTake
  cases (m.to == s.group) <;> simp only [cond_true, cond_false]
  · exact ok
  cases (m.step == 0) <;> simp only [cond_true, cond_false]
  · cases (m.step == 1) <;> simp only [cond_true, cond_false]
    · cases (m.step == 2) <;> simp only [cond_true, cond_false]
      · exact ok
      · exact retireShard_ok ok _ _
    · exact installShard_ok ok okm.shard okm.epoch
  · exact freezeShard_ok ok _ okm.epoch
theorem Hand.done_ok {a : Hand} (oka : a.Ok) (st lo ep : Int) : (a.done st lo ep).1.Ok := by
  unfold Hand.done
  split
  · rename_i h
    have h2 := (Hand.ok_in h.1).2
    exact ⟨oka.lo, oka.from_, oka.to, oka.epoch, by show -9223372036854775808 ≤ a.phase + 1 ∧ a.phase + 1 ≤ 9223372036854775807; omega⟩
  · exact oka
structure Play where
  hd : Hand
  a : Store
  b : Store
  net : List HandMsg
def HandMsg.at_ (xs : List HandMsg) (i : Nat) : HandMsg := xs[i]?.getD HandMsg.none_
theorem HandMsg.at_get {xs : List HandMsg} {i : Nat} (hi : i < xs.length) : HandMsg.at_ xs i = xs[i] := by simp [HandMsg.at_, List.getElem?_eq_getElem hi]
def Play.puts (p : Play) (m : HandMsg) : Play := bif decide (p.net.length < 40) then { p with net := p.net ++ [m] } else p
def Play.sends (p : Play) : Play := bif (handSend p.hd p.a).2 then p.puts (handSend p.hd p.a).1 else p
def Play.loses (p : Play) (k : Nat) : Play := { p with net := p.net.eraseIdx k }
def Play.goes (p : Play) (x : Bool) (m : HandMsg) : Play := bif x then { p with hd := (p.hd.done m.step m.lo m.epoch).1 } else p
def Play.takes (p : Play) (m : HandMsg) : Play :=
  bif m.to == p.hd.from_ then ({ p with a := (handTake p.a m).1 } : Play).goes (handTake p.a m).2 m else ({ p with b := (handTake p.b m).1 } : Play).goes (handTake p.b m).2 m
def place (o : Int) : Nat := ((o - 1).tdiv 3).toNat
def Play.step (p : Play) (o : Int) : Play :=
  if o = 0 then p.sends
  else if o < 0 ∨ p.net.length ≤ place o then p
  else if o.tmod 3 = 0 then p.puts (HandMsg.at_ p.net (place o))
  else if o.tmod 3 = 2 then p.loses (place o)
  else (p.loses (place o)).takes (HandMsg.at_ p.net (place o))
def playHand (h : Hand) (s t : Store) (ops : List Int) : Hand × Store × Store :=
  bif h.ok && (s.good && (t.good && (s.group == h.from_ && (t.group == h.to && decide (ops.length ≤ 200))))) then
    ((ops.foldl Play.step ⟨h, s, t, []⟩).hd, (ops.foldl Play.step ⟨h, s, t, []⟩).a, (ops.foldl Play.step ⟨h, s, t, []⟩).b)
  else (h, s, t)
structure Play.Ok (p : Play) : Prop where
  hd : p.hd.Ok
  a : p.a.Ok ∧ p.a.Small
  b : p.b.Ok ∧ p.b.Small
  net : p.net.length ≤ 40 ∧ ∀ m, m ∈ p.net → m.Ok ∧ m.Small
theorem Play.Ok.puts {p : Play} (w : p.Ok) {m : HandMsg} (hm : m.Ok ∧ m.Small) : (p.puts m).Ok := by
  unfold Play.puts
  by_cases hl : p.net.length < 40
  · simp only [hl, decide_true, cond_true]
    refine ⟨w.hd, w.a, w.b, by simp; omega, fun x hx => ?_⟩
    rcases List.mem_append.1 hx with hx | hx
    · exact w.net.2 x hx
    · simp at hx; subst hx; exact hm
  · simp only [hl, decide_false, cond_false]; exact w
theorem Play.Ok.loses {p : Play} (w : p.Ok) (k : Nat) : (p.loses k).Ok :=
  ⟨w.hd, w.a, w.b, Nat.le_trans (List.length_eraseIdx_le _ _) w.net.1, fun m hm => w.net.2 m (List.mem_of_mem_eraseIdx hm)⟩
theorem Play.Ok.goes {p : Play} (w : p.Ok) (x : Bool) (m : HandMsg) : (p.goes x m).Ok := by
  unfold Play.goes
  cases x
  · exact w
  · exact ⟨Hand.done_ok w.hd _ _ _, w.a, w.b, w.net⟩
theorem Play.Ok.takes {p : Play} (w : p.Ok) {m : HandMsg} (hm : m.Ok ∧ m.Small) : (p.takes m).Ok := by
  have wa : ({ p with a := (handTake p.a m).1 } : Play).Ok := ⟨w.hd, ⟨handTake_ok w.a.1 hm.1, handTake_small w.a.2 hm.2⟩, w.b, w.net⟩
  have wb : ({ p with b := (handTake p.b m).1 } : Play).Ok := ⟨w.hd, w.a, ⟨handTake_ok w.b.1 hm.1, handTake_small w.b.2 hm.2⟩, w.net⟩
  unfold Play.takes
  cases (m.to == p.hd.from_) with
  | true => exact wa.goes _ _
  | false => exact wb.goes _ _
theorem Play.Ok.at_ {p : Play} (w : p.Ok) {k : Nat} (hk : k < p.net.length) : (HandMsg.at_ p.net k).Ok ∧ (HandMsg.at_ p.net k).Small := by
  rw [HandMsg.at_get hk]; exact w.net.2 _ (List.getElem_mem hk)
theorem Play.Ok.step {p : Play} (w : p.Ok) (o : Int) : (p.step o).Ok := by
  unfold Play.step
  split
  · unfold Play.sends
    cases (handSend p.hd p.a).2
    · exact w
    · exact w.puts ⟨handSend_ok w.hd w.a.1, handSend_small w.a.2 _⟩
  split
  · exact w
  rename_i hk
  have hk : place o < p.net.length := by omega
  split
  · exact w.puts (w.at_ hk)
  split
  · exact w.loses _
  · exact (w.loses _).takes (w.at_ hk)
end Go.Proofs.Ytgfclcpnefinoaa.A
namespace Go.Proofs.Ytgfclcpnefinoaa.A
open Go
set_option linter.unusedSimpArgs false
set_option linter.unusedVariables false
section
variable {α : Type} {R : Rel α} {h : Heap} {tag tag' : Nat} {x : Cell} {xs : List α} {fp : List Nat}
theorem catH_keep (w : SlR tag R h x xs fp) (new : List (List Cell)) {id : Nat} (hid : id < h.next) (hn : id ∉ fp) : (catH h x new).get id = h.get id := by
  rcases w with ⟨_, ⟨rfl, _, _⟩ | ⟨k, rows, fps, rfl, _, _, rfl, _⟩⟩
  · simp only [catH]
    split
    · rfl
    · simp only [Heap.push]; rw [if_neg (by omega)]
  · have hk : id ≠ k := fun he => hn (by simp [he])
    show (if id = h.next then some (((h.get k).getD []) ++ new) else (if id = k then none else h.get id)) = h.get id
    rw [if_neg (by omega), if_neg hk]
theorem catH_next (h : Heap) (x : Cell) (new : List (List Cell)) : h.next ≤ (catH h x new).next := by
  unfold catH
  split
  · simp [Heap.push, Heap.kill]
  · split
    · exact Nat.le_refl _
    · simp [Heap.push]
theorem catX_sid (tag : Nat) (h : Heap) (x : Cell) : (catX tag h x 1).sid = h.next := by cases x <;> rfl
structure Beside {β : Type} (P : Rel β) (tag : Nat) (h0 g : Heap) (y : Cell) (rows : List (List Cell)) (cs : List Cell) (b : β) (fq : List Nat) : Prop where
  acc : Acc tag h0 g y rows
  v : P g cs b fq
  fr : Fre h0 fq
  dj : ∃ fy, SlR tag (Fl fun r => r) g y rows fy ∧ Fre h0 fy ∧ ∀ id, id ∈ fq → id ∉ fy
theorem Beside.step {β : Type} {P : Rel β} (okP : RelOk P) {h0 g g1 : Heap} {y : Cell} {rows : List (List Cell)} {cs cs1 : List Cell} {b b1 : β} {fq fq1 : List Nat} (w : Beside P tag h0 g y rows cs b fq) (hf : h0.floor ≤ h0.next) (hl : rows.length + 1 ≤ 140737488355328)
    (o : On g g1) (v1 : P g1 cs1 b1 fq1) (f1 : Fre g fq1) (row : List Cell) :
    Beside P tag h0 (catH (g1.push [row]) y [row]) (catX tag (g1.push [row]) y 1) (rows ++ [row]) cs1 b1 fq1 := by
  have a1 := w.acc.go o
  have a2 := a1.one hf hl row
  obtain ⟨fy, hy, fry, dj⟩ := w.dj
  have hy1 := hy.on (Fl.ok _) o
  have hyp := hy1.on (Fl.ok _) (On.push g1 [row])
  have hlt := okP.lt v1
  have hoff : ∀ id, id ∈ fq1 → id ∉ fy := fun id h1 h2 => by
    have := f1.lo id h1
    have := hy.lt (Fl.ok _) id h2
    omega
  refine ⟨a2, okP.mv v1 ?_ fun id hid => ?_, ⟨fun id hid => ?_, f1.nd⟩, ?_⟩
  · exact Nat.le_trans (by simp [Heap.push]) (catH_next (g1.push [row]) y [row])
  · have h1 := hlt id hid
    rw [catH_keep hyp [row] (by simp only [Heap.push]; omega) (hoff id hid)]
    simp only [Heap.push]; rw [if_neg (by omega)]
  · have := f1.lo id hid
    have := w.acc.on.ext.1
    omega
  · obtain ⟨fy2, q1, q2⟩ := a2.sh
    refine ⟨fy2, q1, q2, fun id h1 h2 => ?_⟩
    have h3 : id ∈ [(catX tag (g1.push [row]) y 1).sid] := by
      rcases q1.flat with ⟨_, h4, _⟩ | ⟨_, _, _, h4⟩
      · simp at h4
      · rw [← h4]; exact h2
    rw [catX_sid] at h3
    have := hlt id h1
    simp only [Heap.push, List.mem_cons, List.not_mem_nil, or_false] at h3
    omega
end
end Go.Proofs.Ytgfclcpnefinoaa.A
namespace Go.Proofs.Ytgfclcpnefinoaa.A
open Go
set_option linter.unusedSimpArgs false
set_option linter.unusedVariables false
theorem On.put_ {h g : Heap} (o : On h g) {k : Nat} (hk : h.next ≤ k) (rows : List (List Cell)) : On h (g.put k rows) := ⟨⟨o.ext.1, fun id hid => by
  rw [put_ne _ (by omega)]; exact o.ext.2 id hid⟩, o.fl⟩
structure Net {β : Type} (P : Rel β) (tag : Nat) (h0 g : Heap) (ks : List Nat) (y : Cell) (rows : List (List Cell)) (bs : List β) (fy : List Nat) : Prop where
  sl : SlR tag (Fl fun r => r) g y rows fy
  fre : Fre h0 fy
  on : On h0 g
  len : rows.length = bs.length
  ky : ∀ k, k ∈ ks → k ∉ fy ∧ k < g.next
  el : ∀ (i : Nat) (b : β), bs[i]? = some b → ∃ r f, rows[i]? = some r ∧ P g r b f ∧ ∀ id, id ∈ f → h0.next ≤ id ∧ id ∉ fy ∧ id ∉ ks
section
variable {β : Type} {P : Rel β} {tag : Nat} {h0 g g' : Heap} {ks : List Nat} {y z : Cell} {rows : List (List Cell)} {bs : List β} {fy fz : List Nat}
theorem Net.go (w : Net P tag h0 g ks y rows bs fy) (ok : RelOk P) (o : On g g') : Net P tag h0 g' ks y rows bs fy where
  sl := w.sl.on (Fl.ok _) o
  fre := w.fre
  on := w.on.trans o
  len := w.len
  ky := fun k hk => ⟨(w.ky k hk).1, Nat.lt_of_lt_of_le (w.ky k hk).2 o.ext.1⟩
  el := fun i b hb => by
    obtain ⟨r, f, q1, q2, q3⟩ := w.el i b hb
    exact ⟨r, f, q1, ok.on q2 o, q3⟩
theorem Net.of_re (w : Net P tag h0 g ks y rows bs fy) (ok : RelOk P) (re : Re g g' fy fz) {rows' : List (List Cell)} {bs' : List β} (s : SlR tag (Fl fun r => r) g' z rows' fz) (hl : rows'.length = bs'.length)
    (he : ∀ (i : Nat) (b : β), bs'[i]? = some b → (∃ j : Nat, bs[j]? = some b ∧ rows'[i]? = rows[j]?) ∨ ∃ r f, rows'[i]? = some r ∧ P g r b f ∧ ∀ id, id ∈ f → h0.next ≤ id ∧ id ∉ fy ∧ id ∉ ks) : Net P tag h0 g' ks z rows' bs' fz where
  sl := s
  fre := re.fre w.on w.fre
  on := re.on w.on w.fre
  len := hl
  ky := fun k hk => ⟨fun hz => by
    obtain ⟨q1, q2⟩ := w.ky k hk
    rcases re.of k hz with h | h
    · exact q1 h
    · omega, Nat.lt_of_lt_of_le (w.ky k hk).2 re.le⟩
  el := fun i b hb => by
    have key : ∃ r f, rows'[i]? = some r ∧ P g r b f ∧ ∀ id, id ∈ f → h0.next ≤ id ∧ id ∉ fy ∧ id ∉ ks := by
      rcases he i b hb with ⟨j, h1, h2⟩ | h
      · obtain ⟨r, f, q1, q2, q3⟩ := w.el j b h1
        exact ⟨r, f, h2.trans q1, q2, q3⟩
      · exact h
    obtain ⟨r, f, q1, q2, q3⟩ := key
    refine ⟨r, f, q1, ok.mv q2 re.le fun id hid => re.get id (ok.lt q2 id hid) (q3 id hid).2.1, fun id hid => ⟨(q3 id hid).1, fun hz => ?_, (q3 id hid).2.2⟩⟩
    have := ok.lt q2 id hid
    rcases re.of id hz with h | h
    · exact (q3 id hid).2.1 h
    · omega
theorem Net.push_ (w : Net P tag h0 g ks y rows bs fy) (ok : RelOk P) (hf : h0.floor ≤ h0.next) (hl : rows.length + 1 ≤ 140737488355328) {cs : List Cell} {b : β} {f : List Nat} (v : P g cs b f) (hv : ∀ id, id ∈ f → h0.next ≤ id ∧ id ∉ fy ∧ id ∉ ks) :
    ∃ fz, Net P tag h0 (catH (g.push [cs]) y [cs]) ks (catX tag (g.push [cs]) y 1) (rows ++ [cs]) (bs ++ [b]) fz ∧ Re g (catH (g.push [cs]) y [cs]) fy fz := by
  have a0 : Acc tag h0 g y rows := ⟨w.on, fy, w.sl, w.fre⟩
  have a := a0.one hf hl cs
  obtain ⟨fz, q1, q2⟩ := a.sh
  have hyp := w.sl.on (Fl.ok _) (On.push g [cs])
  have hz : ∀ id, id ∈ fz → id = g.next + 1 := fun id hid => by
    have h3 : id ∈ [(catX tag (g.push [cs]) y 1).sid] := by
      rcases q1.flat with ⟨_, h4, _⟩ | ⟨_, _, _, h4⟩
      · simp at h4
      · rw [← h4]; exact hid
    rw [catX_sid] at h3
    simpa [Heap.push] using h3
  have re : Re g (catH (g.push [cs]) y [cs]) fy fz := ⟨Nat.le_trans (by simp [Heap.push]) (catH_next (g.push [cs]) y [cs]), a.on.fl.trans w.on.fl.symm, fun id hid hn => by
    rw [catH_keep hyp [cs] (by simp only [Heap.push]; omega) hn]
    simp only [Heap.push]; rw [if_neg (by omega)], q2.nd, fun id hid => .inr (by have := hz id hid; omega)⟩
  refine ⟨fz, w.of_re ok re q1 (by simp [w.len]) fun i b' hb => ?_, re⟩
  by_cases hi : i < bs.length
  · rw [List.getElem?_append_left hi] at hb
    exact .inl ⟨i, hb, by rw [List.getElem?_append_left (by rw [w.len]; exact hi)]⟩
  · have hie : i = bs.length := by
      have := (List.getElem?_eq_some_iff.1 hb).1
      simp at this; omega
    subst hie
    right
    have hb' : b = b' := by simpa using hb
    subst hb'
    exact ⟨cs, f, by rw [← w.len]; simp, v, hv⟩
theorem Net.del (w : Net P tag h0 g ks y rows bs fy) (ok : RelOk P) (hf : h0.floor ≤ h0.next) {i : Nat} (hi : i < bs.length) :
    ∃ z g' fz, delF tag [.c y, .c (.int .i64 (i : Nat)), .c (.int .i64 ((i + 1 : Nat) : Int))] g = some (.c z, g') ∧ Net P tag h0 g' ks z (rows.eraseIdx i) (bs.eraseIdx i) fz ∧ Re g g' fy fz := by
  obtain ⟨z, g', fz, e, s, re⟩ := w.sl.del (Fl.ok _) w.fre.nd (fun id hid => by have := w.fre.lo id hid; have := w.on.fl; omega) (i := i) (by rw [w.len]; exact hi)
  refine ⟨z, g', fz, e, w.of_re ok re s (by rw [List.length_eraseIdx, List.length_eraseIdx, w.len]) fun j b hb => .inl ?_, re⟩
  rw [List.getElem?_eraseIdx] at hb
  rw [List.getElem?_eraseIdx]
  split at hb
  · rename_i h; rw [if_pos h]; exact ⟨j, hb, rfl⟩
  · rename_i h; rw [if_neg h]; exact ⟨j + 1, hb, rfl⟩
theorem Net.put (w : Net P tag h0 g ks y rows bs fy) (ok : RelOk P) {k : Nat} (hk : k ∈ ks) (h0k : h0.next ≤ k) (r : List (List Cell)) : Net P tag h0 (g.put k r) ks y rows bs fy where
  sl := w.sl.mv (Fl.ok _) (Nat.le_refl _) fun id hid => put_ne _ fun e => (w.ky k hk).1 (e ▸ hid)
  fre := w.fre
  on := w.on.put_ h0k r
  len := w.len
  ky := w.ky
  el := fun i b hb => by
    obtain ⟨r', f, q1, q2, q3⟩ := w.el i b hb
    exact ⟨r', f, q1, ok.mv q2 (Nat.le_refl _) fun id hid => put_ne _ fun e => (q3 id hid).2.2 (e ▸ hk), q3⟩
end
end Go.Proofs.Ytgfclcpnefinoaa.A
namespace Go.Proofs.Ytgfclcpnefinoaa.A
open Go
set_option linter.unusedSimpArgs false
set_option linter.unusedVariables false
structure IP (h0 g : Heap) (k5 k6 : Nat) (y : Cell) (ca cb : List Cell) (p : Play) (rows : List (List Cell)) (fy fa fb : List Nat) : Prop where
  net : Net HandMsg.RI 22 h0 g [k5, k6] y rows p.net fy
  ra : g.get k5 = some [ca]
  rb : g.get k6 = some [cb]
  va : Store.RI g ca p.a fa
  vb : Store.RI g cb p.b fb
  fra : Fre h0 fa
  frb : Fre h0 fb
  sa : ∀ id, id ∈ fa → id ∉ fy ∧ id ∉ [k5, k6]
  sb : ∀ id, id ∈ fb → id ∉ fy ∧ id ∉ [k5, k6]
  dj : ∀ id, id ∈ fa → id ∉ fb
  ne : k5 ≠ k6
  lo : h0.next ≤ k5 ∧ h0.next ≤ k6
  ok : p.Ok
section
variable {h0 g g' g1 : Heap} {k5 k6 : Nat} {y z : Cell} {ca cb cs : List Cell} {p : Play} {rows rows' : List (List Cell)} {fy fz fa fb fq : List Nat}
theorem IP.far5 (J : IP h0 g k5 k6 y ca cb p rows fy fa fb) : k5 ∉ fy ∧ k5 < g.next := J.net.ky k5 (by simp)
theorem IP.far6 (J : IP h0 g k5 k6 y ca cb p rows fy fa fb) : k6 ∉ fy ∧ k6 < g.next := J.net.ky k6 (by simp)
theorem IP.go (J : IP h0 g k5 k6 y ca cb p rows fy fa fb) (o : On g g') : IP h0 g' k5 k6 y ca cb p rows fy fa fb :=
  { J with
    net := J.net.go HandMsg.okI o
    ra := (o.ext.2 _ J.far5.2).trans J.ra
    rb := (o.ext.2 _ J.far6.2).trans J.rb
    va := Store.okI.on J.va o
    vb := Store.okI.on J.vb o }
theorem IP.re {l : List HandMsg} (J : IP h0 g k5 k6 y ca cb p rows fy fa fb) (re : Re g g' fy fz) (net : Net HandMsg.RI 22 h0 g' [k5, k6] z rows' l fz) (ok : ({ p with net := l } : Play).Ok) : IP h0 g' k5 k6 z ca cb { p with net := l } rows' fz fa fb :=
  { net := net
    ra := (re.get _ J.far5.2 J.far5.1).trans J.ra
    rb := (re.get _ J.far6.2 J.far6.1).trans J.rb
    va := Store.okI.mv J.va re.le fun id hid => re.get id (Store.okI.lt J.va id hid) (J.sa id hid).1
    vb := Store.okI.mv J.vb re.le fun id hid => re.get id (Store.okI.lt J.vb id hid) (J.sb id hid).1
    fra := J.fra
    frb := J.frb
    sa := fun id hid => ⟨fun hz => by
      have := Store.okI.lt J.va id hid
      rcases re.of id hz with h | h
      · exact (J.sa id hid).1 h
      · omega, (J.sa id hid).2⟩
    sb := fun id hid => ⟨fun hz => by
      have := Store.okI.lt J.vb id hid
      rcases re.of id hz with h | h
      · exact (J.sb id hid).1 h
      · omega, (J.sb id hid).2⟩
    dj := J.dj
    ne := J.ne
    lo := J.lo
    ok := ok }
theorem IP.setA {A : Store} (J : IP h0 g k5 k6 y ca cb p rows fy fa fb) (o : On g g1) (v : Store.RI g1 cs A fq) (f : Fre g fq) (ok : ({ p with a := A } : Play).Ok) : IP h0 (g1.put k5 [cs]) k5 k6 y cs cb { p with a := A } rows fy fq fb := by
  have W := J.go o
  have h5 := J.far5
  have h6 := J.far6
  have hn := J.net.on.ext.1
  exact
  { net := W.net.put HandMsg.okI (by simp) J.lo.1 _
    ra := by simp [Heap.put]
    rb := (put_ne _ (Ne.symm J.ne)).trans W.rb
    va := Store.okI.mv v (Nat.le_refl _) fun id hid => put_ne _ (by have := f.lo id hid; omega)
    vb := Store.okI.mv W.vb (Nat.le_refl _) fun id hid => put_ne _ fun e => (J.sb id hid).2 (by simp [e])
    fra := ⟨fun id hid => by have := f.lo id hid; omega, f.nd⟩
    frb := J.frb
    sa := fun id hid => ⟨fun hz => by have := f.lo id hid; have := J.net.sl.lt (Fl.ok _) id hz; omega, fun hz => by
      have := f.lo id hid
      simp only [List.mem_cons, List.not_mem_nil, or_false] at hz
      omega⟩
    sb := J.sb
    dj := fun id hid hb => by have := f.lo id hid; have := Store.okI.lt J.vb id hb; omega
    ne := J.ne
    lo := J.lo
    ok := ok }
theorem IP.setB {B : Store} (J : IP h0 g k5 k6 y ca cb p rows fy fa fb) (o : On g g1) (v : Store.RI g1 cs B fq) (f : Fre g fq) (ok : ({ p with b := B } : Play).Ok) : IP h0 (g1.put k6 [cs]) k5 k6 y ca cs { p with b := B } rows fy fa fq := by
  have W := J.go o
  have h5 := J.far5
  have h6 := J.far6
  have hn := J.net.on.ext.1
  exact
  { net := W.net.put HandMsg.okI (by simp) J.lo.2 _
    ra := (put_ne _ J.ne).trans W.ra
    rb := by simp [Heap.put]
    va := Store.okI.mv W.va (Nat.le_refl _) fun id hid => put_ne _ fun e => (J.sa id hid).2 (by simp [e])
    vb := Store.okI.mv v (Nat.le_refl _) fun id hid => put_ne _ (by have := f.lo id hid; omega)
    fra := J.fra
    frb := ⟨fun id hid => by have := f.lo id hid; omega, f.nd⟩
    sa := J.sa
    sb := fun id hid => ⟨fun hz => by have := f.lo id hid; have := J.net.sl.lt (Fl.ok _) id hz; omega, fun hz => by
      have := f.lo id hid
      simp only [List.mem_cons, List.not_mem_nil, or_false] at hz
      omega⟩
    dj := fun id hid hb => by have := f.lo id hb; have := Store.okI.lt J.va id hid; omega
    ne := J.ne
    lo := J.lo
    ok := ok }
theorem IP.setH {H : Hand} (J : IP h0 g k5 k6 y ca cb p rows fy fa fb) (ok : ({ p with hd := H } : Play).Ok) : IP h0 g k5 k6 y ca cb { p with hd := H } rows fy fa fb := { J with ok := ok }
end
end Go.Proofs.Ytgfclcpnefinoaa.A
namespace Go.Proofs.Ytgfclcpnefinoaa.A
open Go
set_option linter.unusedSimpArgs false
set_option linter.unusedVariables false
def int_enc (b : Int) : List Cell := [.int .i64 b]
theorem int_enc_len (b : Int) : (int_enc b).length = 1 := rfl
section
variable {F : Nat → Option RF} {Z : CallF} {h : Heap} {x y : Cell} {xs ys : List Int} {fp fq : List Nat}
theorem eqIntS_run (hL : Has F tLInt) (w : SlR 15 (Fl int_enc) h x xs fp) (v : SlR 15 (Fl int_enc) h y ys fq) : call F Z 285 [.c x, .c y] h = some (.c (.bool (decide (xs = ys))), h) := by
  have hw := w.le2
  have hv := v.le2
  rw [call_run F Z (hL.lk (g := 285) rfl) _ _ rfl]
  simp only [run0, run1, run2, run3, run4, noSlot, ownS, ownK, memN, RO.dst, lk, drop, forget, number, Nat.reduceBEq, cut?, splice?, builds, Nat.reduceAdd, Nat.reduceLeDiff, ↓reduceIte, reduceCtorEq, qqa, qqb, qqc, qqd, qqe, qqf, qqg, qqh, qqi, qqj, qqk, qql, qqm, qqn, qqo, qqp, qqq, qqr, qqs, qqt, qqu, qqv, qqw, qqx, qqy, w.len, v.len]
  rw [condC_if]
  split
  · rename_i hne
    have : xs ≠ ys := by rintro rfl; simp at hne
    simp only [run0, run1, run2, run3, run4, noSlot, ownS, ownK, memN, RO.dst, lk, drop, forget, number, Nat.reduceBEq, cut?, splice?, builds, Nat.reduceAdd, Nat.reduceLeDiff, ↓reduceIte, reduceCtorEq, qqa, qqb, qqc, qqd, qqe, qqf, qqg, qqh, qqi, qqj, qqk, qql, qqm, qqn, qqo, qqp, qqq, qqr, qqs, qqt, qqu, qqv, qqw, qqx, qqy, this]
  · rename_i he
    have he : xs.length = ys.length := by simp at he; omega
    simp only [run0, run1, run2, run3, run4, noSlot, ownS, ownK, memN, RO.dst, lk, drop, forget, number, Nat.reduceBEq, cut?, splice?, builds, Nat.reduceAdd, Nat.reduceLeDiff, ↓reduceIte, reduceCtorEq, qqa, qqb, qqc, qqd, qqe, qqf, qqg, qqh, qqi, qqj, qqk, qql, qqm, qqn, qqo, qqp, qqq, qqr, qqs, qqt, qqu, qqv, qqw, qqx, qqy]
    have key := loop_allN (F := F) (Z := Z) (live := [0, 1, 5]) (b := r285L0) xs.length (fun i => ⟨[(0, .c x), (1, .c y), (5, .c (.int .i64 (i : Nat)))], [], [], h⟩) (fun i => decide (xs[i]? = ys[i]?)) (fun s => lk s.env 4 = some (.c (.bool false)) ∧ s.hp = h) fun i hi => by
      have hi' : i < ys.length := by omega
      have hlt : (i : Int) < xs.length := by omega
      rw [loop_run]
      simp only [r285L0, run0, run1, run2, run3, run4, noSlot, ownS, ownK, memN, RO.dst, lk, drop, forget, number, Nat.reduceBEq, cut?, splice?, builds, Nat.reduceAdd, Nat.reduceLeDiff, ↓reduceIte, reduceCtorEq, qqa, qqb, qqc, qqd, qqe, qqf, qqg, qqh, qqi, qqj, qqk, qql, qqm, qqn, qqo, qqp, qqq, qqr, qqs, qqt, qqu, qqv, qqw, qqx, qqy, w.len, hlt, w.idx hi, v.idx hi', w.load hi, v.load hi', int_enc, wrapS i (by omega)]
      rw [List.getElem?_eq_getElem hi, List.getElem?_eq_getElem hi']
      (repeat' ((first | (rw [gF_if]; split) | (rw [condC_if]; split) | (rw [pickR_if]; split)) <;> (rename_i hh; (try simp only [Bool.not_eq_true, decide_eq_true_eq] at hh); simp only [hh, run0, run1, run2, run3, run4, noSlot, ownS, ownK, memN, RO.dst, lk, drop, forget, number, Nat.reduceBEq, cut?, splice?, builds, Nat.reduceAdd, Nat.reduceLeDiff, ↓reduceIte, reduceCtorEq, qqa, qqb, qqc, qqd, qqe, qqf, qqg, qqh, qqi, qqj, qqk, qql, qqm, qqn, qqo, qqp, qqq, qqr, qqs, qqt, qqu, qqv, qqw, qqx, qqy, wrapS i (by omega)])))
      · exact .inr ⟨by simp_all, _, rfl, rfl, rfl⟩
      · exact .inl ⟨by simp_all, rfl⟩
    rw [all_same he] at key
    rcases key with ⟨k1, k2⟩ | ⟨k1, s, k2, k3, k4⟩
    · simp only [show ((0 : Nat) : Int) = 0 from rfl] at k2
      rw [k2, loop_run]
      have hlt : ¬ (xs.length : Int) < xs.length := by omega
      simp only [r285L0, run0, run1, run2, run3, run4, noSlot, ownS, ownK, memN, RO.dst, lk, drop, forget, number, Nat.reduceBEq, cut?, splice?, builds, Nat.reduceAdd, Nat.reduceLeDiff, ↓reduceIte, reduceCtorEq, qqa, qqb, qqc, qqd, qqe, qqf, qqg, qqh, qqi, qqj, qqk, qql, qqm, qqn, qqo, qqp, qqq, qqr, qqs, qqt, qqu, qqv, qqw, qqx, qqy, w.len, hlt, k1]
    · simp only [show ((0 : Nat) : Int) = 0 from rfl] at k2
      rw [k2]
      simp only [run0, run1, run2, run3, run4, noSlot, ownS, ownK, memN, RO.dst, lk, drop, forget, number, Nat.reduceBEq, cut?, splice?, builds, Nat.reduceAdd, Nat.reduceLeDiff, ↓reduceIte, reduceCtorEq, qqa, qqb, qqc, qqd, qqe, qqf, qqg, qqh, qqi, qqj, qqk, qql, qqm, qqn, qqo, qqp, qqq, qqr, qqs, qqt, qqu, qqv, qqw, qqx, qqy, k3, k4, k1]
def int_mk (k : Int) : Int := k
def int_marks (n : Nat) (k : Int) : List Int := (List.range n).map fun i : Nat => int_mk (k + 1 * (i : Int))
theorem int_marks_len (n : Nat) (k : Int) : (int_marks n k).length = n := by simp [int_marks]
set_option maxHeartbeats 1000000 in
theorem markIntS_run (hL : Has F tLInt) (w : SlR 15 (Fl int_enc) h x xs fp) (hlo : ∀ id, id ∈ fp → h.floor ≤ id) (k : Int) (h1 : 0 ≤ k) (h2 : k + 1 * xs.length ≤ 9200000000000000000) :
    ∃ h', call F Z 287 [.c x, .c (.int .i64 k)] h = some (.c (.int .i64 (k + 1 * xs.length)), h') ∧ Mk h h' fp ∧ SlR 15 (Fl int_enc) h' x (int_marks xs.length k) fp := by
  have hle := w.le2
  have hlm := int_marks_len xs.length k
  rw [call_run F Z (hL.lk (g := 287) rfl) _ _ rfl]
  simp only [run0, run1, run2, run3, run4, noSlot, ownS, ownK, memN, RO.dst, lk, drop, forget, number, Nat.reduceBEq, cut?, splice?, builds, Nat.reduceAdd, Nat.reduceLeDiff, ↓reduceIte, reduceCtorEq, qqa, qqb, qqc, qqd, qqe, qqf, qqg, qqh, qqi, qqj, qqk, qql, qqm, qqn, qqo, qqp, qqq, qqr, qqs, qqt, qqu, qqv, qqw, qqx, qqy]
  rcases w.flat with ⟨rfl, rfl, rfl⟩ | ⟨hx, hg, hn, rfl⟩
  · rw [loop_run]
    simp only [r287L0, run0, run1, run2, run3, run4, noSlot, ownS, ownK, memN, RO.dst, lk, drop, forget, number, Nat.reduceBEq, cut?, splice?, builds, Nat.reduceAdd, Nat.reduceLeDiff, ↓reduceIte, reduceCtorEq, qqa, qqb, qqc, qqd, qqe, qqf, qqg, qqh, qqi, qqj, qqk, qql, qqm, qqn, qqo, qqp, qqq, qqr, qqs, qqt, qqu, qqv, qqw, qqx, qqy, show ¬ ((0 : Int) < 0) from by omega]
    exact ⟨h, by simp, Mk.refl _ _, by simpa [int_marks] using w⟩
  · have hfl : h.floor ≤ x.sid := hlo _ (by simp)
    have key : loop F Z [0, 1, 5] r287L0 ⟨[(0, .c x), (1, .c (.int .i64 (k + 1 * (0 : Nat)))), (5, .c (.int .i64 (0 : Nat)))], [], [], h.put x.sid (mixR int_enc (int_marks xs.length k) xs 0)⟩ = loop F Z [0, 1, 5] r287L0 ⟨[(0, .c x), (1, .c (.int .i64 (k + 1 * (xs.length : Nat)))), (5, .c (.int .i64 (xs.length : Nat)))], [], [], h.put x.sid (mixR int_enc (int_marks xs.length k) xs xs.length)⟩ :=
      loop_goesF xs.length (fun i => ⟨[(0, .c x), (1, .c (.int .i64 (k + 1 * (i : Nat)))), (5, .c (.int .i64 (i : Nat)))], [], [], h.put x.sid (mixR int_enc (int_marks xs.length k) xs i)⟩) fun i hi => by
        have hlt : (i : Int) < xs.length := by omega
        have hi2 : i < (mixR int_enc (int_marks xs.length k) xs i).length := by rw [mixR_len _ hlm]; exact hi
        have hms : (int_marks xs.length k)[i]'(by omega) = int_mk (k + 1 * i) := by simp [int_marks]
        have hset := mixR_set int_enc hlm hi
        rw [hms] at hset
        have hput := storeP_put (h := h) hfl hi2
        rw [← mixR_cur int_enc hlm hi, ← hset, loop_run]
        simp (disch := omega) only [r287L0, run0, run1, run2, run3, run4, noSlot, ownS, ownK, memN, RO.dst, lk, drop, forget, number, Nat.reduceBEq, cut?, splice?, builds, Nat.reduceAdd, Nat.reduceLeDiff, ↓reduceIte, reduceCtorEq, qqa, qqb, qqc, qqd, qqe, qqf, qqg, qqh, qqi, qqj, qqk, qql, qqm, qqn, qqo, qqp, qqq, qqr, qqs, qqt, qqu, qqv, qqw, qqx, qqy, w.len, hlt, w.idx hi, hput, putM_s, wrapI1, wrapU1, int_enc, b_rem, beq_self_eq_true, Int.reduceEq, int_mk]
        rw [show k + 1 * ((i : Nat) : Int) + 1 = k + 1 * ((i + 1 : Nat) : Int) from by omega, show ((i : Nat) : Int) + 1 = ((i + 1 : Nat) : Int) from rfl]
    rw [mixR_0, put_same hg, mixR_n _ hlm] at key
    simp only [show ((0 : Nat) : Int) = 0 from rfl, Int.mul_zero, Int.add_zero] at key
    rw [key, loop_run]
    have hlt : ¬ (xs.length : Int) < xs.length := by omega
    simp only [r287L0, run0, run1, run2, run3, run4, noSlot, ownS, ownK, memN, RO.dst, lk, drop, forget, number, Nat.reduceBEq, cut?, splice?, builds, Nat.reduceAdd, Nat.reduceLeDiff, ↓reduceIte, reduceCtorEq, qqa, qqb, qqc, qqd, qqe, qqf, qqg, qqh, qqi, qqj, qqk, qql, qqm, qqn, qqo, qqp, qqq, qqr, qqs, qqt, qqu, qqv, qqw, qqx, qqy, w.len, hlt]
    refine ⟨_, rfl, Mk.put _ _ _, ?_⟩
    have := SlR.ofFlat (tag := 15) (h := h.put x.sid ((int_marks xs.length k).map int_enc)) (enc := int_enc) (xs := int_marks xs.length k) (id := x.sid) (by rw [hlm]; exact w.le) (by simp [Heap.put]) hn
    rw [hlm, ← hx] at this
    exact this
end
end Go.Proofs.Ytgfclcpnefinoaa.A
namespace Go.Proofs.Ytgfclcpnefinoaa.A
open Go
set_option linter.unusedSimpArgs false
set_option linter.unusedVariables false
theorem store_row {h : Heap} {k : Nat} {old new : List Cell} (hf : h.floor ≤ k) (hg : h.get k = some [old]) (hl : new.length = old.length) : storeP h k 0 0 new = some (h.put k [new]) := by
  have := storeP_at (rows := [old]) (i := 0) (j := 0) (old := old) (new := new) (r := new) hf hg rfl (by simp [splice?, hl])
  simpa using this
theorem quiet_go {a hq : Heap} (o : On ⟨a.next, a.next, a.get⟩ hq) : On a (Heap.mk hq.next a.floor hq.get) := ⟨⟨o.ext.1, o.ext.2⟩, rfl⟩
def pst (x y : Cell) (k5 k6 n : Nat) (hd : Hand) (i : Nat) (g : Heap) : St :=
  ⟨[(5, .c (.ptr k5 0 0)), (6, .c (.ptr k6 0 0)), (11, .c y), (61, .c x), (62, .c (.int .i64 (n : Nat))), (63, .c (.int .i64 (i : Nat)))], [(4, 4, 0), (8, 8, 0), (9, 9, 0), (10, 10, 0)],
    [(4, hd.enc), (8, [.int .u64 0, .int .i64 0, .int .i64 0, .int .i64 0, .int .i64 0]), (9, [.int .i64 0, .int .i64 0, .nil]), (10, [.int .i64 0, .int .i64 0, .nil])], g⟩
section
variable {F : Nat → Option RF} {Z : CallF} {h0 g : Heap} {k5 k6 : Nat} {x y : Cell} {ca cb : List Cell} {p : Play} {rows : List (List Cell)} {fy fa fb fo : List Nat} {ops : List Int}
set_option maxHeartbeats 4000000 in
theorem play_send (k : KI F) (hI15 : Has F tI15) (hL : Has F tLibslicesIndexFuncimplShardimplShard) (hf : h0.floor ≤ h0.next) (J : IP h0 g k5 k6 y ca cb p rows fy fa fb) (w : SlR 15 (Fl int_enc) h0 x ops fo) {i : Nat} (hi : i < ops.length) (hl : ops.length ≤ 200) (ho : ops[i] = 0) :
    ∃ g' y' rows' fy', IP h0 g' k5 k6 y' ca cb p.sends rows' fy' fa fb ∧ loop F Z [4, 5, 6, 8, 9, 10, 11, 61, 62, 63] r368L0 (pst x y k5 k6 ops.length p.hd i g) = loop F Z [4, 5, 6, 8, 9, 10, 11, 61, 62, 63] r368L0 (pst x y' k5 k6 ops.length p.sends.hd (i + 1) g') := by
  have wg := w.on (Fl.ok _) J.net.on
  have hlt : (i : Int) < ops.length := by omega
  have hws := wrapS i (by omega)
  have hix := wg.idx hi
  have hld := wg.load hi
  rw [ho] at hld
  obtain ⟨l1, l2, l3⟩ := Store.lenI J.va
  have ld5 := fun j n => loadP_row J.ra (i := 0) rfl j n
  obtain ⟨cs, g1, fq, e1, o1, v1, f1⟩ := handSend_c (Z := Z) k hI15 hL (J.net.on.le hf) p.hd J.va J.ok.a.1 J.ok.a.2
  obtain ⟨a1, a2, a3⟩ := HandMsg.lenI v1
  have J1 := J.go o1
  have hlen := J1.net.sl.len
  have hrl := J.net.len
  have hcap := J.ok.net.1
  simp only [pst, Hand.enc] at *
  rw [loop_run]
  conv in (codeF _ _ r368L0 _) => unfold r368L0
  unfold Play.sends Play.puts
  cases hs : (handSend p.hd p.a).2 with
  | false =>
    simp only [hs] at e1
    refine ⟨g1, y, rows, fy, J1, ?_⟩
    simp only [run0, run1, run2, run3, run4, noSlot, ownS, ownK, memN, RO.dst, lk, drop, forget, number, Nat.reduceBEq, cut?, splice?, builds, Nat.reduceAdd, Nat.reduceLeDiff, ↓reduceIte, reduceCtorEq, qqa, qqb, qqc, qqd, qqe, qqf, qqg, qqh, qqi, qqj, qqk, qql, qqm, qqn, qqo, qqp, qqq, qqr, qqs, qqt, qqu, qqv, qqw, qqx, qqy, hlt, hix, hld, int_enc, show ((0 : Int) == 0) = true from rfl, ld5, l1, l2, l3, e1, a1, a2, a3, hws]
  | true =>
    simp only [hs] at e1
    by_cases h40 : p.net.length < 40
    · have h40' : (rows.length : Int) < 40 := by omega
      have eo := (show Acc 22 h0 g1 y rows from ⟨J1.net.on, fy, J1.net.sl, J1.net.fre⟩).one_eq hf (bytes := 112) (by omega) cs
      obtain ⟨fz, net', re⟩ := J1.net.push_ HandMsg.okI hf (by omega) v1 fun id hid => ⟨by have := f1.lo id hid; have := J.net.on.ext.1; omega, fun hz => by have := f1.lo id hid; have := J.net.sl.lt (Fl.ok _) id hz; omega, fun hz => by
        have := f1.lo id hid
        have := J.far5
        have := J.far6
        simp only [List.mem_cons, List.not_mem_nil, or_false] at hz
        omega⟩
      have ok' := J.ok.puts ⟨handSend_ok J.ok.hd J.ok.a.1, handSend_small J.ok.a.2 p.hd⟩
      unfold Play.puts at ok'
      simp only [h40, decide_true, cond_true] at ok' ⊢
      refine ⟨_, _, _, fz, J1.re re net' ok', ?_⟩
      simp only [run0, run1, run2, run3, run4, noSlot, ownS, ownK, memN, RO.dst, lk, drop, forget, number, Nat.reduceBEq, cut?, splice?, builds, Nat.reduceAdd, Nat.reduceLeDiff, ↓reduceIte, reduceCtorEq, qqa, qqb, qqc, qqd, qqe, qqf, qqg, qqh, qqi, qqj, qqk, qql, qqm, qqn, qqo, qqp, qqq, qqr, qqs, qqt, qqu, qqv, qqw, qqx, qqy, List.replicate_succ, List.replicate_zero, fills, and_self, List.set_cons_zero, List.set_cons_succ, Nat.reduceLT, Nat.zero_lt_succ, Nat.zero_lt_one, hlt, hix, hld, int_enc, show ((0 : Int) == 0) = true from rfl, ld5, l1, l2, l3, e1, a1, a2, a3, hlen, h40', eo, hws]
    · have h40' : ¬ (rows.length : Int) < 40 := by omega
      simp only [h40, decide_false, cond_false, cond_true]
      refine ⟨g1, y, rows, fy, J1, ?_⟩
      simp only [run0, run1, run2, run3, run4, noSlot, ownS, ownK, memN, RO.dst, lk, drop, forget, number, Nat.reduceBEq, cut?, splice?, builds, Nat.reduceAdd, Nat.reduceLeDiff, ↓reduceIte, reduceCtorEq, qqa, qqb, qqc, qqd, qqe, qqf, qqg, qqh, qqi, qqj, qqk, qql, qqm, qqn, qqo, qqp, qqq, qqr, qqs, qqt, qqu, qqv, qqw, qqx, qqy, List.replicate_succ, List.replicate_zero, fills, and_self, List.set_cons_zero, List.set_cons_succ, Nat.reduceLT, Nat.zero_lt_succ, Nat.zero_lt_one, hlt, hix, hld, int_enc, show ((0 : Int) == 0) = true from rfl, ld5, l1, l2, l3, e1, a1, a2, a3, hlen, h40', hws]
end
end Go.Proofs.Ytgfclcpnefinoaa.A
namespace Go.Proofs.Ytgfclcpnefinoaa.A
open Go
set_option linter.unusedSimpArgs false
set_option linter.unusedVariables false
theorem place_eq {o : Int} (h0 : ¬ o < 0) (h1 : o ≠ 0) (hb : o ≤ 9223372036854775807) : IntKind.i64.wrap (o - 1) = o - 1 ∧ IntKind.i64.wrap ((o - 1).tdiv 3) = ((place o : Nat) : Int) := by
  have e : (o - 1).tdiv 3 = (o - 1) / 3 := Int.tdiv_eq_ediv_of_nonneg (by omega)
  refine ⟨wrapI _ (by omega) (by omega), ?_⟩
  unfold place
  rw [e, wrapI _ (by omega) (by omega)]
  omega
section
variable {F : Nat → Option RF} {Z : CallF} {h0 g : Heap} {k5 k6 : Nat} {x y : Cell} {ca cb : List Cell} {p : Play} {rows : List (List Cell)} {fy fa fb fo : List Nat} {ops : List Int}
set_option maxHeartbeats 4000000 in
theorem play_pass (J : IP h0 g k5 k6 y ca cb p rows fy fa fb) (w : SlR 15 (Fl int_enc) h0 x ops fo) {i : Nat} (hi : i < ops.length) (hl : ops.length ≤ 200) (ho : ops[i] ≠ 0) (hb : ops[i] ≤ 9223372036854775807) (hp : ops[i] < 0 ∨ p.net.length ≤ place ops[i]) :
    loop F Z [4, 5, 6, 8, 9, 10, 11, 61, 62, 63] r368L0 (pst x y k5 k6 ops.length p.hd i g) = loop F Z [4, 5, 6, 8, 9, 10, 11, 61, 62, 63] r368L0 (pst x y k5 k6 ops.length p.hd (i + 1) g) := by
  have wg := w.on (Fl.ok _) J.net.on
  have hlt : (i : Int) < ops.length := by omega
  have hws := wrapS i (by omega)
  have hix := wg.idx hi
  have hld := wg.load hi
  have hlen := J.net.sl.len
  have hrl := J.net.len
  generalize ops[i] = o at *
  have hn0 : (o == 0) = false := by simpa using ho
  have bq := fun a => b_quo .i64 a 3 (by omega)
  simp only [pst, Hand.enc]
  rw [loop_run]
  conv in (codeF _ _ r368L0 _) => unfold r368L0
  by_cases hneg : o < 0
  · simp only [run0, run1, run2, run3, run4, noSlot, ownS, ownK, memN, RO.dst, lk, drop, forget, number, Nat.reduceBEq, cut?, splice?, builds, Nat.reduceAdd, Nat.reduceLeDiff, ↓reduceIte, reduceCtorEq, qqa, qqb, qqc, qqd, qqe, qqf, qqg, qqh, qqi, qqj, qqk, qql, qqm, qqn, qqo, qqp, qqq, qqr, qqs, qqt, qqu, qqv, qqw, qqx, qqy, hlt, hix, hld, int_enc, hn0, bq, hneg, hws]
  · obtain ⟨q1, q2⟩ := place_eq hneg ho hb
    have hge : (rows.length : Int) ≤ ((place o : Nat) : Int) := by omega
    have hge' : ((place o : Nat) : Int) ≥ (rows.length : Int) := hge
    simp only [run0, run1, run2, run3, run4, noSlot, ownS, ownK, memN, RO.dst, lk, drop, forget, number, Nat.reduceBEq, cut?, splice?, builds, Nat.reduceAdd, Nat.reduceLeDiff, ↓reduceIte, reduceCtorEq, qqa, qqb, qqc, qqd, qqe, qqf, qqg, qqh, qqi, qqj, qqk, qql, qqm, qqn, qqo, qqp, qqq, qqr, qqs, qqt, qqu, qqv, qqw, qqx, qqy, hlt, hix, hld, int_enc, hn0, bq, hneg, q1, q2, hlen, hge, hge', hws]
set_option maxHeartbeats 4000000 in
theorem play_copy (hf : h0.floor ≤ h0.next) (J : IP h0 g k5 k6 y ca cb p rows fy fa fb) (w : SlR 15 (Fl int_enc) h0 x ops fo) {i : Nat} (hi : i < ops.length) (hl : ops.length ≤ 200) (ho : ops[i] ≠ 0) (hb : ops[i] ≤ 9223372036854775807) (hneg : ¬ ops[i] < 0) (hk : place ops[i] < p.net.length) (h3 : ops[i].tmod 3 = 0) :
    ∃ g' y' rows' fy', IP h0 g' k5 k6 y' ca cb (p.puts (HandMsg.at_ p.net (place ops[i]))) rows' fy' fa fb ∧
      loop F Z [4, 5, 6, 8, 9, 10, 11, 61, 62, 63] r368L0 (pst x y k5 k6 ops.length p.hd i g) = loop F Z [4, 5, 6, 8, 9, 10, 11, 61, 62, 63] r368L0 (pst x y' k5 k6 ops.length (p.puts (HandMsg.at_ p.net (place ops[i]))).hd (i + 1) g') := by
  have wg := w.on (Fl.ok _) J.net.on
  have hlt : (i : Int) < ops.length := by omega
  have hws := wrapS i (by omega)
  have hix := wg.idx hi
  have hld := wg.load hi
  have hlen := J.net.sl.len
  have hrl := J.net.len
  have hcap := J.ok.net.1
  generalize ops[i] = o at *
  have hn0 : (o == 0) = false := by simpa using ho
  have bq := fun a => b_quo .i64 a 3 (by omega)
  have br := fun a => b_rem .i64 a 3 (by omega)
  obtain ⟨q1, q2⟩ := place_eq hneg ho hb
  have hge : ¬ (rows.length : Int) ≤ ((place o : Nat) : Int) := by omega
  have hge' : ¬ ((place o : Nat) : Int) ≥ (rows.length : Int) := hge
  have h30 : (o.tmod 3 == 0) = true := by simp [h3]
  have hokm := J.ok.at_ hk
  generalize place o = kk at *
  obtain ⟨r, f, hr, vr, hfr⟩ := J.net.el kk p.net[kk] (List.getElem?_eq_getElem hk)
  obtain ⟨b1, b2, b3⟩ := HandMsg.lenI vr
  have hkr : kk < rows.length := by omega
  have hrk : rows[kk] = r := by
    rw [List.getElem?_eq_getElem hkr] at hr; injection hr
  have hmx := J.net.sl.idx hkr
  have hml := J.net.sl.load hkr
  simp only [hrk] at hml
  rw [HandMsg.at_get hk] at hokm ⊢
  simp only [pst, Hand.enc]
  rw [loop_run]
  conv in (codeF _ _ r368L0 _) => unfold r368L0
  unfold Play.puts
  by_cases h40 : p.net.length < 40
  · have h40' : (rows.length : Int) < 40 := by omega
    have eo := (show Acc 22 h0 g y rows from ⟨J.net.on, fy, J.net.sl, J.net.fre⟩).one_eq hf (bytes := 112) (by omega) r
    obtain ⟨fz, net', re⟩ := J.net.push_ HandMsg.okI hf (by omega) vr hfr
    have ok' := J.ok.puts hokm
    unfold Play.puts at ok'
    simp only [h40, decide_true, cond_true] at ok' ⊢
    refine ⟨_, _, _, fz, J.re re net' ok', ?_⟩
    simp only [run0, run1, run2, run3, run4, noSlot, ownS, ownK, memN, RO.dst, lk, drop, forget, number, Nat.reduceBEq, cut?, splice?, builds, Nat.reduceAdd, Nat.reduceLeDiff, ↓reduceIte, reduceCtorEq, qqa, qqb, qqc, qqd, qqe, qqf, qqg, qqh, qqi, qqj, qqk, qql, qqm, qqn, qqo, qqp, qqq, qqr, qqs, qqt, qqu, qqv, qqw, qqx, qqy, List.replicate_succ, List.replicate_zero, fills, and_self, List.set_cons_zero, List.set_cons_succ, Nat.reduceLT, Nat.zero_lt_succ, Nat.zero_lt_one, hlt, hix, hld, int_enc, hn0, bq, br, hneg, q1, q2, hlen, hge, hge', hmx, hml, b1, b2, b3, h30, h40', eo, hws]
  · have h40' : ¬ (rows.length : Int) < 40 := by omega
    simp only [h40, decide_false, cond_false]
    refine ⟨g, y, rows, fy, J, ?_⟩
    simp only [run0, run1, run2, run3, run4, noSlot, ownS, ownK, memN, RO.dst, lk, drop, forget, number, Nat.reduceBEq, cut?, splice?, builds, Nat.reduceAdd, Nat.reduceLeDiff, ↓reduceIte, reduceCtorEq, qqa, qqb, qqc, qqd, qqe, qqf, qqg, qqh, qqi, qqj, qqk, qql, qqm, qqn, qqo, qqp, qqq, qqr, qqs, qqt, qqu, qqv, qqw, qqx, qqy, List.replicate_succ, List.replicate_zero, fills, and_self, List.set_cons_zero, List.set_cons_succ, Nat.reduceLT, Nat.zero_lt_succ, Nat.zero_lt_one, hlt, hix, hld, int_enc, hn0, bq, br, hneg, q1, q2, hlen, hge, hge', hmx, hml, b1, b2, b3, h30, h40', hws]
set_option maxHeartbeats 4000000 in
theorem play_lose (prm : PrimAt F Z 376 (delF 22)) (hf : h0.floor ≤ h0.next) (J : IP h0 g k5 k6 y ca cb p rows fy fa fb) (w : SlR 15 (Fl int_enc) h0 x ops fo) {i : Nat} (hi : i < ops.length) (hl : ops.length ≤ 200) (ho : ops[i] ≠ 0) (hb : ops[i] ≤ 9223372036854775807) (hneg : ¬ ops[i] < 0) (hk : place ops[i] < p.net.length) (h3 : ops[i].tmod 3 = 2) :
    ∃ g' y' rows' fy', IP h0 g' k5 k6 y' ca cb (p.loses (place ops[i])) rows' fy' fa fb ∧
      loop F Z [4, 5, 6, 8, 9, 10, 11, 61, 62, 63] r368L0 (pst x y k5 k6 ops.length p.hd i g) = loop F Z [4, 5, 6, 8, 9, 10, 11, 61, 62, 63] r368L0 (pst x y' k5 k6 ops.length (p.loses (place ops[i])).hd (i + 1) g') := by
  have wg := w.on (Fl.ok _) J.net.on
  have hlt : (i : Int) < ops.length := by omega
  have hws := wrapS i (by omega)
  have hix := wg.idx hi
  have hld := wg.load hi
  have hlen := J.net.sl.len
  have hrl := J.net.len
  have hcap := J.ok.net.1
  generalize ops[i] = o at *
  have hn0 : (o == 0) = false := by simpa using ho
  have bq := fun a => b_quo .i64 a 3 (by omega)
  have br := fun a => b_rem .i64 a 3 (by omega)
  obtain ⟨q1, q2⟩ := place_eq hneg ho hb
  have hge : ¬ (rows.length : Int) ≤ ((place o : Nat) : Int) := by omega
  have hge' : ¬ ((place o : Nat) : Int) ≥ (rows.length : Int) := hge
  have h30 : (o.tmod 3 == 0) = false := by simp [h3]
  have h32 : (o.tmod 3 == 2) = true := by simp [h3]
  generalize place o = kk at *
  have hwk := wrapS kk (by omega)
  obtain ⟨r, f, hr, vr, hfr⟩ := J.net.el kk p.net[kk] (List.getElem?_eq_getElem hk)
  obtain ⟨b1, b2, b3⟩ := HandMsg.lenI vr
  have hkr : kk < rows.length := by omega
  have hrk : rows[kk] = r := by
    rw [List.getElem?_eq_getElem hkr] at hr; injection hr
  have hmx := J.net.sl.idx hkr
  have hml := J.net.sl.load hkr
  simp only [hrk] at hml
  obtain ⟨z, g1, fz, ed, net', re⟩ := J.net.del HandMsg.okI hf hk
  have ec := (prm _ _).trans ed
  refine ⟨_, _, _, fz, J.re re net' (J.ok.loses kk), ?_⟩
  simp only [pst, Hand.enc, Play.loses]
  rw [loop_run]
  conv in (codeF _ _ r368L0 _) => unfold r368L0
  simp only [run0, run1, run2, run3, run4, noSlot, ownS, ownK, memN, RO.dst, lk, drop, forget, number, Nat.reduceBEq, cut?, splice?, builds, Nat.reduceAdd, Nat.reduceLeDiff, ↓reduceIte, reduceCtorEq, qqa, qqb, qqc, qqd, qqe, qqf, qqg, qqh, qqi, qqj, qqk, qql, qqm, qqn, qqo, qqp, qqq, qqr, qqs, qqt, qqu, qqv, qqw, qqx, qqy, List.replicate_succ, List.replicate_zero, fills, and_self, List.set_cons_zero, List.set_cons_succ, Nat.reduceLT, Nat.zero_lt_succ, Nat.zero_lt_one, hlt, hix, hld, int_enc, hn0, bq, br, hneg, q1, q2, hlen, hge, hge', hmx, hml, b1, b2, b3, h30, h32, hwk, ec, hws]
end
end Go.Proofs.Ytgfclcpnefinoaa.A
namespace Go.Proofs.Ytgfclcpnefinoaa.A
open Go
set_option linter.unusedSimpArgs false
set_option linter.unusedVariables false
section
variable {F : Nat → Option RF} {Z : CallF} {h0 g : Heap} {k5 k6 : Nat} {x y : Cell} {ca cb : List Cell} {p : Play} {rows : List (List Cell)} {fy fa fb fo : List Nat} {ops : List Int}
set_option maxHeartbeats 8000000 in
theorem play_take (k : KI F) (hI15 : Has F tI15) (hL : Has F tLibslicesIndexFuncimplShardimplShard) (prd : PrimAt F Z 330 (delF 16)) (pri : PrimAt F Z 332 (insF 16 80)) (prm : PrimAt F Z 376 (delF 22)) (hf : h0.floor ≤ h0.next) (J : IP h0 g k5 k6 y ca cb p rows fy fa fb) (w : SlR 15 (Fl int_enc) h0 x ops fo) {i : Nat} (hi : i < ops.length) (hl : ops.length ≤ 200) (ho : ops[i] ≠ 0) (hb : ops[i] ≤ 9223372036854775807) (hneg : ¬ ops[i] < 0) (hk : place ops[i] < p.net.length) (h3 : ops[i].tmod 3 ≠ 0) (h4 : ops[i].tmod 3 ≠ 2) :
    ∃ g' y' ca' cb' rows' fy' fa' fb', IP h0 g' k5 k6 y' ca' cb' ((p.loses (place ops[i])).takes (HandMsg.at_ p.net (place ops[i]))) rows' fy' fa' fb' ∧
      loop F Z [4, 5, 6, 8, 9, 10, 11, 61, 62, 63] r368L0 (pst x y k5 k6 ops.length p.hd i g) = loop F Z [4, 5, 6, 8, 9, 10, 11, 61, 62, 63] r368L0 (pst x y' k5 k6 ops.length ((p.loses (place ops[i])).takes (HandMsg.at_ p.net (place ops[i]))).hd (i + 1) g') := by
  have wg := w.on (Fl.ok _) J.net.on
  have hlt : (i : Int) < ops.length := by omega
  have hws := wrapS i (by omega)
  have hix := wg.idx hi
  have hld := wg.load hi
  have hlen := J.net.sl.len
  have hrl := J.net.len
  have hcap := J.ok.net.1
  generalize ops[i] = o at *
  have hn0 : (o == 0) = false := by simpa using ho
  have bq := fun a => b_quo .i64 a 3 (by omega)
  have br := fun a => b_rem .i64 a 3 (by omega)
  obtain ⟨q1, q2⟩ := place_eq hneg ho hb
  have hge : ¬ (rows.length : Int) ≤ ((place o : Nat) : Int) := by omega
  have hge' : ¬ ((place o : Nat) : Int) ≥ (rows.length : Int) := hge
  have h30 : (o.tmod 3 == 0) = false := by simpa using h3
  have h32 : (o.tmod 3 == 2) = false := by simpa using h4
  have hokm := J.ok.at_ hk
  generalize place o = kk at *
  have hwk := wrapS kk (by omega)
  obtain ⟨r, f, hr, vr, hfr⟩ := J.net.el kk p.net[kk] (List.getElem?_eq_getElem hk)
  have hkr : kk < rows.length := by omega
  have hrk : rows[kk] = r := by
    rw [List.getElem?_eq_getElem hkr] at hr; injection hr
  have hmx := J.net.sl.idx hkr
  have hml := J.net.sl.load hkr
  simp only [hrk] at hml
  rw [HandMsg.at_get hk] at hokm ⊢
  obtain ⟨z, g1, fz, ed, net', re⟩ := J.net.del HandMsg.okI hf hk
  have ec := (prm _ _).trans ed
  have J1 : IP h0 g1 k5 k6 z ca cb (p.loses kk) (rows.eraseIdx kk) fz fa fb := J.re re net' (J.ok.loses kk)
  have v1 : HandMsg.RI g1 r p.net[kk] f := HandMsg.okI.mv vr re.le fun id hid => re.get id (HandMsg.okI.lt vr id hid) (hfr id hid).2.1
  have hks : ∀ id, id ∈ f → id ≠ k5 ∧ id ≠ k6 := fun id hid => by
    have := (hfr id hid).2.2
    simpa using this
  generalize p.net[kk] = m at *
  have hhd : (p.loses kk).hd = p.hd := rfl
  rw [← hhd]
  generalize p.loses kk = P at *
  clear re net' J wg
  obtain ⟨b1, b2, b3⟩ := HandMsg.lenI v1
  have hg1 := J1.net.on.le hf
  obtain ⟨mx1, mx2, hmr⟩ : ∃ c1 c2, r = [.int .i64 m.step, .int .u64 m.lo, .int .i64 m.to, .int .i64 m.epoch, .int .u64 m.shard.lo, .int .u64 m.shard.hi, .int .i64 m.shard.state, .int .i64 m.shard.epoch, c1, c2] := by
    obtain ⟨c1, _, c2, _, e, _⟩ := v1
    exact ⟨c1, c2, e⟩
  subst hmr
  clear b1 b2 b3
  unfold Play.takes Play.goes
  by_cases hto : m.to = P.hd.from_
  · have hto' : (m.to == P.hd.from_) = true := by simpa using hto
    obtain ⟨l1, l2, l3⟩ := Store.lenI J1.va
    obtain ⟨cs, hq, fq, e2, o2, v2, f2⟩ := handTake_c (Z := Z) (h := ⟨g1.next, g1.next, g1.get⟩) k hI15 hL prd pri (Nat.le_refl _) (Store.okI.up J1.va _) (HandMsg.okI.up v1 _) J1.ok.a.1 J1.ok.a.2 hokm.1 hokm.2
    have p2 := quiet_go o2
    have w2 := Store.okI.up v2 g1.floor
    obtain ⟨g2, m2⟩ : ∃ g', Heap.mk hq.next g1.floor hq.get = g' := ⟨_, rfl⟩
    rw [m2] at p2 w2
    obtain ⟨a1, a2, a3⟩ := Store.lenI w2
    have J2 := J1.go p2
    have J3 := J1.setA p2 w2 ⟨f2.lo, f2.nd⟩ ⟨J1.ok.hd, ⟨handTake_ok J1.ok.a.1 hokm.1, handTake_small J1.ok.a.2 hokm.2⟩, J1.ok.b, J1.ok.net⟩
    have ld := fun j n => loadP_row J1.ra (i := 0) rfl j n
    have st := store_row (new := cs) (by have := J2.net.on.fl; have := J2.lo; omega) J2.ra (by rw [l1, a1])
    have v3 := HandMsg.okI.mv (HandMsg.okI.on v1 p2) (h' := g2.put k5 [cs]) (Nat.le_refl _) fun id hid => put_ne _ (hks id hid).1
    have e3 := handDone_run (Z := Z) k.i11 hI15 P.hd v3
    simp only [Hand.enc] at e3
    cases ht : (handTake P.a m).2 with
    | false =>
      simp only [ht] at e2
      simp only [hto', cond_true, cond_false]
      refine ⟨_, _, _, _, _, _, _, _, J3, ?_⟩
      simp only [pst, Hand.enc]
      rw [loop_run]
      conv in (codeF _ _ r368L0 _) => unfold r368L0
      simp only [run0, run1, run2, run3, run4, noSlot, ownS, ownK, memN, RO.dst, lk, drop, forget, number, Nat.reduceBEq, cut?, splice?, builds, Nat.reduceAdd, Nat.reduceLeDiff, ↓reduceIte, reduceCtorEq, qqa, qqb, qqc, qqd, qqe, qqf, qqg, qqh, qqi, qqj, qqk, qql, qqm, qqn, qqo, qqp, qqq, qqr, qqs, qqt, qqu, qqv, qqw, qqx, qqy, List.replicate_succ, List.replicate_zero, fills, and_self, List.set_cons_zero, List.set_cons_succ, Nat.reduceLT, Nat.zero_lt_succ, Nat.zero_lt_one, hlt, hix, hld, int_enc, hn0, bq, br, hneg, q1, q2, hlen, hge, hge', hmx, hml, h30, h32, hwk, ec, hto', ld, l1, l2, l3, e2, m2, a1, a2, a3, st, hws]
    | true =>
      simp only [ht] at e2
      simp only [hto', cond_true, cond_false]
      refine ⟨_, _, _, _, _, _, _, _, J3.setH ⟨Hand.done_ok J3.ok.hd _ _ _, J3.ok.a, J3.ok.b, J3.ok.net⟩, ?_⟩
      simp only [pst, Hand.enc]
      rw [loop_run]
      conv in (codeF _ _ r368L0 _) => unfold r368L0
      simp only [run0, run1, run2, run3, run4, noSlot, ownS, ownK, memN, RO.dst, lk, drop, forget, number, Nat.reduceBEq, cut?, splice?, builds, Nat.reduceAdd, Nat.reduceLeDiff, ↓reduceIte, reduceCtorEq, qqa, qqb, qqc, qqd, qqe, qqf, qqg, qqh, qqi, qqj, qqk, qql, qqm, qqn, qqo, qqp, qqq, qqr, qqs, qqt, qqu, qqv, qqw, qqx, qqy, List.replicate_succ, List.replicate_zero, fills, and_self, List.set_cons_zero, List.set_cons_succ, Nat.reduceLT, Nat.zero_lt_succ, Nat.zero_lt_one, hlt, hix, hld, int_enc, hn0, bq, br, hneg, q1, q2, hlen, hge, hge', hmx, hml, h30, h32, hwk, ec, hto', ld, l1, l2, l3, e2, m2, a1, a2, a3, st, e3, hws]
  · have hto' : (m.to == P.hd.from_) = false := by simpa using hto
    obtain ⟨l1, l2, l3⟩ := Store.lenI J1.vb
    obtain ⟨cs, hq, fq, e2, o2, v2, f2⟩ := handTake_c (Z := Z) (h := ⟨g1.next, g1.next, g1.get⟩) k hI15 hL prd pri (Nat.le_refl _) (Store.okI.up J1.vb _) (HandMsg.okI.up v1 _) J1.ok.b.1 J1.ok.b.2 hokm.1 hokm.2
    have p2 := quiet_go o2
    have w2 := Store.okI.up v2 g1.floor
    obtain ⟨g2, m2⟩ : ∃ g', Heap.mk hq.next g1.floor hq.get = g' := ⟨_, rfl⟩
    rw [m2] at p2 w2
    obtain ⟨a1, a2, a3⟩ := Store.lenI w2
    have J2 := J1.go p2
    have J3 := J1.setB p2 w2 ⟨f2.lo, f2.nd⟩ ⟨J1.ok.hd, J1.ok.a, ⟨handTake_ok J1.ok.b.1 hokm.1, handTake_small J1.ok.b.2 hokm.2⟩, J1.ok.net⟩
    have ld := fun j n => loadP_row J1.rb (i := 0) rfl j n
    have st := store_row (new := cs) (by have := J2.net.on.fl; have := J2.lo; omega) J2.rb (by rw [l1, a1])
    have v3 := HandMsg.okI.mv (HandMsg.okI.on v1 p2) (h' := g2.put k6 [cs]) (Nat.le_refl _) fun id hid => put_ne _ (hks id hid).2
    have e3 := handDone_run (Z := Z) k.i11 hI15 P.hd v3
    simp only [Hand.enc] at e3
    cases ht : (handTake P.b m).2 with
    | false =>
      simp only [ht] at e2
      simp only [hto', cond_true, cond_false]
      refine ⟨_, _, _, _, _, _, _, _, J3, ?_⟩
      simp only [pst, Hand.enc]
      rw [loop_run]
      conv in (codeF _ _ r368L0 _) => unfold r368L0
      simp only [run0, run1, run2, run3, run4, noSlot, ownS, ownK, memN, RO.dst, lk, drop, forget, number, Nat.reduceBEq, cut?, splice?, builds, Nat.reduceAdd, Nat.reduceLeDiff, ↓reduceIte, reduceCtorEq, qqa, qqb, qqc, qqd, qqe, qqf, qqg, qqh, qqi, qqj, qqk, qql, qqm, qqn, qqo, qqp, qqq, qqr, qqs, qqt, qqu, qqv, qqw, qqx, qqy, List.replicate_succ, List.replicate_zero, fills, and_self, List.set_cons_zero, List.set_cons_succ, Nat.reduceLT, Nat.zero_lt_succ, Nat.zero_lt_one, hlt, hix, hld, int_enc, hn0, bq, br, hneg, q1, q2, hlen, hge, hge', hmx, hml, h30, h32, hwk, ec, hto', ld, l1, l2, l3, e2, m2, a1, a2, a3, st, hws]
    | true =>
      simp only [ht] at e2
      simp only [hto', cond_true, cond_false]
      refine ⟨_, _, _, _, _, _, _, _, J3.setH ⟨Hand.done_ok J3.ok.hd _ _ _, J3.ok.a, J3.ok.b, J3.ok.net⟩, ?_⟩
      simp only [pst, Hand.enc]
      rw [loop_run]
      conv in (codeF _ _ r368L0 _) => unfold r368L0
      simp only [run0, run1, run2, run3, run4, noSlot, ownS, ownK, memN, RO.dst, lk, drop, forget, number, Nat.reduceBEq, cut?, splice?, builds, Nat.reduceAdd, Nat.reduceLeDiff, ↓reduceIte, reduceCtorEq, qqa, qqb, qqc, qqd, qqe, qqf, qqg, qqh, qqi, qqj, qqk, qql, qqm, qqn, qqo, qqp, qqq, qqr, qqs, qqt, qqu, qqv, qqw, qqx, qqy, List.replicate_succ, List.replicate_zero, fills, and_self, List.set_cons_zero, List.set_cons_succ, Nat.reduceLT, Nat.zero_lt_succ, Nat.zero_lt_one, hlt, hix, hld, int_enc, hn0, bq, br, hneg, q1, q2, hlen, hge, hge', hmx, hml, h30, h32, hwk, ec, hto', ld, l1, l2, l3, e2, m2, a1, a2, a3, st, e3, hws]
end
end Go.Proofs.Ytgfclcpnefinoaa.A
namespace Go.Proofs.Ytgfclcpnefinoaa.A
open Go
set_option linter.unusedSimpArgs false
set_option linter.unusedVariables false
section
variable {F : Nat → Option RF} {Z : CallF} {h h0 g : Heap} {k5 k6 : Nat} {x y : Cell} {ca cb : List Cell} {p : Play} {rows : List (List Cell)} {fy fa fb fo : List Nat} {ops : List Int} {A B : Store}
theorem play_turn (k : KI F) (hI15 : Has F tI15) (hL : Has F tLibslicesIndexFuncimplShardimplShard) (prd : PrimAt F Z 330 (delF 16)) (pri : PrimAt F Z 332 (insF 16 80)) (prm : PrimAt F Z 376 (delF 22)) (hf : h0.floor ≤ h0.next) (J : IP h0 g k5 k6 y ca cb p rows fy fa fb) (w : SlR 15 (Fl int_enc) h0 x ops fo) {i : Nat} (hi : i < ops.length) (hl : ops.length ≤ 200) (hb : ops[i] ≤ 9223372036854775807) :
    ∃ g' y' ca' cb' rows' fy' fa' fb', IP h0 g' k5 k6 y' ca' cb' (p.step ops[i]) rows' fy' fa' fb' ∧
      loop F Z [4, 5, 6, 8, 9, 10, 11, 61, 62, 63] r368L0 (pst x y k5 k6 ops.length p.hd i g) = loop F Z [4, 5, 6, 8, 9, 10, 11, 61, 62, 63] r368L0 (pst x y' k5 k6 ops.length (p.step ops[i]).hd (i + 1) g') := by
  unfold Play.step
  split
  · rename_i ho
    obtain ⟨g', y', rows', fy', J', e⟩ := play_send (F := F) (Z := Z) k hI15 hL hf J w hi hl ho
    exact ⟨g', y', ca, cb, rows', fy', fa, fb, J', e⟩
  rename_i ho
  split
  · rename_i hp
    exact ⟨g, y, ca, cb, rows, fy, fa, fb, J, play_pass (F := F) (Z := Z) J w hi hl ho hb hp⟩
  rename_i hp
  have hneg : ¬ ops[i] < 0 := fun h => hp (.inl h)
  have hk : place ops[i] < p.net.length := by omega
  split
  · rename_i h3
    obtain ⟨g', y', rows', fy', J', e⟩ := play_copy (F := F) (Z := Z) hf J w hi hl ho hb hneg hk h3
    exact ⟨g', y', ca, cb, rows', fy', fa, fb, J', e⟩
  rename_i h3
  split
  · rename_i h4
    obtain ⟨g', y', rows', fy', J', e⟩ := play_lose (F := F) (Z := Z) prm hf J w hi hl ho hb hneg hk h4
    exact ⟨g', y', ca, cb, rows', fy', fa, fb, J', e⟩
  · rename_i h4
    exact play_take (F := F) (Z := Z) k hI15 hL prd pri prm hf J w hi hl ho hb hneg hk h3 h4
set_option maxHeartbeats 8000000 in
theorem PlayHand_c (k : KI F) (hI15 : Has F tI15) (hL : Has F tLibslicesIndexFuncimplShardimplShard) (prd : PrimAt F Z 330 (delF 16)) (pri : PrimAt F Z 332 (insF 16 80)) (prm : PrimAt F Z 376 (delF 22)) (hf : h.floor ≤ h.next) (H : Hand) (okH : H.Ok) (va : Store.RI h ca A fa) (vb : Store.RI h cb B fb) (w : SlR 15 (Fl int_enc) h x ops fo) (okA : A.Ok) (smA : A.Small) (okB : B.Ok) (smB : B.Small) (hb : ∀ z, z ∈ ops → z ≤ 9223372036854775807) :
    ∃ ca' cb' h' f1 f2, call F Z 368 [.agg H.enc, .agg ca, .agg cb, .c x] h = some (.tup [.agg (playHand H A B ops).1.enc, .agg ca', .agg cb'], h') ∧ On h h' ∧ Store.RI h' ca' (playHand H A B ops).2.1 f1 ∧ Store.RI h' cb' (playHand H A B ops).2.2 f2 ∧ Fre h f1 ∧ Fre h f2 ∧ ∀ id, id ∈ f1 → id ∉ f2 := by
  obtain ⟨l1, l2, l3⟩ := Store.lenI va
  obtain ⟨n1, n2, n3⟩ := Store.lenI vb
  -- two rows for the two stores
  obtain ⟨k5, hk5⟩ : ∃ k, h.next = k := ⟨_, rfl⟩
  have o1 := On.push h [ca]
  have ga : (h.push [ca]).get k5 = some [ca] := by rw [← hk5]; exact push_get _ _
  have hn1 : (h.push [ca]).next = k5 + 1 := by rw [← hk5]; rfl
  obtain ⟨h1, m1⟩ : ∃ h1, h.push [ca] = h1 := ⟨_, rfl⟩
  rw [m1] at o1 ga hn1
  have o2 := On.push h1 [cb]
  have gb : (h1.push [cb]).get (k5 + 1) = some [cb] := by rw [← hn1]; exact push_get _ _
  obtain ⟨h2, m2⟩ : ∃ h2, h1.push [cb] = h2 := ⟨_, rfl⟩
  have hn2 : h2.next = k5 + 1 + 1 := by rw [← m2, ← hn1]; rfl
  rw [m2] at o2 gb
  have ga2 := (o2.ext.2 k5 (by omega)).trans ga
  have o12 := o1.trans o2
  -- copies
  obtain ⟨c1, h3, f3, e3, o3, v3, r3⟩ := copyStore_c (Z := Z) k (o12.le hf) (Store.okI.on va o12) smA
  obtain ⟨a1, a2, a3⟩ := Store.lenI v3
  have ga3 := (o3.ext.2 k5 (by omega)).trans ga2
  have gb3 := (o3.ext.2 (k5 + 1) (by omega)).trans gb
  have on3 := o12.trans o3
  have st5 := store_row (new := c1) (by have := on3.fl; omega) ga3 (by rw [l1, a1])
  obtain ⟨h4, m4⟩ : ∃ h4, h3.put k5 [c1] = h4 := ⟨_, rfl⟩
  have on4 : On h h4 := by rw [← m4]; exact on3.put_ (by omega) _
  have nx3 := o3.ext.1
  have nx4 : h4.next = h3.next := by rw [← m4]; rfl
  have lt3 : ∀ id, id ∈ f3 → id < h3.next := Store.okI.lt v3
  have ga4 : h4.get k5 = some [c1] := by rw [← m4]; simp [Heap.put]
  have gb4 : h4.get (k5 + 1) = some [cb] := by rw [← m4, put_ne _ (by omega)]; exact gb3
  have v4 : Store.RI h4 c1 A f3 := by rw [← m4]; exact Store.okI.mv v3 (Nat.le_refl _) fun id hid => put_ne _ (by have := r3.lo id hid; omega)
  rw [m4] at st5
  obtain ⟨c2, h5, f5, e5, o5, v5, r5⟩ := copyStore_c (Z := Z) k (on4.le hf) (Store.okI.on vb on4) smB
  obtain ⟨b1, b2, b3⟩ := Store.lenI v5
  have ga5 := (o5.ext.2 k5 (by omega)).trans ga4
  have gb5 := (o5.ext.2 (k5 + 1) (by omega)).trans gb4
  have on5 := on4.trans o5
  have st6 := store_row (new := c2) (by have := on5.fl; omega) gb5 (by rw [n1, b1])
  obtain ⟨h6, m6⟩ : ∃ h6, h5.put (k5 + 1) [c2] = h6 := ⟨_, rfl⟩
  have on6 : On h h6 := by rw [← m6]; exact on5.put_ (by omega) _
  have nx5 := o5.ext.1
  have nx6 : h6.next = h5.next := by rw [← m6]; rfl
  have ga6 : h6.get k5 = some [c1] := by rw [← m6, put_ne _ (by omega)]; exact ga5
  have gb6 : h6.get (k5 + 1) = some [c2] := by rw [← m6]; simp [Heap.put]
  have v6 : Store.RI h6 c1 A f3 := by rw [← m6]; exact Store.okI.mv (Store.okI.on v4 o5) (Nat.le_refl _) fun id hid => put_ne _ (by have := r3.lo id hid; omega)
  have w6 : Store.RI h6 c2 B f5 := by rw [← m6]; exact Store.okI.mv v5 (Nat.le_refl _) fun id hid => put_ne _ (by have := r5.lo id hid; omega)
  rw [m6] at st6
  -- are they right?
  obtain ⟨z1, hz1⟩ : ∃ z1, c1 = [.int .i64 A.group, .int .i64 A.seen, z1] := by obtain ⟨z1, _, e1, _⟩ := v3; exact ⟨z1, e1⟩
  obtain ⟨z2, hz2⟩ : ∃ z2, c2 = [.int .i64 B.group, .int .i64 B.seen, z2] := by obtain ⟨z2, _, e2, _⟩ := v5; exact ⟨z2, e2⟩
  subst hz1 hz2
  have e6 := isHand_run (Z := Z) k.i11 hI15 H.lo H.from_ H.to H.epoch H.phase h6
  rw [show handOk H.lo H.from_ H.to H.epoch H.phase = H.ok from rfl] at e6
  obtain ⟨h7, e7, o7⟩ := isStore_run (Z := Z) k v6 okA
  obtain ⟨h8, e8, o8⟩ := isStore_run (Z := Z) k (Store.okI.on w6 o7) okB
  have o68 := o7.trans o8
  have lt : ∀ {gx : Heap}, On h6 gx → gx.get k5 = some [[.int .i64 A.group, .int .i64 A.seen, z1]] ∧ gx.get (k5 + 1) = some [[.int .i64 B.group, .int .i64 B.seen, z2]] := fun o => ⟨(o.ext.2 k5 (by omega)).trans ga6, (o.ext.2 (k5 + 1) (by omega)).trans gb6⟩
  have ld2 := fun j n => loadP_row ga2 (i := 0) rfl j n
  have ld4 := fun j n => loadP_row gb4 (i := 0) rfl j n
  have ld6a := fun j n => loadP_row ga6 (i := 0) rfl j n
  have ld6b := fun j n => loadP_row gb6 (i := 0) rfl j n
  have ld7a := fun j n => loadP_row (lt o7).1 (i := 0) rfl j n
  have ld7b := fun j n => loadP_row (lt o7).2 (i := 0) rfl j n
  have ld8a := fun j n => loadP_row (lt o68).1 (i := 0) rfl j n
  have ld8b := fun j n => loadP_row (lt o68).2 (i := 0) rfl j n
  have fr3 : Fre h f3 := ⟨fun id hid => by have := r3.lo id hid; omega, r3.nd⟩
  have fr5 : Fre h f5 := ⟨fun id hid => by have := r5.lo id hid; omega, r5.nd⟩
  have dj : ∀ id, id ∈ f3 → id ∉ f5 := fun id h1 h2 => by have := lt3 id h1; have := r5.lo id h2; omega
  have bad : ∀ {gx : Heap}, On h6 gx → playHand H A B ops = (H, A, B) → ∃ ca' cb' h' f1 f2, some (V.tup [V.agg H.enc, V.agg [.int .i64 A.group, .int .i64 A.seen, z1], V.agg [.int .i64 B.group, .int .i64 B.seen, z2]], gx) = some (.tup [.agg (playHand H A B ops).1.enc, .agg ca', .agg cb'], h') ∧ On h h' ∧ Store.RI h' ca' (playHand H A B ops).2.1 f1 ∧ Store.RI h' cb' (playHand H A B ops).2.2 f2 ∧ Fre h f1 ∧ Fre h f2 ∧ ∀ id, id ∈ f1 → id ∉ f2 := fun {gx} o e => by
    rw [e]; exact ⟨_, _, _, f3, f5, rfl, on6.trans o, Store.okI.on v6 o, Store.okI.on w6 o, fr3, fr5, dj⟩
  have hdef : playHand H A B ops = bif H.ok && (A.good && (B.good && (A.group == H.from_ && (B.group == H.to && decide (ops.length ≤ 200))))) then ((ops.foldl Play.step ⟨H, A, B, []⟩).hd, (ops.foldl Play.step ⟨H, A, B, []⟩).a, (ops.foldl Play.step ⟨H, A, B, []⟩).b) else (H, A, B) := rfl
  have hwl := w.len
  simp only [Hand.enc] at bad e6
  rw [call_run F Z (hI15.lk (g := 368) rfl) _ _ rfl]
  simp only [Hand.enc]
  cases q1 : H.ok with
  | false =>
    rw [q1] at e6
    simp only [run0, run1, run2, run3, run4, noSlot, ownS, ownK, memN, RO.dst, lk, drop, forget, number, Nat.reduceBEq, cut?, splice?, builds, Nat.reduceAdd, Nat.reduceLeDiff, ↓reduceIte, reduceCtorEq, qqa, qqb, qqc, qqd, qqe, qqf, qqg, qqh, qqi, qqj, qqk, qql, qqm, qqn, qqo, qqp, qqq, qqr, qqs, qqt, qqu, qqv, qqw, qqx, qqy, hk5, m1, hn1, m2, ld2, l1, l2, l3, e3, st5, ld4, n1, n2, n3, e5, st6, e6, ld6a, ld6b]
    exact bad (On.refl _) (by rw [hdef, q1]; rfl)
  | true =>
  rw [q1] at e6
  cases q2 : A.good with
  | false =>
    rw [q2] at e7
    simp only [run0, run1, run2, run3, run4, noSlot, ownS, ownK, memN, RO.dst, lk, drop, forget, number, Nat.reduceBEq, cut?, splice?, builds, Nat.reduceAdd, Nat.reduceLeDiff, ↓reduceIte, reduceCtorEq, qqa, qqb, qqc, qqd, qqe, qqf, qqg, qqh, qqi, qqj, qqk, qql, qqm, qqn, qqo, qqp, qqq, qqr, qqs, qqt, qqu, qqv, qqw, qqx, qqy, hk5, m1, hn1, m2, ld2, l1, l2, l3, e3, st5, ld4, n1, n2, n3, e5, st6, e6, ld6a, e7, ld7a, ld7b]
    exact bad o7 (by rw [hdef, q1, q2]; rfl)
  | true =>
  rw [q2] at e7
  cases q3 : (A.group == H.from_) with
  | false =>
    have q3' : (A.group != H.from_) = true := by simp only [bne, q3, Bool.not_false]
    simp only [run0, run1, run2, run3, run4, noSlot, ownS, ownK, memN, RO.dst, lk, drop, forget, number, Nat.reduceBEq, cut?, splice?, builds, Nat.reduceAdd, Nat.reduceLeDiff, ↓reduceIte, reduceCtorEq, qqa, qqb, qqc, qqd, qqe, qqf, qqg, qqh, qqi, qqj, qqk, qql, qqm, qqn, qqo, qqp, qqq, qqr, qqs, qqt, qqu, qqv, qqw, qqx, qqy, hk5, m1, hn1, m2, ld2, l1, l2, l3, e3, st5, ld4, n1, n2, n3, e5, st6, e6, ld6a, e7, ld7a, ld7b, q3']
    exact bad o7 (by rw [hdef, q1, q2, q3]; simp)
  | true =>
  have q3' : (A.group != H.from_) = false := by simp only [bne, q3, Bool.not_true]
  cases q4 : B.good with
  | false =>
    rw [q4] at e8
    simp only [run0, run1, run2, run3, run4, noSlot, ownS, ownK, memN, RO.dst, lk, drop, forget, number, Nat.reduceBEq, cut?, splice?, builds, Nat.reduceAdd, Nat.reduceLeDiff, ↓reduceIte, reduceCtorEq, qqa, qqb, qqc, qqd, qqe, qqf, qqg, qqh, qqi, qqj, qqk, qql, qqm, qqn, qqo, qqp, qqq, qqr, qqs, qqt, qqu, qqv, qqw, qqx, qqy, hk5, m1, hn1, m2, ld2, l1, l2, l3, e3, st5, ld4, n1, n2, n3, e5, st6, e6, ld6a, e7, ld7a, ld7b, q3', e8, ld8a, ld8b]
    exact bad o68 (by rw [hdef, q1, q2, q4]; simp)
  | true =>
  rw [q4] at e8
  cases q5 : (B.group == H.to) with
  | false =>
    have q5' : (B.group != H.to) = true := by simp only [bne, q5, Bool.not_false]
    simp only [run0, run1, run2, run3, run4, noSlot, ownS, ownK, memN, RO.dst, lk, drop, forget, number, Nat.reduceBEq, cut?, splice?, builds, Nat.reduceAdd, Nat.reduceLeDiff, ↓reduceIte, reduceCtorEq, qqa, qqb, qqc, qqd, qqe, qqf, qqg, qqh, qqi, qqj, qqk, qql, qqm, qqn, qqo, qqp, qqq, qqr, qqs, qqt, qqu, qqv, qqw, qqx, qqy, hk5, m1, hn1, m2, ld2, l1, l2, l3, e3, st5, ld4, n1, n2, n3, e5, st6, e6, ld6a, e7, ld7a, ld7b, q3', e8, ld8a, ld8b, q5']
    exact bad o68 (by rw [hdef, q1, q2, q4, q5]; simp)
  | true =>
  have q5' : (B.group != H.to) = false := by simp only [bne, q5, Bool.not_true]
  by_cases q6 : ops.length ≤ 200
  rotate_left
  · have q6' : (ops.length : Int) > 200 := by omega
    simp only [run0, run1, run2, run3, run4, noSlot, ownS, ownK, memN, RO.dst, lk, drop, forget, number, Nat.reduceBEq, cut?, splice?, builds, Nat.reduceAdd, Nat.reduceLeDiff, ↓reduceIte, reduceCtorEq, qqa, qqb, qqc, qqd, qqe, qqf, qqg, qqh, qqi, qqj, qqk, qql, qqm, qqn, qqo, qqp, qqq, qqr, qqs, qqt, qqu, qqv, qqw, qqx, qqy, hk5, m1, hn1, m2, ld2, l1, l2, l3, e3, st5, ld4, n1, n2, n3, e5, st6, e6, ld6a, e7, ld7a, ld7b, q3', e8, ld8a, ld8b, q5', hwl, q6']
    exact bad o68 (by rw [hdef, decide_eq_false q6]; simp)
  have q6' : ¬ (ops.length : Int) > 200 := by omega
  have hyes : playHand H A B ops = ((ops.foldl Play.step ⟨H, A, B, []⟩).hd, (ops.foldl Play.step ⟨H, A, B, []⟩).a, (ops.foldl Play.step ⟨H, A, B, []⟩).b) := by
    rw [hdef, q1, q2, q3, q4, q5, decide_eq_true q6]; rfl
  rw [hyes]
  clear bad
  -- the loop
  have on8 := on6.trans o68
  obtain ⟨on0, fy0, s0, fr0⟩ := Acc.lit0 (tag := 22) on8
  have hy0 : ∀ id, id ∈ fy0 → id = h8.next := fun id hid => by
    rcases s0.flat with ⟨e, _⟩ | ⟨_, _, _, e⟩
    · cases e
    · rw [e] at hid; simpa [Cell.sid] using hid
  have nx8 := o68.ext.1
  have op := On.push h8 []
  have J0 : IP h (h8.push []) k5 (k5 + 1) (.sl 22 h8.next 0 0) [.int .i64 A.group, .int .i64 A.seen, z1] [.int .i64 B.group, .int .i64 B.seen, z2] ⟨H, A, B, []⟩ [] fy0 f3 f5 :=
    { net := { sl := s0, fre := fr0, on := on0, len := rfl, ky := fun kk hkk => by
                simp only [List.mem_cons, List.not_mem_nil, or_false] at hkk
                exact ⟨fun hh => by have := hy0 kk hh; omega, by show kk < h8.next + 1; omega⟩, el := fun i b hh => by simp at hh }
      ra := (op.ext.2 k5 (by omega)).trans (lt o68).1
      rb := (op.ext.2 (k5 + 1) (by omega)).trans (lt o68).2
      va := Store.okI.on v6 (o68.trans op)
      vb := Store.okI.on w6 (o68.trans op)
      fra := fr3
      frb := fr5
      sa := fun id hid => ⟨fun hh => by have := hy0 id hh; have := lt3 id hid; omega, fun hh => by
        have := r3.lo id hid
        simp only [List.mem_cons, List.not_mem_nil, or_false] at hh
        omega⟩
      sb := fun id hid => ⟨fun hh => by have := hy0 id hh; have := Store.okI.lt v5 id hid; omega, fun hh => by
        have := r5.lo id hid
        simp only [List.mem_cons, List.not_mem_nil, or_false] at hh
        omega⟩
      dj := dj
      ne := by omega
      lo := by omega
      ok := ⟨okH, ⟨okA, smA⟩, ⟨okB, smB⟩, by simp, fun m hm => nomatch hm⟩ }
  obtain ⟨s', ⟨gn, yn, can, cbn, rn, fyn, fan, fbn, rfl, Jn⟩, key⟩ := loop_goes (F := F) (Z := Z) (live := [4, 5, 6, 8, 9, 10, 11, 61, 62, 63]) (b := r368L0) ops.length (fun i s => ∃ g y ca cb rows fy fa fb, s = pst x y k5 (k5 + 1) ops.length ((ops.take i).foldl Play.step ⟨H, A, B, []⟩).hd i g ∧ IP h g k5 (k5 + 1) y ca cb ((ops.take i).foldl Play.step ⟨H, A, B, []⟩) rows fy fa fb) (fun i s hi ⟨g, y, ca, cb, rows, fy, fa, fb, hs, J⟩ => by
    subst hs
    obtain ⟨g', y', ca', cb', rows', fy', fa', fb', J', e⟩ := play_turn (F := F) (Z := Z) k hI15 hL prd pri prm hf J w hi q6 (hb _ (List.getElem_mem hi))
    have ht : (ops.take (i + 1)).foldl Play.step ⟨H, A, B, []⟩ = ((ops.take i).foldl Play.step ⟨H, A, B, []⟩).step ops[i] := by
      rw [List.take_add_one, List.getElem?_eq_getElem hi, List.foldl_append]; rfl
    rw [← ht] at J' e
    exact ⟨_, ⟨g', y', ca', cb', rows', fy', fa', fb', rfl, J'⟩, e⟩) (s := pst x (.sl 22 h8.next 0 0) k5 (k5 + 1) ops.length H 0 (h8.push [])) ⟨_, _, _, _, _, _, _, _, rfl, J0⟩
  rw [List.take_length] at Jn key
  generalize ops.foldl Play.step ⟨H, A, B, []⟩ = P at *
  obtain ⟨t1, t2, t3⟩ := Store.lenI Jn.va
  obtain ⟨u1, u2, u3⟩ := Store.lenI Jn.vb
  have lda := fun j n => loadP_row Jn.ra (i := 0) rfl j n
  have ldb := fun j n => loadP_row Jn.rb (i := 0) rfl j n
  have hlt : ¬ (ops.length : Int) < ops.length := by omega
  simp only [pst, Hand.enc, show ((0 : Nat) : Int) = 0 from rfl] at key
  simp only [run0, run1, run2, run3, run4, noSlot, ownS, ownK, memN, RO.dst, lk, drop, forget, number, Nat.reduceBEq, cut?, splice?, builds, Nat.reduceAdd, Nat.reduceLeDiff, ↓reduceIte, reduceCtorEq, qqa, qqb, qqc, qqd, qqe, qqf, qqg, qqh, qqi, qqj, qqk, qql, qqm, qqn, qqo, qqp, qqq, qqr, qqs, qqt, qqu, qqv, qqw, qqx, qqy, List.replicate_succ, List.replicate_zero, fills, and_self, List.set_cons_zero, List.set_cons_succ, Nat.reduceLT, Nat.zero_lt_succ, Nat.zero_lt_one, hk5, m1, hn1, m2, ld2, l1, l2, l3, e3, st5, ld4, n1, n2, n3, e5, st6, e6, ld6a, e7, ld7a, ld7b, q3', e8, ld8a, ld8b, q5', hwl, q6', key]
  rw [loop_run]
  conv in (codeF _ _ r368L0 _) => unfold r368L0
  simp only [run0, run1, run2, run3, run4, noSlot, ownS, ownK, memN, RO.dst, lk, drop, forget, number, Nat.reduceBEq, cut?, splice?, builds, Nat.reduceAdd, Nat.reduceLeDiff, ↓reduceIte, reduceCtorEq, qqa, qqb, qqc, qqd, qqe, qqf, qqg, qqh, qqi, qqj, qqk, qql, qqm, qqn, qqo, qqp, qqq, qqr, qqs, qqt, qqu, qqv, qqw, qqx, qqy, hlt, lda, ldb, t1, t2, t3, u1, u2, u3]
  exact ⟨_, _, _, _, _, rfl, Jn.net.on, Jn.va, Jn.vb, Jn.fra, Jn.frb, Jn.dj⟩
end
end Go.Proofs.Ytgfclcpnefinoaa.A
namespace Go.Proofs.Ytgfclcpnefinoaa.A
open Go
set_option linter.unusedSimpArgs false
set_option linter.unusedVariables false
structure SP (h0 g : Heap) (y : Cell) (ca cb : List Cell) (p : Play) (rows : List (List Cell)) (fy fa fb : List Nat) : Prop where
  net : Net HandMsg.RI 22 h0 g [] y rows p.net fy
  va : Store.RI g ca p.a fa
  vb : Store.RI g cb p.b fb
  fra : Fre h0 fa
  frb : Fre h0 fb
  sa : ∀ id, id ∈ fa → id ∉ fy
  sb : ∀ id, id ∈ fb → id ∉ fy
  dj : ∀ id, id ∈ fa → id ∉ fb
  ok : p.Ok
section
variable {h0 g g' g1 : Heap} {y z : Cell} {ca cb cs : List Cell} {p : Play} {rows rows' : List (List Cell)} {fy fz fa fb fq : List Nat}
theorem SP.go (J : SP h0 g y ca cb p rows fy fa fb) (o : On g g') : SP h0 g' y ca cb p rows fy fa fb :=
  { J with
    net := J.net.go HandMsg.okI o
    va := Store.okI.on J.va o
    vb := Store.okI.on J.vb o }
theorem SP.re {l : List HandMsg} (J : SP h0 g y ca cb p rows fy fa fb) (re : Re g g' fy fz) (net : Net HandMsg.RI 22 h0 g' [] z rows' l fz) (ok : ({ p with net := l } : Play).Ok) : SP h0 g' z ca cb { p with net := l } rows' fz fa fb :=
  { net := net
    va := Store.okI.mv J.va re.le fun id hid => re.get id (Store.okI.lt J.va id hid) (J.sa id hid)
    vb := Store.okI.mv J.vb re.le fun id hid => re.get id (Store.okI.lt J.vb id hid) (J.sb id hid)
    fra := J.fra
    frb := J.frb
    sa := fun id hid hz => by
      have := Store.okI.lt J.va id hid
      rcases re.of id hz with h | h
      · exact J.sa id hid h
      · omega
    sb := fun id hid hz => by
      have := Store.okI.lt J.vb id hid
      rcases re.of id hz with h | h
      · exact J.sb id hid h
      · omega
    dj := J.dj
    ok := ok }
theorem SP.setA {A : Store} (J : SP h0 g y ca cb p rows fy fa fb) (o : On g g1) (v : Store.RI g1 cs A fq) (f : Fre g fq) (ok : ({ p with a := A } : Play).Ok) : SP h0 g1 y cs cb { p with a := A } rows fy fq fb := by
  have W := J.go o
  have hn := J.net.on.ext.1
  exact
  { net := W.net
    va := v
    vb := W.vb
    fra := ⟨fun id hid => by have := f.lo id hid; omega, f.nd⟩
    frb := J.frb
    sa := fun id hid hz => by have := f.lo id hid; have := J.net.sl.lt (Fl.ok _) id hz; omega
    sb := J.sb
    dj := fun id hid hb => by have := f.lo id hid; have := Store.okI.lt J.vb id hb; omega
    ok := ok }
theorem SP.setB {B : Store} (J : SP h0 g y ca cb p rows fy fa fb) (o : On g g1) (v : Store.RI g1 cs B fq) (f : Fre g fq) (ok : ({ p with b := B } : Play).Ok) : SP h0 g1 y ca cs { p with b := B } rows fy fa fq := by
  have W := J.go o
  have hn := J.net.on.ext.1
  exact
  { net := W.net
    va := W.va
    vb := v
    fra := J.fra
    frb := ⟨fun id hid => by have := f.lo id hid; omega, f.nd⟩
    sa := J.sa
    sb := fun id hid hz => by have := f.lo id hid; have := J.net.sl.lt (Fl.ok _) id hz; omega
    dj := fun id hid hb => by have := f.lo id hb; have := Store.okI.lt J.va id hid; omega
    ok := ok }
theorem SP.setH {H : Hand} (J : SP h0 g y ca cb p rows fy fa fb) (ok : ({ p with hd := H } : Play).Ok) : SP h0 g y ca cb { p with hd := H } rows fy fa fb := { J with ok := ok }
end
theorem place_eqS {o : Int} (h0 : ¬ o < 0) (h1 : o ≠ 0) (hb : o ≤ 9223372036854775807) : IntKind.i64.wrap (o - 1) = o - 1 ∧ IntKind.i64.wrap ((o - 1).tdiv 3) = ((place o : Nat) : Int) ∧ (((o - 1).tmod 3 == 2) = (o.tmod 3 == 0)) ∧ (((o - 1).tmod 3 == 1) = (o.tmod 3 == 2)) := by
  have e : (o - 1).tdiv 3 = (o - 1) / 3 := Int.tdiv_eq_ediv_of_nonneg (by omega)
  have e2 : (o - 1).tmod 3 = (o - 1) % 3 := Int.tmod_eq_emod_of_nonneg (by omega)
  have e3 : o.tmod 3 = o % 3 := Int.tmod_eq_emod_of_nonneg (by omega)
  refine ⟨wrapI _ (by omega) (by omega), ?_, ?_, ?_⟩
  · unfold place
    rw [e, wrapI _ (by omega) (by omega)]
    omega
  · rw [e2, e3, Bool.eq_iff_iff]; simp only [beq_iff_eq]; omega
  · rw [e2, e3, Bool.eq_iff_iff]; simp only [beq_iff_eq]; omega
def sst (x y : Cell) (hd : Hand) (ca cb : List Cell) (i : Nat) (g : Heap) : St :=
  ⟨[(3, .c x), (11, .c y), (14, .c (.int .i64 (i : Nat)))], [(4, 4, 0), (8, 8, 0), (9, 9, 0), (10, 10, 0), (12, 12, 0), (13, 13, 0)],
    [(4, hd.enc), (8, [.int .u64 0, .int .i64 0, .int .i64 0, .int .i64 0, .int .i64 0]), (9, [.int .i64 0, .int .i64 0, .nil]), (10, [.int .i64 0, .int .i64 0, .nil]), (12, ca), (13, cb)], g⟩
section
variable {F : Nat → Option RF} {Z : CallF} {h0 g : Heap} {x y : Cell} {ca cb : List Cell} {p : Play} {rows : List (List Cell)} {fy fa fb fo : List Nat} {ops : List Int}
set_option maxHeartbeats 4000000 in
theorem s_send (k : KS F) (hS15 : Has F tS15) (hf : h0.floor ≤ h0.next) (J : SP h0 g y ca cb p rows fy fa fb) (w : SlR 15 (Fl int_enc) h0 x ops fo) {i : Nat} (hi : i < ops.length) (hl : ops.length ≤ 200) (ho : ops[i] = 0) :
    ∃ g' y' rows' fy', SP h0 g' y' ca cb p.sends rows' fy' fa fb ∧ loop F Z [3, 4, 8, 9, 10, 11, 12, 13, 14] r367L1 (sst x y p.hd ca cb i g) = loop F Z [3, 4, 8, 9, 10, 11, 12, 13, 14] r367L1 (sst x y' p.sends.hd ca cb (i + 1) g') := by
  have wg := w.on (Fl.ok _) J.net.on
  have hlt : (i : Int) < ops.length := by omega
  have hws := wrapS i (by omega)
  have hix := wg.idx hi
  have hwl := wg.len
  have hld := wg.load hi
  rw [ho] at hld
  obtain ⟨l1, l2, l3⟩ := Store.lenI J.va
  obtain ⟨cs, g1, fq, e1, o1, v1, f1⟩ := sHandSend_c (Z := Z) k hS15 (J.net.on.le hf) p.hd J.va J.ok.a.1 J.ok.a.2
  obtain ⟨a1, a2, a3⟩ := HandMsg.lenI v1
  have J1 := J.go o1
  have hlen := J1.net.sl.len
  have hrl := J.net.len
  have hcap := J.ok.net.1
  simp only [sst, Hand.enc] at *
  rw [loop_run]
  conv in (codeF _ _ r367L1 _) => unfold r367L1
  unfold Play.sends Play.puts
  cases hs : (handSend p.hd p.a).2 with
  | false =>
    simp only [hs] at e1
    refine ⟨g1, y, rows, fy, J1, ?_⟩
    simp only [run0, run1, run2, run3, run4, noSlot, ownS, ownK, memN, RO.dst, lk, drop, forget, number, Nat.reduceBEq, cut?, splice?, builds, Nat.reduceAdd, Nat.reduceLeDiff, ↓reduceIte, reduceCtorEq, qqa, qqb, qqc, qqd, qqe, qqf, qqg, qqh, qqi, qqj, qqk, qql, qqm, qqn, qqo, qqp, qqq, qqr, qqs, qqt, qqu, qqv, qqw, qqx, qqy, hlt, hwl, hix, hld, int_enc, show ((0 : Int) == 0) = true from rfl, l1, l2, l3, e1, a1, a2, a3, hws]
  | true =>
    simp only [hs] at e1
    by_cases h40 : p.net.length < 40
    · have h40' : (rows.length : Int) < 40 := by omega
      have eo := (show Acc 22 h0 g1 y rows from ⟨J1.net.on, fy, J1.net.sl, J1.net.fre⟩).one_eq hf (bytes := 112) (by omega) cs
      obtain ⟨fz, net', re⟩ := J1.net.push_ HandMsg.okI hf (by omega) v1 fun id hid => ⟨by have := f1.lo id hid; have := J.net.on.ext.1; omega, fun hz => by have := f1.lo id hid; have := J.net.sl.lt (Fl.ok _) id hz; omega, fun hz => nomatch hz⟩
      have ok' := J.ok.puts ⟨handSend_ok J.ok.hd J.ok.a.1, handSend_small J.ok.a.2 p.hd⟩
      unfold Play.puts at ok'
      simp only [h40, decide_true, cond_true] at ok' ⊢
      refine ⟨_, _, _, fz, J1.re re net' ok', ?_⟩
      simp only [run0, run1, run2, run3, run4, noSlot, ownS, ownK, memN, RO.dst, lk, drop, forget, number, Nat.reduceBEq, cut?, splice?, builds, Nat.reduceAdd, Nat.reduceLeDiff, ↓reduceIte, reduceCtorEq, qqa, qqb, qqc, qqd, qqe, qqf, qqg, qqh, qqi, qqj, qqk, qql, qqm, qqn, qqo, qqp, qqq, qqr, qqs, qqt, qqu, qqv, qqw, qqx, qqy, List.replicate_succ, List.replicate_zero, fills, and_self, List.set_cons_zero, List.set_cons_succ, Nat.reduceLT, Nat.zero_lt_succ, Nat.zero_lt_one, hlt, hwl, hix, hld, int_enc, show ((0 : Int) == 0) = true from rfl, l1, l2, l3, e1, a1, a2, a3, hlen, h40', eo, hws]
    · have h40' : ¬ (rows.length : Int) < 40 := by omega
      simp only [h40, decide_false, cond_false, cond_true]
      refine ⟨g1, y, rows, fy, J1, ?_⟩
      simp only [run0, run1, run2, run3, run4, noSlot, ownS, ownK, memN, RO.dst, lk, drop, forget, number, Nat.reduceBEq, cut?, splice?, builds, Nat.reduceAdd, Nat.reduceLeDiff, ↓reduceIte, reduceCtorEq, qqa, qqb, qqc, qqd, qqe, qqf, qqg, qqh, qqi, qqj, qqk, qql, qqm, qqn, qqo, qqp, qqq, qqr, qqs, qqt, qqu, qqv, qqw, qqx, qqy, List.replicate_succ, List.replicate_zero, fills, and_self, List.set_cons_zero, List.set_cons_succ, Nat.reduceLT, Nat.zero_lt_succ, Nat.zero_lt_one, hlt, hwl, hix, hld, int_enc, show ((0 : Int) == 0) = true from rfl, l1, l2, l3, e1, a1, a2, a3, hlen, h40', hws]
set_option maxHeartbeats 4000000 in
theorem s_pass (J : SP h0 g y ca cb p rows fy fa fb) (w : SlR 15 (Fl int_enc) h0 x ops fo) {i : Nat} (hi : i < ops.length) (hl : ops.length ≤ 200) (ho : ops[i] ≠ 0) (hb : ops[i] ≤ 9223372036854775807) (hp : ops[i] < 0 ∨ p.net.length ≤ place ops[i]) :
    loop F Z [3, 4, 8, 9, 10, 11, 12, 13, 14] r367L1 (sst x y p.hd ca cb i g) = loop F Z [3, 4, 8, 9, 10, 11, 12, 13, 14] r367L1 (sst x y p.hd ca cb (i + 1) g) := by
  have wg := w.on (Fl.ok _) J.net.on
  have hlt : (i : Int) < ops.length := by omega
  have hws := wrapS i (by omega)
  have hix := wg.idx hi
  have hwl := wg.len
  have hld := wg.load hi
  have hlen := J.net.sl.len
  have hrl := J.net.len
  generalize ops[i] = o at *
  have hn0 : (o == 0) = false := by simpa using ho
  have bq := fun a => b_quo .i64 a 3 (by omega)
  simp only [sst, Hand.enc]
  rw [loop_run]
  conv in (codeF _ _ r367L1 _) => unfold r367L1
  by_cases hneg : o < 0
  · simp only [run0, run1, run2, run3, run4, noSlot, ownS, ownK, memN, RO.dst, lk, drop, forget, number, Nat.reduceBEq, cut?, splice?, builds, Nat.reduceAdd, Nat.reduceLeDiff, ↓reduceIte, reduceCtorEq, qqa, qqb, qqc, qqd, qqe, qqf, qqg, qqh, qqi, qqj, qqk, qql, qqm, qqn, qqo, qqp, qqq, qqr, qqs, qqt, qqu, qqv, qqw, qqx, qqy, hlt, hwl, hix, hld, int_enc, hn0, bq, hneg, hws]
  · obtain ⟨q1, q2, _, _⟩ := place_eqS hneg ho hb
    have hge : (rows.length : Int) ≤ ((place o : Nat) : Int) := by omega
    have hge' : ((place o : Nat) : Int) ≥ (rows.length : Int) := hge
    simp only [run0, run1, run2, run3, run4, noSlot, ownS, ownK, memN, RO.dst, lk, drop, forget, number, Nat.reduceBEq, cut?, splice?, builds, Nat.reduceAdd, Nat.reduceLeDiff, ↓reduceIte, reduceCtorEq, qqa, qqb, qqc, qqd, qqe, qqf, qqg, qqh, qqi, qqj, qqk, qql, qqm, qqn, qqo, qqp, qqq, qqr, qqs, qqt, qqu, qqv, qqw, qqx, qqy, hlt, hwl, hix, hld, int_enc, hn0, bq, hneg, q1, q2, hlen, hge, hge', hws]
set_option maxHeartbeats 4000000 in
theorem s_copy (hf : h0.floor ≤ h0.next) (J : SP h0 g y ca cb p rows fy fa fb) (w : SlR 15 (Fl int_enc) h0 x ops fo) {i : Nat} (hi : i < ops.length) (hl : ops.length ≤ 200) (ho : ops[i] ≠ 0) (hb : ops[i] ≤ 9223372036854775807) (hneg : ¬ ops[i] < 0) (hk : place ops[i] < p.net.length) (h3 : ops[i].tmod 3 = 0) :
    ∃ g' y' rows' fy', SP h0 g' y' ca cb (p.puts (HandMsg.at_ p.net (place ops[i]))) rows' fy' fa fb ∧
      loop F Z [3, 4, 8, 9, 10, 11, 12, 13, 14] r367L1 (sst x y p.hd ca cb i g) = loop F Z [3, 4, 8, 9, 10, 11, 12, 13, 14] r367L1 (sst x y' (p.puts (HandMsg.at_ p.net (place ops[i]))).hd ca cb (i + 1) g') := by
  have wg := w.on (Fl.ok _) J.net.on
  have hlt : (i : Int) < ops.length := by omega
  have hws := wrapS i (by omega)
  have hix := wg.idx hi
  have hwl := wg.len
  have hld := wg.load hi
  have hlen := J.net.sl.len
  have hrl := J.net.len
  have hcap := J.ok.net.1
  generalize ops[i] = o at *
  have hn0 : (o == 0) = false := by simpa using ho
  have bq := fun a => b_quo .i64 a 3 (by omega)
  have br := fun a => b_rem .i64 a 3 (by omega)
  obtain ⟨q1, q2, q3, _⟩ := place_eqS hneg ho hb
  have hge : ¬ (rows.length : Int) ≤ ((place o : Nat) : Int) := by omega
  have hge' : ¬ ((place o : Nat) : Int) ≥ (rows.length : Int) := hge
  have h30 : (o.tmod 3 == 0) = true := by simp [h3]
  rw [h30] at q3
  have hokm := J.ok.at_ hk
  generalize place o = kk at *
  obtain ⟨r, f, hr, vr, hfr⟩ := J.net.el kk p.net[kk] (List.getElem?_eq_getElem hk)
  obtain ⟨b1, b2, b3⟩ := HandMsg.lenI vr
  have hkr : kk < rows.length := by omega
  have hrk : rows[kk] = r := by
    rw [List.getElem?_eq_getElem hkr] at hr; injection hr
  have hmx := J.net.sl.idx hkr
  have hml := J.net.sl.load hkr
  simp only [hrk] at hml
  rw [HandMsg.at_get hk] at hokm ⊢
  simp only [sst, Hand.enc]
  rw [loop_run]
  conv in (codeF _ _ r367L1 _) => unfold r367L1
  unfold Play.puts
  by_cases h40 : p.net.length < 40
  · have h40' : (rows.length : Int) < 40 := by omega
    have eo := (show Acc 22 h0 g y rows from ⟨J.net.on, fy, J.net.sl, J.net.fre⟩).one_eq hf (bytes := 112) (by omega) r
    obtain ⟨fz, net', re⟩ := J.net.push_ HandMsg.okI hf (by omega) vr hfr
    have ok' := J.ok.puts hokm
    unfold Play.puts at ok'
    simp only [h40, decide_true, cond_true] at ok' ⊢
    refine ⟨_, _, _, fz, J.re re net' ok', ?_⟩
    simp only [run0, run1, run2, run3, run4, noSlot, ownS, ownK, memN, RO.dst, lk, drop, forget, number, Nat.reduceBEq, cut?, splice?, builds, Nat.reduceAdd, Nat.reduceLeDiff, ↓reduceIte, reduceCtorEq, qqa, qqb, qqc, qqd, qqe, qqf, qqg, qqh, qqi, qqj, qqk, qql, qqm, qqn, qqo, qqp, qqq, qqr, qqs, qqt, qqu, qqv, qqw, qqx, qqy, List.replicate_succ, List.replicate_zero, fills, and_self, List.set_cons_zero, List.set_cons_succ, Nat.reduceLT, Nat.zero_lt_succ, Nat.zero_lt_one, hlt, hwl, hix, hld, int_enc, hn0, bq, br, hneg, q1, q2, q3, hlen, hge, hge', hmx, hml, b1, b2, b3, h40', eo, hws]
  · have h40' : ¬ (rows.length : Int) < 40 := by omega
    simp only [h40, decide_false, cond_false]
    refine ⟨g, y, rows, fy, J, ?_⟩
    simp only [run0, run1, run2, run3, run4, noSlot, ownS, ownK, memN, RO.dst, lk, drop, forget, number, Nat.reduceBEq, cut?, splice?, builds, Nat.reduceAdd, Nat.reduceLeDiff, ↓reduceIte, reduceCtorEq, qqa, qqb, qqc, qqd, qqe, qqf, qqg, qqh, qqi, qqj, qqk, qql, qqm, qqn, qqo, qqp, qqq, qqr, qqs, qqt, qqu, qqv, qqw, qqx, qqy, List.replicate_succ, List.replicate_zero, fills, and_self, List.set_cons_zero, List.set_cons_succ, Nat.reduceLT, Nat.zero_lt_succ, Nat.zero_lt_one, hlt, hwl, hix, hld, int_enc, hn0, bq, br, hneg, q1, q2, q3, hlen, hge, hge', hmx, hml, b1, b2, b3, h40', hws]
end
end Go.Proofs.Ytgfclcpnefinoaa.A
namespace Go.Proofs.Ytgfclcpnefinoaa.A
open Go
set_option linter.unusedSimpArgs false
set_option linter.unusedVariables false
theorem rest_step {α : Type} {xs : List α} {j k : Nat} (hj : j < xs.length) : (xs.take (j + 1)).eraseIdx k = if j = k then (xs.take j).eraseIdx k else (xs.take j).eraseIdx k ++ [xs[j]] := by
  have ht : xs.take (j + 1) = xs.take j ++ [xs[j]] := by rw [List.take_add_one, List.getElem?_eq_getElem hj]; rfl
  have hl : (xs.take j).length = j := by rw [List.length_take]; omega
  rw [ht]
  by_cases h1 : k < j
  · rw [if_neg (by omega), List.eraseIdx_append_of_lt_length (by omega)]
  · rw [List.eraseIdx_of_length_le (l := xs.take j) (by omega), List.eraseIdx_append_of_length_le (by omega), hl]
    by_cases h2 : j = k
    · subst h2; simp
    · rw [if_neg h2, List.eraseIdx_of_length_le (l := [xs[j]]) (by simp; omega)]
section
variable {F : Nat → Option RF} {Z : CallF} {h0 g : Heap} {x y : Cell} {ca cb : List Cell} {p : Play} {rows : List (List Cell)} {fy fa fb fo : List Nat} {ops : List Int}
set_option maxHeartbeats 4000000 in
theorem rest_run (hf : g.floor ≤ g.next) (s : SlR 22 (Fl fun r => r) g y rows fy) (hrl : rows.length ≤ 40) (h10 : ∀ (j : Nat) (hj : j < rows.length), rows[j].length = 10 ∧ rows[j].take 10 = rows[j] ∧ rows[j].drop 10 = []) (kk i : Nat) (A4 A8 A9 A10 A12 A13 A18 : List Cell) :
    ∃ z g', Acc 22 g g' z (rows.eraseIdx kk) ∧ loop F Z [3, 4, 8, 9, 10, 11, 12, 13, 14, 17, 18, 19, 20] r367L0 ⟨[(3, .c x), (11, .c y), (14, .c (.int .i64 (i : Nat))), (17, .c (.int .i64 (kk : Nat))), (19, .c (.sl 22 g.next 0 0)), (20, .c (.int .i64 0))], [(4, 4, 0), (8, 8, 0), (9, 9, 0), (10, 10, 0), (12, 12, 0), (13, 13, 0), (18, 18, 0)], [(4, A4), (8, A8), (9, A9), (10, A10), (12, A12), (13, A13), (18, A18)], g.push []⟩ =
      loop F Z [3, 4, 8, 9, 10, 11, 12, 13, 14, 17, 18, 19, 20] r367L0 ⟨[(3, .c x), (11, .c y), (14, .c (.int .i64 (i : Nat))), (17, .c (.int .i64 (kk : Nat))), (19, .c z), (20, .c (.int .i64 (rows.length : Nat)))], [(4, 4, 0), (8, 8, 0), (9, 9, 0), (10, 10, 0), (12, 12, 0), (13, 13, 0), (18, 18, 0)], [(4, A4), (8, A8), (9, A9), (10, A10), (12, A12), (13, A13), (18, A18)], g'⟩ := by
  obtain ⟨s', ⟨z, g', rfl, acc⟩, key⟩ := loop_goes (F := F) (Z := Z) (live := [3, 4, 8, 9, 10, 11, 12, 13, 14, 17, 18, 19, 20]) (b := r367L0) rows.length (fun j st => ∃ z g', st = ⟨[(3, .c x), (11, .c y), (14, .c (.int .i64 (i : Nat))), (17, .c (.int .i64 (kk : Nat))), (19, .c z), (20, .c (.int .i64 (j : Nat)))], [(4, 4, 0), (8, 8, 0), (9, 9, 0), (10, 10, 0), (12, 12, 0), (13, 13, 0), (18, 18, 0)], [(4, A4), (8, A8), (9, A9), (10, A10), (12, A12), (13, A13), (18, A18)], g'⟩ ∧ Acc 22 g g' z ((rows.take j).eraseIdx kk)) (fun j st hj ⟨z, g', hs, acc⟩ => by
    subst hs
    have sg := s.on (Fl.ok _) acc.on
    have hlt : (j : Int) < rows.length := by omega
    have hws := wrapS j (by omega)
    have hlen := sg.len
    have hix := sg.idx hj
    have hld := sg.load hj
    obtain ⟨b1, b2, b3⟩ := h10 j hj
    have hrs := rest_step (k := kk) hj
    have hle : ((rows.take j).eraseIdx kk).length ≤ 40 := by
      have := List.length_eraseIdx_le (rows.take j) kk
      rw [List.length_take] at this; omega
    rw [loop_run]
    conv in (codeF _ _ r367L0 _) => unfold r367L0
    by_cases hjk : j = kk
    · rw [if_pos hjk] at hrs
      have hne : (((j : Nat) : Int) != ((kk : Nat) : Int)) = false := by simp [hjk]
      exact ⟨_, ⟨z, g', rfl, by rw [hrs]; exact acc⟩, by simp only [run0, run1, run2, run3, run4, noSlot, ownS, ownK, memN, RO.dst, lk, drop, forget, number, Nat.reduceBEq, cut?, splice?, builds, Nat.reduceAdd, Nat.reduceLeDiff, ↓reduceIte, reduceCtorEq, qqa, qqb, qqc, qqd, qqe, qqf, qqg, qqh, qqi, qqj, qqk, qql, qqm, qqn, qqo, qqp, qqq, qqr, qqs, qqt, qqu, qqv, qqw, qqx, qqy, hlen, hlt, hne, hws]⟩
    · rw [if_neg hjk] at hrs
      have hne : (((j : Nat) : Int) != ((kk : Nat) : Int)) = true := by simp; omega
      have eo := acc.one_eq hf (bytes := 112) (by omega) rows[j]
      have ao := acc.one hf (by omega) rows[j]
      rw [← hrs] at ao
      exact ⟨_, ⟨_, _, rfl, ao⟩, by simp only [run0, run1, run2, run3, run4, noSlot, ownS, ownK, memN, RO.dst, lk, drop, forget, number, Nat.reduceBEq, cut?, splice?, builds, Nat.reduceAdd, Nat.reduceLeDiff, ↓reduceIte, reduceCtorEq, qqa, qqb, qqc, qqd, qqe, qqf, qqg, qqh, qqi, qqj, qqk, qql, qqm, qqn, qqo, qqp, qqq, qqr, qqs, qqt, qqu, qqv, qqw, qqx, qqy, List.replicate_succ, List.replicate_zero, fills, and_self, List.set_cons_zero, List.set_cons_succ, Nat.reduceLT, Nat.zero_lt_succ, Nat.zero_lt_one, hlen, hlt, hne, hix, hld, b1, b2, b3, eo, hws]⟩) (s := ⟨[(3, .c x), (11, .c y), (14, .c (.int .i64 (i : Nat))), (17, .c (.int .i64 (kk : Nat))), (19, .c (.sl 22 g.next 0 0)), (20, .c (.int .i64 ((0 : Nat) : Int)))], [(4, 4, 0), (8, 8, 0), (9, 9, 0), (10, 10, 0), (12, 12, 0), (13, 13, 0), (18, 18, 0)], [(4, A4), (8, A8), (9, A9), (10, A10), (12, A12), (13, A13), (18, A18)], g.push []⟩) ⟨_, _, rfl, by simpa using Acc.lit0 (On.refl g)⟩
  rw [List.take_length] at acc
  exact ⟨z, g', acc, key⟩
end
end Go.Proofs.Ytgfclcpnefinoaa.A
namespace Go.Proofs.Ytgfclcpnefinoaa.A
open Go
set_option linter.unusedSimpArgs false
set_option linter.unusedVariables false
section
variable {F : Nat → Option RF} {Z : CallF} {h0 g g1 : Heap} {x y z : Cell} {ca cb : List Cell} {p : Play} {rows : List (List Cell)} {fy fa fb fo : List Nat} {ops : List Int}
theorem SP.rest (J : SP h0 g y ca cb p rows fy fa fb) {kk : Nat} (hk : kk < p.net.length) (a : Acc 22 g g1 z (rows.eraseIdx kk)) : ∃ fz, SP h0 g1 z ca cb (p.loses kk) (rows.eraseIdx kk) fz fa fb := by
  obtain ⟨o, fz, s, f⟩ := a
  have re : Re g g1 fy fz := ⟨o.ext.1, o.fl, fun id hid _ => o.ext.2 id hid, f.nd, fun id hid => .inr (f.lo id hid)⟩
  have net' : Net HandMsg.RI 22 h0 g1 [] z (rows.eraseIdx kk) (p.net.eraseIdx kk) fz := J.net.of_re HandMsg.okI re s (by rw [List.length_eraseIdx, List.length_eraseIdx, J.net.len]) fun j b hb => .inl (by
    rw [List.getElem?_eraseIdx] at hb
    rw [List.getElem?_eraseIdx]
    split at hb
    · rename_i h; rw [if_pos h]; exact ⟨j, hb, rfl⟩
    · rename_i h; rw [if_neg h]; exact ⟨j + 1, hb, rfl⟩)
  exact ⟨fz, J.re re net' (J.ok.loses kk)⟩
theorem SP.ten (J : SP h0 g y ca cb p rows fy fa fb) (j : Nat) (hj : j < rows.length) : rows[j].length = 10 ∧ rows[j].take 10 = rows[j] ∧ rows[j].drop 10 = [] := by
  have hl := J.net.len
  obtain ⟨r, f, q1, q2, _⟩ := J.net.el j p.net[j] (List.getElem?_eq_getElem (by omega))
  rw [List.getElem?_eq_getElem hj] at q1
  injection q1 with q1
  rw [q1]; exact HandMsg.lenI q2
set_option maxHeartbeats 8000000 in
theorem s_lose (hf : h0.floor ≤ h0.next) (J : SP h0 g y ca cb p rows fy fa fb) (w : SlR 15 (Fl int_enc) h0 x ops fo) {i : Nat} (hi : i < ops.length) (hl : ops.length ≤ 200) (ho : ops[i] ≠ 0) (hb : ops[i] ≤ 9223372036854775807) (hneg : ¬ ops[i] < 0) (hk : place ops[i] < p.net.length) (h3 : ops[i].tmod 3 = 2) :
    ∃ g' y' rows' fy', SP h0 g' y' ca cb (p.loses (place ops[i])) rows' fy' fa fb ∧
      loop F Z [3, 4, 8, 9, 10, 11, 12, 13, 14] r367L1 (sst x y p.hd ca cb i g) = loop F Z [3, 4, 8, 9, 10, 11, 12, 13, 14] r367L1 (sst x y' (p.loses (place ops[i])).hd ca cb (i + 1) g') := by
  have wg := w.on (Fl.ok _) J.net.on
  have hlt : (i : Int) < ops.length := by omega
  have hws := wrapS i (by omega)
  have hix := wg.idx hi
  have hwl := wg.len
  have hld := wg.load hi
  have hlen := J.net.sl.len
  have hrl := J.net.len
  have hcap := J.ok.net.1
  generalize hoi : ops[i] = o at *
  have hn0 : (o == 0) = false := by simpa using ho
  have bq := fun a => b_quo .i64 a 3 (by omega)
  have br := fun a => b_rem .i64 a 3 (by omega)
  obtain ⟨q1, q2, q3, q4⟩ := place_eqS hneg ho hb
  have hge : ¬ (rows.length : Int) ≤ ((place o : Nat) : Int) := by omega
  have hge' : ¬ ((place o : Nat) : Int) ≥ (rows.length : Int) := hge
  have hokm := J.ok.at_ hk
  generalize place o = kk at *
  obtain ⟨r, f, hr, vr, hfr⟩ := J.net.el kk p.net[kk] (List.getElem?_eq_getElem hk)
  obtain ⟨b1, b2, b3⟩ := HandMsg.lenI vr
  have hkr : kk < rows.length := by omega
  have hrk : rows[kk] = r := by
    rw [List.getElem?_eq_getElem hkr] at hr; injection hr
  have hmx := J.net.sl.idx hkr
  have hml := J.net.sl.load hkr
  simp only [hrk] at hml
  have hgl := J.net.on.le hf
  have hl0 : ¬ (rows.length : Int) < rows.length := by omega
  have h30 : (o.tmod 3 == 0) = false := by simp [h3]
  have h32 : (o.tmod 3 == 2) = true := by simp [h3]
  rw [h30] at q3
  rw [h32] at q4
  obtain ⟨z, g1, acc, key⟩ := rest_run (F := F) (Z := Z) (x := x) hgl J.net.sl (by omega) J.ten kk i [.int .u64 p.hd.lo, .int .i64 p.hd.from_, .int .i64 p.hd.to, .int .i64 p.hd.epoch, .int .i64 p.hd.phase] [.int .u64 0, .int .i64 0, .int .i64 0, .int .i64 0, .int .i64 0] [.int .i64 0, .int .i64 0, .nil] [.int .i64 0, .int .i64 0, .nil] ca cb r
  obtain ⟨fz, J1⟩ := J.rest hk acc
  have hld1 := (wg.on (Fl.ok _) acc.on).load hi
  rw [hoi] at hld1
  refine ⟨_, _, _, fz, J1, ?_⟩
  simp only [sst, Hand.enc, Play.loses]
  rw [loop_run]
  conv in (codeF _ _ r367L1 _) => unfold r367L1
  simp only [run0, run1, run2, run3, run4, noSlot, ownS, ownK, memN, RO.dst, lk, drop, forget, number, Nat.reduceBEq, cut?, splice?, builds, Nat.reduceAdd, Nat.reduceLeDiff, ↓reduceIte, reduceCtorEq, qqa, qqb, qqc, qqd, qqe, qqf, qqg, qqh, qqi, qqj, qqk, qql, qqm, qqn, qqo, qqp, qqq, qqr, qqs, qqt, qqu, qqv, qqw, qqx, qqy, List.replicate_succ, List.replicate_zero, fills, and_self, List.set_cons_zero, List.set_cons_succ, Nat.reduceLT, Nat.zero_lt_succ, Nat.zero_lt_one, hlt, hwl, hix, hld, int_enc, hn0, bq, br, hneg, q1, q2, q3, q4, hlen, hge, hge', hmx, hml, b1, b2, b3, key]
  rw [loop_run (b := r367L0)]
  conv in (codeF _ _ r367L0 _) => unfold r367L0
  simp only [run0, run1, run2, run3, run4, noSlot, ownS, ownK, memN, RO.dst, lk, drop, forget, number, Nat.reduceBEq, cut?, splice?, builds, Nat.reduceAdd, Nat.reduceLeDiff, ↓reduceIte, reduceCtorEq, qqa, qqb, qqc, qqd, qqe, qqf, qqg, qqh, qqi, qqj, qqk, qql, qqm, qqn, qqo, qqp, qqq, qqr, qqs, qqt, qqu, qqv, qqw, qqx, qqy, List.replicate_succ, List.replicate_zero, fills, and_self, List.set_cons_zero, List.set_cons_succ, Nat.reduceLT, Nat.zero_lt_succ, Nat.zero_lt_one, hl0, hlt, hwl, hix, hld, hld1, int_enc, hn0, bq, br, hneg, q1, q2, q3, q4, hlen, hge, hge', hmx, hml, b1, b2, b3, hws]
set_option maxHeartbeats 8000000 in
theorem s_take (k : KS F) (hS : Has F tS01d) (hS15 : Has F tS15) (hf : h0.floor ≤ h0.next) (J : SP h0 g y ca cb p rows fy fa fb) (w : SlR 15 (Fl int_enc) h0 x ops fo) {i : Nat} (hi : i < ops.length) (hl : ops.length ≤ 200) (ho : ops[i] ≠ 0) (hb : ops[i] ≤ 9223372036854775807) (hneg : ¬ ops[i] < 0) (hk : place ops[i] < p.net.length) (h3 : ops[i].tmod 3 ≠ 0) (h4 : ops[i].tmod 3 ≠ 2) :
    ∃ g' y' ca' cb' rows' fy' fa' fb', SP h0 g' y' ca' cb' ((p.loses (place ops[i])).takes (HandMsg.at_ p.net (place ops[i]))) rows' fy' fa' fb' ∧
      loop F Z [3, 4, 8, 9, 10, 11, 12, 13, 14] r367L1 (sst x y p.hd ca cb i g) = loop F Z [3, 4, 8, 9, 10, 11, 12, 13, 14] r367L1 (sst x y' ((p.loses (place ops[i])).takes (HandMsg.at_ p.net (place ops[i]))).hd ca' cb' (i + 1) g') := by
  have wg := w.on (Fl.ok _) J.net.on
  have hlt : (i : Int) < ops.length := by omega
  have hws := wrapS i (by omega)
  have hix := wg.idx hi
  have hwl := wg.len
  have hld := wg.load hi
  have hlen := J.net.sl.len
  have hrl := J.net.len
  have hcap := J.ok.net.1
  generalize hoi : ops[i] = o at *
  have hn0 : (o == 0) = false := by simpa using ho
  have bq := fun a => b_quo .i64 a 3 (by omega)
  have br := fun a => b_rem .i64 a 3 (by omega)
  obtain ⟨q1, q2, q3, q4⟩ := place_eqS hneg ho hb
  have hge : ¬ (rows.length : Int) ≤ ((place o : Nat) : Int) := by omega
  have hge' : ¬ ((place o : Nat) : Int) ≥ (rows.length : Int) := hge
  have hokm := J.ok.at_ hk
  generalize place o = kk at *
  obtain ⟨r, f, hr, vr, hfr⟩ := J.net.el kk p.net[kk] (List.getElem?_eq_getElem hk)
  obtain ⟨b1, b2, b3⟩ := HandMsg.lenI vr
  have hkr : kk < rows.length := by omega
  have hrk : rows[kk] = r := by
    rw [List.getElem?_eq_getElem hkr] at hr; injection hr
  have hmx := J.net.sl.idx hkr
  have hml := J.net.sl.load hkr
  simp only [hrk] at hml
  have hgl := J.net.on.le hf
  have hl0 : ¬ (rows.length : Int) < rows.length := by omega
  have h30 : (o.tmod 3 == 0) = false := by simpa using h3
  have h32 : (o.tmod 3 == 2) = false := by simpa using h4
  rw [h30] at q3
  rw [h32] at q4
  have hten := J.ten
  obtain ⟨mx1, mx2, hmr⟩ : ∃ c1 c2, r = [.int .i64 p.net[kk].step, .int .u64 p.net[kk].lo, .int .i64 p.net[kk].to, .int .i64 p.net[kk].epoch, .int .u64 p.net[kk].shard.lo, .int .u64 p.net[kk].shard.hi, .int .i64 p.net[kk].shard.state, .int .i64 p.net[kk].shard.epoch, c1, c2] := by
    obtain ⟨c1, _, c2, _, e, _⟩ := vr
    exact ⟨c1, c2, e⟩
  obtain ⟨z, g1, acc, key⟩ := rest_run (F := F) (Z := Z) (x := x) hgl J.net.sl (by omega) hten kk i [.int .u64 p.hd.lo, .int .i64 p.hd.from_, .int .i64 p.hd.to, .int .i64 p.hd.epoch, .int .i64 p.hd.phase] [.int .u64 0, .int .i64 0, .int .i64 0, .int .i64 0, .int .i64 0] [.int .i64 0, .int .i64 0, .nil] [.int .i64 0, .int .i64 0, .nil] ca cb r
  obtain ⟨fz, J1⟩ := J.rest hk acc
  have hld1 := (wg.on (Fl.ok _) acc.on).load hi
  rw [hoi] at hld1
  have v1 := HandMsg.okI.on vr acc.on
  rw [HandMsg.at_get hk] at hokm ⊢
  generalize p.net[kk] = m at *
  have hhd : (p.loses kk).hd = p.hd := rfl
  rw [← hhd] at key ⊢
  generalize p.loses kk = P at *
  subst hmr
  clear J wg hten acc
  have hg1 := J1.net.on.le hf
  unfold Play.takes Play.goes
  by_cases hto : m.to = P.hd.from_
  · have hto' : (m.to == P.hd.from_) = true := by simpa using hto
    obtain ⟨l1, l2, l3⟩ := Store.lenI J1.va
    obtain ⟨cs, g2, fq, e2, o2, v2, f2⟩ := sHandTake_c (Z := Z) k hS15 hg1 J1.va v1 J1.ok.a.1 J1.ok.a.2 hokm.1 hokm.2
    obtain ⟨a1, a2, a3⟩ := Store.lenI v2
    have J3 := J1.setA o2 v2 f2 ⟨J1.ok.hd, ⟨handTake_ok J1.ok.a.1 hokm.1, handTake_small J1.ok.a.2 hokm.2⟩, J1.ok.b, J1.ok.net⟩
    obtain ⟨g3, e3, o3⟩ := sHandDone_c (Z := Z) hS hS15 (o2.le hg1) P.hd (HandMsg.okI.on v1 o2)
    simp only [Hand.enc] at e3
    cases ht : (handTake P.a m).2 with
    | false =>
      simp only [ht] at e2
      simp only [hto', cond_true, cond_false]
      refine ⟨_, _, _, _, _, _, _, _, J3, ?_⟩
      simp only [sst, Hand.enc]
      rw [loop_run]
      conv in (codeF _ _ r367L1 _) => unfold r367L1
      simp only [run0, run1, run2, run3, run4, noSlot, ownS, ownK, memN, RO.dst, lk, drop, forget, number, Nat.reduceBEq, cut?, splice?, builds, Nat.reduceAdd, Nat.reduceLeDiff, ↓reduceIte, reduceCtorEq, qqa, qqb, qqc, qqd, qqe, qqf, qqg, qqh, qqi, qqj, qqk, qql, qqm, qqn, qqo, qqp, qqq, qqr, qqs, qqt, qqu, qqv, qqw, qqx, qqy, List.replicate_succ, List.replicate_zero, fills, and_self, List.set_cons_zero, List.set_cons_succ, Nat.reduceLT, Nat.zero_lt_succ, Nat.zero_lt_one, hlt, hwl, hix, hld, int_enc, hn0, bq, br, hneg, q1, q2, q3, q4, hlen, hge, hge', hmx, hml, b1, b2, b3, key]
      rw [loop_run (b := r367L0)]
      conv in (codeF _ _ r367L0 _) => unfold r367L0
      simp only [run0, run1, run2, run3, run4, noSlot, ownS, ownK, memN, RO.dst, lk, drop, forget, number, Nat.reduceBEq, cut?, splice?, builds, Nat.reduceAdd, Nat.reduceLeDiff, ↓reduceIte, reduceCtorEq, qqa, qqb, qqc, qqd, qqe, qqf, qqg, qqh, qqi, qqj, qqk, qql, qqm, qqn, qqo, qqp, qqq, qqr, qqs, qqt, qqu, qqv, qqw, qqx, qqy, List.replicate_succ, List.replicate_zero, fills, and_self, List.set_cons_zero, List.set_cons_succ, Nat.reduceLT, Nat.zero_lt_succ, Nat.zero_lt_one, hl0, hlt, hwl, hix, hld, hld1, int_enc, hn0, bq, br, hneg, q1, q2, q3, q4, hlen, hge, hge', hmx, hml, b1, b2, b3, hto', l1, l2, l3, e2, a1, a2, a3, hws]
    | true =>
      simp only [ht] at e2
      simp only [hto', cond_true, cond_false]
      refine ⟨_, _, _, _, _, _, _, _, (J3.setH ⟨Hand.done_ok J3.ok.hd _ _ _, J3.ok.a, J3.ok.b, J3.ok.net⟩).go o3, ?_⟩
      simp only [sst, Hand.enc]
      rw [loop_run]
      conv in (codeF _ _ r367L1 _) => unfold r367L1
      simp only [run0, run1, run2, run3, run4, noSlot, ownS, ownK, memN, RO.dst, lk, drop, forget, number, Nat.reduceBEq, cut?, splice?, builds, Nat.reduceAdd, Nat.reduceLeDiff, ↓reduceIte, reduceCtorEq, qqa, qqb, qqc, qqd, qqe, qqf, qqg, qqh, qqi, qqj, qqk, qql, qqm, qqn, qqo, qqp, qqq, qqr, qqs, qqt, qqu, qqv, qqw, qqx, qqy, List.replicate_succ, List.replicate_zero, fills, and_self, List.set_cons_zero, List.set_cons_succ, Nat.reduceLT, Nat.zero_lt_succ, Nat.zero_lt_one, hlt, hwl, hix, hld, int_enc, hn0, bq, br, hneg, q1, q2, q3, q4, hlen, hge, hge', hmx, hml, b1, b2, b3, key]
      rw [loop_run (b := r367L0)]
      conv in (codeF _ _ r367L0 _) => unfold r367L0
      simp only [run0, run1, run2, run3, run4, noSlot, ownS, ownK, memN, RO.dst, lk, drop, forget, number, Nat.reduceBEq, cut?, splice?, builds, Nat.reduceAdd, Nat.reduceLeDiff, ↓reduceIte, reduceCtorEq, qqa, qqb, qqc, qqd, qqe, qqf, qqg, qqh, qqi, qqj, qqk, qql, qqm, qqn, qqo, qqp, qqq, qqr, qqs, qqt, qqu, qqv, qqw, qqx, qqy, List.replicate_succ, List.replicate_zero, fills, and_self, List.set_cons_zero, List.set_cons_succ, Nat.reduceLT, Nat.zero_lt_succ, Nat.zero_lt_one, hl0, hlt, hwl, hix, hld, hld1, int_enc, hn0, bq, br, hneg, q1, q2, q3, q4, hlen, hge, hge', hmx, hml, b1, b2, b3, hto', l1, l2, l3, e2, a1, a2, a3, e3, hws]
  · have hto' : (m.to == P.hd.from_) = false := by simpa using hto
    obtain ⟨l1, l2, l3⟩ := Store.lenI J1.vb
    obtain ⟨cs, g2, fq, e2, o2, v2, f2⟩ := sHandTake_c (Z := Z) k hS15 hg1 J1.vb v1 J1.ok.b.1 J1.ok.b.2 hokm.1 hokm.2
    obtain ⟨a1, a2, a3⟩ := Store.lenI v2
    have J3 := J1.setB o2 v2 f2 ⟨J1.ok.hd, J1.ok.a, ⟨handTake_ok J1.ok.b.1 hokm.1, handTake_small J1.ok.b.2 hokm.2⟩, J1.ok.net⟩
    obtain ⟨g3, e3, o3⟩ := sHandDone_c (Z := Z) hS hS15 (o2.le hg1) P.hd (HandMsg.okI.on v1 o2)
    simp only [Hand.enc] at e3
    cases ht : (handTake P.b m).2 with
    | false =>
      simp only [ht] at e2
      simp only [hto', cond_true, cond_false]
      refine ⟨_, _, _, _, _, _, _, _, J3, ?_⟩
      simp only [sst, Hand.enc]
      rw [loop_run]
      conv in (codeF _ _ r367L1 _) => unfold r367L1
      simp only [run0, run1, run2, run3, run4, noSlot, ownS, ownK, memN, RO.dst, lk, drop, forget, number, Nat.reduceBEq, cut?, splice?, builds, Nat.reduceAdd, Nat.reduceLeDiff, ↓reduceIte, reduceCtorEq, qqa, qqb, qqc, qqd, qqe, qqf, qqg, qqh, qqi, qqj, qqk, qql, qqm, qqn, qqo, qqp, qqq, qqr, qqs, qqt, qqu, qqv, qqw, qqx, qqy, List.replicate_succ, List.replicate_zero, fills, and_self, List.set_cons_zero, List.set_cons_succ, Nat.reduceLT, Nat.zero_lt_succ, Nat.zero_lt_one, hlt, hwl, hix, hld, int_enc, hn0, bq, br, hneg, q1, q2, q3, q4, hlen, hge, hge', hmx, hml, b1, b2, b3, key]
      rw [loop_run (b := r367L0)]
      conv in (codeF _ _ r367L0 _) => unfold r367L0
      simp only [run0, run1, run2, run3, run4, noSlot, ownS, ownK, memN, RO.dst, lk, drop, forget, number, Nat.reduceBEq, cut?, splice?, builds, Nat.reduceAdd, Nat.reduceLeDiff, ↓reduceIte, reduceCtorEq, qqa, qqb, qqc, qqd, qqe, qqf, qqg, qqh, qqi, qqj, qqk, qql, qqm, qqn, qqo, qqp, qqq, qqr, qqs, qqt, qqu, qqv, qqw, qqx, qqy, List.replicate_succ, List.replicate_zero, fills, and_self, List.set_cons_zero, List.set_cons_succ, Nat.reduceLT, Nat.zero_lt_succ, Nat.zero_lt_one, hl0, hlt, hwl, hix, hld, hld1, int_enc, hn0, bq, br, hneg, q1, q2, q3, q4, hlen, hge, hge', hmx, hml, b1, b2, b3, hto', l1, l2, l3, e2, a1, a2, a3, hws]
    | true =>
      simp only [ht] at e2
      simp only [hto', cond_true, cond_false]
      refine ⟨_, _, _, _, _, _, _, _, (J3.setH ⟨Hand.done_ok J3.ok.hd _ _ _, J3.ok.a, J3.ok.b, J3.ok.net⟩).go o3, ?_⟩
      simp only [sst, Hand.enc]
      rw [loop_run]
      conv in (codeF _ _ r367L1 _) => unfold r367L1
      simp only [run0, run1, run2, run3, run4, noSlot, ownS, ownK, memN, RO.dst, lk, drop, forget, number, Nat.reduceBEq, cut?, splice?, builds, Nat.reduceAdd, Nat.reduceLeDiff, ↓reduceIte, reduceCtorEq, qqa, qqb, qqc, qqd, qqe, qqf, qqg, qqh, qqi, qqj, qqk, qql, qqm, qqn, qqo, qqp, qqq, qqr, qqs, qqt, qqu, qqv, qqw, qqx, qqy, List.replicate_succ, List.replicate_zero, fills, and_self, List.set_cons_zero, List.set_cons_succ, Nat.reduceLT, Nat.zero_lt_succ, Nat.zero_lt_one, hlt, hwl, hix, hld, int_enc, hn0, bq, br, hneg, q1, q2, q3, q4, hlen, hge, hge', hmx, hml, b1, b2, b3, key]
      rw [loop_run (b := r367L0)]
      conv in (codeF _ _ r367L0 _) => unfold r367L0
      simp only [run0, run1, run2, run3, run4, noSlot, ownS, ownK, memN, RO.dst, lk, drop, forget, number, Nat.reduceBEq, cut?, splice?, builds, Nat.reduceAdd, Nat.reduceLeDiff, ↓reduceIte, reduceCtorEq, qqa, qqb, qqc, qqd, qqe, qqf, qqg, qqh, qqi, qqj, qqk, qql, qqm, qqn, qqo, qqp, qqq, qqr, qqs, qqt, qqu, qqv, qqw, qqx, qqy, List.replicate_succ, List.replicate_zero, fills, and_self, List.set_cons_zero, List.set_cons_succ, Nat.reduceLT, Nat.zero_lt_succ, Nat.zero_lt_one, hl0, hlt, hwl, hix, hld, hld1, int_enc, hn0, bq, br, hneg, q1, q2, q3, q4, hlen, hge, hge', hmx, hml, b1, b2, b3, hto', l1, l2, l3, e2, a1, a2, a3, e3, hws]
theorem s_turn (k : KS F) (hS : Has F tS01d) (hS15 : Has F tS15) (hf : h0.floor ≤ h0.next) (J : SP h0 g y ca cb p rows fy fa fb) (w : SlR 15 (Fl int_enc) h0 x ops fo) {i : Nat} (hi : i < ops.length) (hl : ops.length ≤ 200) (hb : ops[i] ≤ 9223372036854775807) :
    ∃ g' y' ca' cb' rows' fy' fa' fb', SP h0 g' y' ca' cb' (p.step ops[i]) rows' fy' fa' fb' ∧
      loop F Z [3, 4, 8, 9, 10, 11, 12, 13, 14] r367L1 (sst x y p.hd ca cb i g) = loop F Z [3, 4, 8, 9, 10, 11, 12, 13, 14] r367L1 (sst x y' (p.step ops[i]).hd ca' cb' (i + 1) g') := by
  unfold Play.step
  split
  · rename_i ho
    obtain ⟨g', y', rows', fy', J', e⟩ := s_send (F := F) (Z := Z) k hS15 hf J w hi hl ho
    exact ⟨g', y', ca, cb, rows', fy', fa, fb, J', e⟩
  rename_i ho
  split
  · rename_i hp
    exact ⟨g, y, ca, cb, rows, fy, fa, fb, J, s_pass (F := F) (Z := Z) J w hi hl ho hb hp⟩
  rename_i hp
  have hneg : ¬ ops[i] < 0 := fun h => hp (.inl h)
  have hk : place ops[i] < p.net.length := by omega
  split
  · rename_i h3
    obtain ⟨g', y', rows', fy', J', e⟩ := s_copy (F := F) (Z := Z) hf J w hi hl ho hb hneg hk h3
    exact ⟨g', y', ca, cb, rows', fy', fa, fb, J', e⟩
  rename_i h3
  split
  · rename_i h4
    obtain ⟨g', y', rows', fy', J', e⟩ := s_lose (F := F) (Z := Z) hf J w hi hl ho hb hneg hk h4
    exact ⟨g', y', ca, cb, rows', fy', fa, fb, J', e⟩
  · rename_i h4
    exact s_take (F := F) (Z := Z) k hS hS15 hf J w hi hl ho hb hneg hk h3 h4
end
end Go.Proofs.Ytgfclcpnefinoaa.A
namespace Go.Proofs.Ytgfclcpnefinoaa.A
open Go
set_option linter.unusedSimpArgs false
set_option linter.unusedVariables false
section
variable {F : Nat → Option RF} {Z : CallF} {h : Heap} {x : Cell} {ca cb : List Cell} {fa fb fo : List Nat} {ops : List Int} {A B : Store}
theorem copy_q (k : KS F) {g : Heap} {cs : List Cell} {s : Store} {fp : List Nat} (v : Store.RI g cs s fp) (sm : s.Small) :
    ∃ cs' hq g' fq, call F Z 317 [.agg cs] ⟨g.next, g.next, g.get⟩ = some (.agg cs', hq) ∧ Heap.mk hq.next g.floor hq.get = g' ∧ On g g' ∧ Store.RI g' cs' s fq ∧ Fre g fq := by
  obtain ⟨cs', hq, fq, e, o, v', f⟩ := l13Copy_c (Z := Z) (h := ⟨g.next, g.next, g.get⟩) k (Nat.le_refl _) (Store.okI.up v _) sm
  exact ⟨cs', hq, _, fq, e, rfl, ⟨⟨o.ext.1, o.ext.2⟩, rfl⟩, Store.okI.up v' g.floor, ⟨f.lo, f.nd⟩⟩
set_option maxHeartbeats 8000000 in
theorem sPlayHand_c (k : KS F) (hS : Has F tS01d) (hS15 : Has F tS15) (hf : h.floor ≤ h.next) (H : Hand) (okH : H.Ok) (va : Store.RI h ca A fa) (vb : Store.RI h cb B fb) (w : SlR 15 (Fl int_enc) h x ops fo) (okA : A.Ok) (smA : A.Small) (okB : B.Ok) (smB : B.Small) (hb : ∀ z, z ∈ ops → z ≤ 9223372036854775807) :
    ∃ ca' cb' h' f1 f2, call F Z 367 [.agg H.enc, .agg ca, .agg cb, .c x] h = some (.tup [.agg (playHand H A B ops).1.enc, .agg ca', .agg cb'], h') ∧ On h h' ∧ Store.RI h' ca' (playHand H A B ops).2.1 f1 ∧ Store.RI h' cb' (playHand H A B ops).2.2 f2 ∧ Fre h f1 ∧ Fre h f2 ∧ ∀ id, id ∈ f1 → id ∉ f2 := by
  have e1 := sHandOk_run (Z := Z) hS hS15 H.lo H.from_ H.to H.epoch H.phase h
  rw [show handOk H.lo H.from_ H.to H.epoch H.phase = H.ok from rfl] at e1
  have e2 := sStoreOk_run (Z := Z) k va okA
  have e3 := sStoreOk_run (Z := Z) k vb okB
  obtain ⟨za, hza⟩ : ∃ z1, ca = [.int .i64 A.group, .int .i64 A.seen, z1] := by obtain ⟨z1, _, e1, _⟩ := va; exact ⟨z1, e1⟩
  obtain ⟨zb, hzb⟩ : ∃ z1, cb = [.int .i64 B.group, .int .i64 B.seen, z1] := by obtain ⟨z1, _, e1, _⟩ := vb; exact ⟨z1, e1⟩
  have hdef : playHand H A B ops = bif H.ok && (A.good && (B.good && (A.group == H.from_ && (B.group == H.to && decide (ops.length ≤ 200))))) then ((ops.foldl Play.step ⟨H, A, B, []⟩).hd, (ops.foldl Play.step ⟨H, A, B, []⟩).a, (ops.foldl Play.step ⟨H, A, B, []⟩).b) else (H, A, B) := rfl
  have hwl := w.len
  subst hza hzb
  have dis : ∀ {g g1 g2 : Heap} {f1 f2 : List Nat} {c1 c2 : List Cell}, On h g → On g g1 → Store.RI g1 c1 A f1 → Fre g f1 → On g1 g2 → Store.RI g2 c2 B f2 → Fre g1 f2 → On h g2 ∧ Store.RI g2 c1 A f1 ∧ Fre h f1 ∧ Fre h f2 ∧ ∀ id, id ∈ f1 → id ∉ f2 := fun o o1 v1 r1 o2 v2 r2 => ⟨(o.trans o1).trans o2, Store.okI.on v1 o2, ⟨fun id hid => by have := r1.lo id hid; have := o.ext.1; omega, r1.nd⟩, ⟨fun id hid => by have := r2.lo id hid; have := o.ext.1; have := o1.ext.1; omega, r2.nd⟩, fun id h1 h2 => by have := Store.okI.lt v1 id h1; have := r2.lo id h2; omega⟩
  -- the copies if something is not right
  obtain ⟨c1, q1, g1, f1, ec1, mc1, oc1, vc1, rc1⟩ := copy_q (Z := Z) k va smA
  obtain ⟨c2, q2, g2, f2, ec2, mc2, oc2, vc2, rc2⟩ := copy_q (Z := Z) k (Store.okI.on vb oc1) smB
  obtain ⟨d1, d2, d3, d4, d5⟩ := dis (On.refl h) oc1 vc1 rc1 oc2 vc2 rc2
  obtain ⟨a1, a2, a3⟩ := Store.lenI vc1
  obtain ⟨b1, b2, b3⟩ := Store.lenI vc2
  have bad : playHand H A B ops = (H, A, B) → ∃ ca' cb' h' f1 f2, some (V.tup [V.agg H.enc, V.agg c1, V.agg c2], g2) = some (.tup [.agg (playHand H A B ops).1.enc, .agg ca', .agg cb'], h') ∧ On h h' ∧ Store.RI h' ca' (playHand H A B ops).2.1 f1 ∧ Store.RI h' cb' (playHand H A B ops).2.2 f2 ∧ Fre h f1 ∧ Fre h f2 ∧ ∀ id, id ∈ f1 → id ∉ f2 := fun e => by
    rw [e]; exact ⟨_, _, _, f1, f2, rfl, d1, d2, vc2, d3, d4, d5⟩
  simp only [Hand.enc] at bad e1
  rw [call_run F Z (hS15.lk (g := 367) rfl) _ _ rfl]
  simp only [Hand.enc]
  cases t1 : H.ok with
  | false =>
    rw [t1] at e1
    simp only [run0, run1, run2, run3, run4, noSlot, ownS, ownK, memN, RO.dst, lk, drop, forget, number, Nat.reduceBEq, cut?, splice?, builds, Nat.reduceAdd, Nat.reduceLeDiff, ↓reduceIte, reduceCtorEq, qqa, qqb, qqc, qqd, qqe, qqf, qqg, qqh, qqi, qqj, qqk, qql, qqm, qqn, qqo, qqp, qqq, qqr, qqs, qqt, qqu, qqv, qqw, qqx, qqy, e1, ec1, mc1, ec2, mc2, a1, a2, a3, b1, b2, b3]
    exact bad (by rw [hdef, t1]; rfl)
  | true =>
  rw [t1] at e1
  cases t2 : A.good with
  | false =>
    rw [t2] at e2
    simp only [run0, run1, run2, run3, run4, noSlot, ownS, ownK, memN, RO.dst, lk, drop, forget, number, Nat.reduceBEq, cut?, splice?, builds, Nat.reduceAdd, Nat.reduceLeDiff, ↓reduceIte, reduceCtorEq, qqa, qqb, qqc, qqd, qqe, qqf, qqg, qqh, qqi, qqj, qqk, qql, qqm, qqn, qqo, qqp, qqq, qqr, qqs, qqt, qqu, qqv, qqw, qqx, qqy, e1, e2, ec1, mc1, ec2, mc2, a1, a2, a3, b1, b2, b3]
    exact bad (by rw [hdef, t1, t2]; rfl)
  | true =>
  rw [t2] at e2
  cases t3 : B.good with
  | false =>
    rw [t3] at e3
    simp only [run0, run1, run2, run3, run4, noSlot, ownS, ownK, memN, RO.dst, lk, drop, forget, number, Nat.reduceBEq, cut?, splice?, builds, Nat.reduceAdd, Nat.reduceLeDiff, ↓reduceIte, reduceCtorEq, qqa, qqb, qqc, qqd, qqe, qqf, qqg, qqh, qqi, qqj, qqk, qql, qqm, qqn, qqo, qqp, qqq, qqr, qqs, qqt, qqu, qqv, qqw, qqx, qqy, e1, e2, e3, ec1, mc1, ec2, mc2, a1, a2, a3, b1, b2, b3]
    exact bad (by rw [hdef, t1, t2, t3]; rfl)
  | true =>
  rw [t3] at e3
  cases t4 : (A.group == H.from_) with
  | false =>
    have t4' : (A.group != H.from_) = true := by simp only [bne, t4, Bool.not_false]
    simp only [run0, run1, run2, run3, run4, noSlot, ownS, ownK, memN, RO.dst, lk, drop, forget, number, Nat.reduceBEq, cut?, splice?, builds, Nat.reduceAdd, Nat.reduceLeDiff, ↓reduceIte, reduceCtorEq, qqa, qqb, qqc, qqd, qqe, qqf, qqg, qqh, qqi, qqj, qqk, qql, qqm, qqn, qqo, qqp, qqq, qqr, qqs, qqt, qqu, qqv, qqw, qqx, qqy, e1, e2, e3, t4', ec1, mc1, ec2, mc2, a1, a2, a3, b1, b2, b3]
    exact bad (by rw [hdef, t1, t2, t3, t4]; rfl)
  | true =>
  have t4' : (A.group != H.from_) = false := by simp only [bne, t4, Bool.not_true]
  cases t5 : (B.group == H.to) with
  | false =>
    have t5' : (B.group != H.to) = true := by simp only [bne, t5, Bool.not_false]
    simp only [run0, run1, run2, run3, run4, noSlot, ownS, ownK, memN, RO.dst, lk, drop, forget, number, Nat.reduceBEq, cut?, splice?, builds, Nat.reduceAdd, Nat.reduceLeDiff, ↓reduceIte, reduceCtorEq, qqa, qqb, qqc, qqd, qqe, qqf, qqg, qqh, qqi, qqj, qqk, qql, qqm, qqn, qqo, qqp, qqq, qqr, qqs, qqt, qqu, qqv, qqw, qqx, qqy, e1, e2, e3, t4', t5', ec1, mc1, ec2, mc2, a1, a2, a3, b1, b2, b3]
    exact bad (by rw [hdef, t1, t2, t3, t4, t5]; rfl)
  | true =>
  have t5' : (B.group != H.to) = false := by simp only [bne, t5, Bool.not_true]
  by_cases t6 : ops.length ≤ 200
  rotate_left
  · have t6' : (ops.length : Int) > 200 := by omega
    simp only [run0, run1, run2, run3, run4, noSlot, ownS, ownK, memN, RO.dst, lk, drop, forget, number, Nat.reduceBEq, cut?, splice?, builds, Nat.reduceAdd, Nat.reduceLeDiff, ↓reduceIte, reduceCtorEq, qqa, qqb, qqc, qqd, qqe, qqf, qqg, qqh, qqi, qqj, qqk, qql, qqm, qqn, qqo, qqp, qqq, qqr, qqs, qqt, qqu, qqv, qqw, qqx, qqy, e1, e2, e3, t4', t5', hwl, t6', ec1, mc1, ec2, mc2, a1, a2, a3, b1, b2, b3]
    exact bad (by rw [hdef, decide_eq_false t6]; simp)
  have t6' : ¬ (ops.length : Int) > 200 := by omega
  have hyes : playHand H A B ops = ((ops.foldl Play.step ⟨H, A, B, []⟩).hd, (ops.foldl Play.step ⟨H, A, B, []⟩).a, (ops.foldl Play.step ⟨H, A, B, []⟩).b) := by
    rw [hdef, t1, t2, t3, t4, t5, decide_eq_true t6]; rfl
  rw [hyes]
  clear bad d1 d2 d3 d4 d5 ec1 mc1 oc1 vc1 rc1 ec2 mc2 oc2 vc2 rc2 a1 a2 a3 b1 b2 b3
  -- the list of messages, and the copies
  have op := On.push h []
  obtain ⟨on0, fy0, s0, fr0⟩ := Acc.lit0 (tag := 22) (On.refl h)
  have hy0 : ∀ id, id ∈ fy0 → id = h.next := fun id hid => by
    rcases s0.flat with ⟨e, _⟩ | ⟨_, _, _, e⟩
    · cases e
    · rw [e] at hid; simpa [Cell.sid] using hid
  obtain ⟨c1, q1, g1, f1, ec1, mc1, oc1, vc1, rc1⟩ := copy_q (Z := Z) k (Store.okI.on va op) smA
  obtain ⟨c2, q2, g2, f2, ec2, mc2, oc2, vc2, rc2⟩ := copy_q (Z := Z) k (Store.okI.on vb (op.trans oc1)) smB
  obtain ⟨d1, d2, d3, d4, d5⟩ := dis op oc1 vc1 rc1 oc2 vc2 rc2
  obtain ⟨a1, a2, a3⟩ := Store.lenI vc1
  obtain ⟨b1, b2, b3⟩ := Store.lenI vc2
  have o2 := oc1.trans oc2
  have hpn : (h.push []).next = h.next + 1 := rfl
  have J0 : SP h g2 (.sl 22 h.next 0 0) c1 c2 ⟨H, A, B, []⟩ [] fy0 f1 f2 :=
    { net := Net.go { sl := s0, fre := fr0, on := on0, len := rfl, ky := fun kk hkk => (nomatch hkk), el := fun i b hh => by simp at hh } HandMsg.okI o2
      va := d2
      vb := vc2
      fra := d3
      frb := d4
      sa := fun id hid hh => by have := hy0 id hh; have := rc1.lo id hid; omega
      sb := fun id hid hh => by have := hy0 id hh; have := rc2.lo id hid; have := oc1.ext.1; omega
      dj := d5
      ok := ⟨okH, ⟨okA, smA⟩, ⟨okB, smB⟩, by simp, fun m hm => nomatch hm⟩ }
  obtain ⟨s', ⟨gn, yn, can, cbn, rn, fyn, fan, fbn, rfl, Jn⟩, key⟩ := loop_goes (F := F) (Z := Z) (live := [3, 4, 8, 9, 10, 11, 12, 13, 14]) (b := r367L1) ops.length (fun i s => ∃ g y ca cb rows fy fa fb, s = sst x y ((ops.take i).foldl Play.step ⟨H, A, B, []⟩).hd ca cb i g ∧ SP h g y ca cb ((ops.take i).foldl Play.step ⟨H, A, B, []⟩) rows fy fa fb) (fun i s hi ⟨g, y, ca, cb, rows, fy, fa, fb, hs, J⟩ => by
    subst hs
    obtain ⟨g', y', ca', cb', rows', fy', fa', fb', J', e⟩ := s_turn (F := F) (Z := Z) k hS hS15 hf J w hi t6 (hb _ (List.getElem_mem hi))
    have ht : (ops.take (i + 1)).foldl Play.step ⟨H, A, B, []⟩ = ((ops.take i).foldl Play.step ⟨H, A, B, []⟩).step ops[i] := by
      rw [List.take_add_one, List.getElem?_eq_getElem hi, List.foldl_append]; rfl
    rw [← ht] at J' e
    exact ⟨_, ⟨g', y', ca', cb', rows', fy', fa', fb', rfl, J'⟩, e⟩) (s := sst x (.sl 22 h.next 0 0) H c1 c2 0 g2) ⟨_, _, _, _, _, _, _, _, rfl, J0⟩
  rw [List.take_length] at Jn key
  generalize ops.foldl Play.step ⟨H, A, B, []⟩ = P at *
  obtain ⟨u1, u2, u3⟩ := Store.lenI Jn.va
  obtain ⟨w1, w2, w3⟩ := Store.lenI Jn.vb
  have hlt : ¬ (ops.length : Int) < ops.length := by omega
  simp only [sst, Hand.enc, show ((0 : Nat) : Int) = 0 from rfl] at key
  simp only [run0, run1, run2, run3, run4, noSlot, ownS, ownK, memN, RO.dst, lk, drop, forget, number, Nat.reduceBEq, cut?, splice?, builds, Nat.reduceAdd, Nat.reduceLeDiff, ↓reduceIte, reduceCtorEq, qqa, qqb, qqc, qqd, qqe, qqf, qqg, qqh, qqi, qqj, qqk, qql, qqm, qqn, qqo, qqp, qqq, qqr, qqs, qqt, qqu, qqv, qqw, qqx, qqy, List.replicate_succ, List.replicate_zero, fills, and_self, List.set_cons_zero, List.set_cons_succ, Nat.reduceLT, Nat.zero_lt_succ, Nat.zero_lt_one, e1, e2, e3, t4', t5', hwl, t6', ec1, mc1, ec2, mc2, a1, a2, a3, b1, b2, b3, key]
  rw [loop_run]
  conv in (codeF _ _ r367L1 _) => unfold r367L1
  simp only [run0, run1, run2, run3, run4, noSlot, ownS, ownK, memN, RO.dst, lk, drop, forget, number, Nat.reduceBEq, cut?, splice?, builds, Nat.reduceAdd, Nat.reduceLeDiff, ↓reduceIte, reduceCtorEq, qqa, qqb, qqc, qqd, qqe, qqf, qqg, qqh, qqi, qqj, qqk, qql, qqm, qqn, qqo, qqp, qqq, qqr, qqs, qqt, qqu, qqv, qqw, qqx, qqy, hlt, hwl, u1, u2, u3, w1, w2, w3]
  exact ⟨_, _, _, _, _, rfl, Jn.net.on, Jn.va, Jn.vb, Jn.fra, Jn.frb, Jn.dj⟩
end
end Go.Proofs.Ytgfclcpnefinoaa.A
namespace Go.Proofs.Ytgfclcpnefinoaa.A
open Go
set_option linter.unusedSimpArgs false
set_option linter.unusedVariables false
theorem play_ok : ∀ (ops : List Int) {p : Play}, p.Ok → (ops.foldl Play.step p).Ok
  | [], _, w => w
  | o :: r, _, w => play_ok r (w.step o)
theorem playHand_small {H : Hand} {A B : Store} (okH : H.Ok) (okA : A.Ok) (smA : A.Small) (okB : B.Ok) (smB : B.Small) (ops : List Int) : (playHand H A B ops).2.1.Small ∧ (playHand H A B ops).2.2.Small := by
  unfold playHand
  cases (H.ok && (A.good && (B.good && (A.group == H.from_ && (B.group == H.to && decide (ops.length ≤ 200)))))) with
  | false => exact ⟨smA, smB⟩
  | true =>
    have w := play_ok ops (p := ⟨H, A, B, []⟩) ⟨okH, ⟨okA, smA⟩, ⟨okB, smB⟩, by simp, fun m hm => nomatch hm⟩
    exact ⟨w.a.2, w.b.2⟩
section
variable {F : Nat → Option RF} {Z : CallF} {h : Heap} {x : Cell} {ca cb : List Cell} {fa fb fo : List Nat} {ops : List Int} {A B : Store}
theorem PlayHand_e (k : KI F) (hI15 : Has F tI15) (hL : Has F tLibslicesIndexFuncimplShardimplShard) (prd : PrimAt F Z 330 (delF 16)) (pri : PrimAt F Z 332 (insF 16 80)) (prm : PrimAt F Z 376 (delF 22)) (hf : h.floor ≤ h.next) (H : Hand) (va : Store.RI h ca A fa) (vb : Store.RI h cb B fb) (w : SlR 15 (Fl int_enc) h x ops fo) (okH : H.Ok) (okA : A.Ok) (smA : A.Small) (okB : B.Ok) (smB : B.Small) (hb : ∀ z, z ∈ ops → -9223372036854775808 ≤ z ∧ z ≤ 9223372036854775807) :
    ∃ ca' cb' h' f1 f2, call F Z 368 [.agg H.enc, .agg ca, .agg cb, .c x] h = some (.tup [.agg (playHand H A B ops).1.enc, .agg ca', .agg cb'], h') ∧ On h h' ∧ Store.RI h' ca' (playHand H A B ops).2.1 f1 ∧ Fre h f1 ∧ Store.RI h' cb' (playHand H A B ops).2.2 f2 ∧ Fre h f2 ∧ ∀ id, id ∈ f1 → id ∉ f2 := by
  obtain ⟨c1, c2, g, f1, f2, e, o, v1, v2, r1, r2, d⟩ := PlayHand_c (Z := Z) k hI15 hL prd pri prm hf H okH va vb w okA smA okB smB fun z hz => (hb z hz).2
  exact ⟨c1, c2, g, f1, f2, e, o, v1, r1, v2, r2, d⟩
theorem sPlayHand_e (k : KS F) (hS : Has F tS01d) (hS15 : Has F tS15) (hf : h.floor ≤ h.next) (H : Hand) (va : Store.RI h ca A fa) (vb : Store.RI h cb B fb) (w : SlR 15 (Fl int_enc) h x ops fo) (okH : H.Ok) (okA : A.Ok) (smA : A.Small) (okB : B.Ok) (smB : B.Small) (hb : ∀ z, z ∈ ops → -9223372036854775808 ≤ z ∧ z ≤ 9223372036854775807) :
    ∃ ca' cb' h' f1 f2, call F Z 367 [.agg H.enc, .agg ca, .agg cb, .c x] h = some (.tup [.agg (playHand H A B ops).1.enc, .agg ca', .agg cb'], h') ∧ On h h' ∧ Store.RI h' ca' (playHand H A B ops).2.1 f1 ∧ Fre h f1 ∧ Store.RI h' cb' (playHand H A B ops).2.2 f2 ∧ Fre h f2 ∧ ∀ id, id ∈ f1 → id ∉ f2 := by
  obtain ⟨c1, c2, g, f1, f2, e, o, v1, v2, r1, r2, d⟩ := sPlayHand_c (Z := Z) k hS hS15 hf H okH va vb w okA smA okB smB fun z hz => (hb z hz).2
  exact ⟨c1, c2, g, f1, f2, e, o, v1, r1, v2, r2, d⟩
end
end Go.Proofs.Ytgfclcpnefinoaa.A
namespace Go.Proofs.Ytgfclcpnefinoaa.A
open Go
set_option linter.unusedSimpArgs false
set_option linter.unusedVariables false
def sumI {α : Type} (f : α → Int) : List α → Int
  | [] => 0
  | a :: r => f a + sumI f r
section
variable {α : Type} (f : α → Int)
theorem sumI_app : ∀ (xs ys : List α), sumI f (xs ++ ys) = sumI f xs + sumI f ys
  | [], ys => by simp [sumI]
  | a :: r, ys => by
    simp only [List.cons_append, sumI, sumI_app r ys]; omega
theorem sumI_take (xs : List α) {i : Nat} (hi : i < xs.length) : sumI f (xs.take (i + 1)) = sumI f (xs.take i) + f xs[i] := by
  rw [List.take_add_one, List.getElem?_eq_getElem hi, sumI_app]
  simp [sumI]
theorem sumI_le {m : Int} : ∀ (xs : List α), (∀ a, a ∈ xs → 0 ≤ f a ∧ f a ≤ m) → 0 ≤ sumI f xs ∧ sumI f xs ≤ m * xs.length
  | [], _ => by simp [sumI]
  | a :: r, h => by
    have h1 := h a (by simp)
    have h2 := sumI_le r fun b hb => h b (by simp [hb])
    simp only [sumI, List.length_cons]
    constructor
    · omega
    · rw [Int.natCast_add, Int.mul_add]
      simp only [Int.natCast_one, Int.mul_one]
      omega
end
section
variable {F : Nat → Option RF} {Z : CallF} {h : Heap} {x : Cell} {xs : List Account} {fp : List Nat}
end
end Go.Proofs.Ytgfclcpnefinoaa.A
namespace Go.Proofs.Ytgfclcpnefinoaa.A
open Go
set_option linter.unusedSimpArgs false
set_option linter.unusedVariables false
def Shard.mark1 (t : Shard) (k : Int) : Shard := ⟨k, k + 1, k + 2, k + 3, ⟨Account.marks t.book.list.length (k + 4)⟩, Fin.marks t.finished.length (k + 4 + 5 * (t.book.list.length : Nat))⟩
def Shard.wt1 (t : Shard) : Int := 4 + 5 * ((t.book.list.length : Nat) : Int) + 2 * ((t.finished.length : Nat) : Int)
def Shard.marksS : List Shard → Int → List Shard
  | [], _ => []
  | t :: r, k => t.mark1 k :: Shard.marksS r (k + t.wt1)
theorem Shard.wt1_nn (t : Shard) : 0 ≤ t.wt1 := by simp only [wt1]; omega
theorem Shard.marksS_len : ∀ (xs : List Shard) (k : Int), (Shard.marksS xs k).length = xs.length
  | [], _ => rfl
  | t :: r, k => by simp only [Shard.marksS, List.length_cons, Shard.marksS_len r]
theorem Shard.marksS_app : ∀ (xs ys : List Shard) (k : Int), Shard.marksS (xs ++ ys) k = Shard.marksS xs k ++ Shard.marksS ys (k + sumI Shard.wt1 xs)
  | [], ys, k => by simp [Shard.marksS, sumI]
  | t :: r, ys, k => by
    simp only [List.cons_append, Shard.marksS, Shard.marksS_app r ys, sumI, Int.add_assoc]
theorem Shard.mark_step {xs : List Shard} {i : Nat} (hi : i < xs.length) (k : Int) :
    (Shard.marksS (xs.take i) k ++ xs.drop i).set i (xs[i].mark1 (k + sumI Shard.wt1 (xs.take i))) = Shard.marksS (xs.take (i + 1)) k ++ xs.drop (i + 1) := by
  have hl : (Shard.marksS (xs.take i) k).length = i := by rw [Shard.marksS_len, List.length_take]; omega
  rw [List.set_append_right _ _ (by omega), hl, Nat.sub_self, List.drop_eq_getElem_cons hi, List.set_cons_zero, List.take_add_one, List.getElem?_eq_getElem hi, Shard.marksS_app]
  simp [Shard.marksS]
theorem Shard.mark_at {xs : List Shard} {i : Nat} (hi : i < xs.length) (k : Int) (h : i < (Shard.marksS (xs.take i) k ++ xs.drop i).length) : (Shard.marksS (xs.take i) k ++ xs.drop i)[i] = xs[i] := by
  have hl : (Shard.marksS (xs.take i) k).length = i := by rw [Shard.marksS_len, List.length_take]; omega
  rw [List.getElem_append_right (by omega)]
  simp [hl]
section
variable {F : Nat → Option RF} {Z : CallF} {h : Heap} {x : Cell} {xs : List Shard} {fp : List Nat}
set_option maxHeartbeats 2000000 in
theorem markShardS_turn (hLShard : Has F tLShard) (hLAccount : Has F tLAccount) (hLFin : Has F tLFin) {ys : List Shard} {g : Heap} (w : SlR 16 Shard.RI g x ys fp) (nd : fp.Nodup) (hlo : ∀ id, id ∈ fp → g.floor ≤ id) {i : Nat} (hi : i < ys.length) (k : Int) (h1 : 0 ≤ k) (h2 : k + ys[i].wt1 ≤ 9200000000000000000) :
    ∃ g', loop F Z [0, 1, 5] r230L0 ⟨[(0, .c x), (1, .c (.int .i64 k)), (5, .c (.int .i64 (i : Nat)))], [], [], g⟩ = loop F Z [0, 1, 5] r230L0 ⟨[(0, .c x), (1, .c (.int .i64 (k + ys[i].wt1))), (5, .c (.int .i64 ((i + 1 : Nat) : Int)))], [], [], g'⟩ ∧
      Mk g g' fp ∧ SlR 16 Shard.RI g' x (ys.set i (ys[i].mark1 k)) fp := by
  have hle := w.le2
  have hlt : (i : Int) < ys.length := by omega
  have hws := wrapS i (by omega)
  have hwl := w.len
  have hxi := w.idx hi
  obtain ⟨r, f, rows, hR, hin, nf, hs, hns, hsl, hg, hr, hir, fin⟩ := w.turn Shard.okI nd hi
  have hput := storeP_put (h := g) (hlo _ hs) hir
  have he := put_row hg hr
  simp only [Shard.wt1] at h2 ⊢
  clear w
  generalize ys[i] = a at *
  obtain ⟨x1, p1, x2, p2, rfl, rfl, w1, w2⟩ := hR
  obtain ⟨nd1, nd2, nd3⟩ := List.nodup_append.1 nf
  generalize hg4 : g.put x.sid (rows.set i [.int .u64 k, .int .u64 (k + 1), .int .i64 (k + 2), .int .i64 (k + 3), x1, x2]) = g4
  have m4 : Mk g g4 [x.sid] := by rw [← hg4]; exact Mk.put _ _ _
  have l4 : ∀ j n, loadP g4 x.sid i j n = cut? [.int .u64 k, .int .u64 (k + 1), .int .i64 (k + 2), .int .i64 (k + 3), x1, x2] j n := by rw [← hg4]; exact loadP_put hir _
  have s1 : ∀ id, id ∈ p1 → id ∉ [x.sid] := fun id hid hc => hns (by rw [List.mem_singleton] at hc; rw [← hc]; simp [hid])
  have s2 : ∀ id, id ∈ p2 → id ∉ [x.sid] := fun id hid hc => hns (by rw [List.mem_singleton] at hc; rw [← hc]; simp [hid])
  have w1' := w1.mk (Fl.ok _) m4 s1
  have w2' := w2.mk (Fl.ok _) m4 s2
  obtain ⟨g5, e5, m5, u1⟩ := markAccountS_run (Z := Z) hLAccount w1' (fun id hid => by rw [m4.fl]; exact hlo id (hin id (by simp [hid]))) (k + 4) (by omega) (by omega)
  have w2'' := w2'.mk (Fl.ok _) m5 (fun id h1 h2 => nd3 id h2 id h1 rfl)
  have get5 : g5.get x.sid = g4.get x.sid := m5.get _ fun hc => hns (by simp [hc])
  have l5 : ∀ j n, loadP g5 x.sid i j n = cut? [.int .u64 k, .int .u64 (k + 1), .int .i64 (k + 2), .int .i64 (k + 3), x1, x2] j n := fun j n => by rw [← l4]; simp only [loadP, rowOf, get5]
  obtain ⟨g6, e6, m6, u2⟩ := markFinS_run (Z := Z) hLFin w2'' (fun id hid => by rw [m5.fl, m4.fl]; exact hlo id (hin id (by simp [hid]))) (k + 4 + 5 * (a.book.list.length : Nat)) (by omega) (by omega)
  have u1' := u1.mk (Fl.ok _) m6 (fun id h1 h2 => nd3 id h1 id h2 rfl)
  have get6 : g6.get x.sid = g4.get x.sid := (m6.get _ fun hc => hns (by simp [hc])).trans get5
  refine ⟨g6, ?_, ⟨by rw [m6.next, m5.next, m4.next], by rw [m6.fl, m5.fl, m4.fl], fun id hid => ?_⟩, ?_⟩
  · rw [loop_run]
    conv in (codeF _ _ r230L0 _) => unfold r230L0
    rw [← he]
    have hw1 := wrapI1 k (by omega) (by omega)
    have hw2 : IntKind.i64.wrap (k + 1 + 1) = k + 2 := by rw [wrapI _ (by omega) (by omega)]; omega
    have hw3 : IntKind.i64.wrap (k + 2 + 1) = k + 3 := by rw [wrapI _ (by omega) (by omega)]; omega
    have hw4 : IntKind.i64.wrap (k + 3 + 1) = k + 4 := by rw [wrapI _ (by omega) (by omega)]; omega
    have hu1 := wrapU1 k (by omega) (by omega)
    have hu2 := wrapU1 (k + 1) (by omega) (by omega)
    simp only [run0, run1, run2, run3, run4, noSlot, ownS, ownK, memN, RO.dst, lk, drop, forget, number, Nat.reduceBEq, cut?, splice?, builds, Nat.reduceAdd, Nat.reduceLeDiff, ↓reduceIte, reduceCtorEq, qqa, qqb, qqc, qqd, qqe, qqf, qqg, qqh, qqi, qqj, qqk, qql, qqm, qqn, qqo, qqp, qqq, qqr, qqs, qqt, qqu, qqv, qqw, qqx, qqy, hwl, hlt, hxi, hput, putM_s, hw1, hw2, hw3, hw4, hu1, hu2, hg4, l4, e5, l5, e6, hws]
    rw [show k + (4 + 5 * ((a.book.list.length : Nat) : Int) + 2 * ((a.finished.length : Nat) : Int)) = k + 4 + 5 * (a.book.list.length : Nat) + 2 * (a.finished.length : Nat) from by omega]
  · rw [m6.get id (fun hc => hid (hin id (by simp [hc]))), m5.get id (fun hc => hid (hin id (by simp [hc]))), m4.get id (fun hc => hid (by rw [List.mem_singleton] at hc; rw [hc]; exact hs))]
  · refine fin g6 [.int .u64 k, .int .u64 (k + 1), .int .i64 (k + 2), .int .i64 (k + 3), x1, x2] _ (by rw [m6.next, m5.next, m4.next]; exact Nat.le_refl _) (fun id hid h3 h4 => ?_) (by rw [get6, ← hg4]; simp [Heap.put]) ⟨x1, p1, x2, p2, rfl, rfl, u1', u2⟩
    rw [m6.get id (fun hc => h4 (by simp [hc])), m5.get id (fun hc => h4 (by simp [hc])), m4.get id (by simpa using h3)]
theorem markShardS_r (hLShard : Has F tLShard) (hLAccount : Has F tLAccount) (hLFin : Has F tLFin) (w : SlR 16 Shard.RI h x xs fp) (nd : fp.Nodup) (hlo : ∀ id, id ∈ fp → h.floor ≤ id) (k : Int) (h1 : 0 ≤ k) (h2 : k + sumI Shard.wt1 xs ≤ 9200000000000000000) :
    ∃ h', call F Z 230 [.c x, .c (.int .i64 k)] h = some (.c (.int .i64 (k + sumI Shard.wt1 xs)), h') ∧ Mk h h' fp ∧ SlR 16 Shard.RI h' x (Shard.marksS xs k) fp := by
  have hle := w.le2
  have hnn : ∀ i, 0 ≤ sumI Shard.wt1 (xs.take i) := fun i => by
    have : ∀ ys : List Shard, 0 ≤ sumI Shard.wt1 ys := fun ys => by
      induction ys with
      | nil => simp [sumI]
      | cons a r ih => have := a.wt1_nn; simp only [sumI]; omega
    exact this _
  have hpre : ∀ i, sumI Shard.wt1 (xs.take i) ≤ sumI Shard.wt1 xs := fun i => by
    have e := sumI_app Shard.wt1 (xs.take i) (xs.drop i)
    rw [List.take_append_drop] at e
    have : ∀ ys : List Shard, 0 ≤ sumI Shard.wt1 ys := fun ys => by
      induction ys with
      | nil => simp [sumI]
      | cons a r ih => have := a.wt1_nn; simp only [sumI]; omega
    have := this (xs.drop i)
    omega
  rw [call_run F Z (hLShard.lk (g := 230) rfl) _ _ rfl]
  simp only [run0, run1, run2, run3, run4, noSlot, ownS, ownK, memN, RO.dst, lk, drop, forget, number, Nat.reduceBEq, cut?, splice?, builds, Nat.reduceAdd, Nat.reduceLeDiff, ↓reduceIte, reduceCtorEq, qqa, qqb, qqc, qqd, qqe, qqf, qqg, qqh, qqi, qqj, qqk, qql, qqm, qqn, qqo, qqp, qqq, qqr, qqs, qqt, qqu, qqv, qqw, qqx, qqy]
  obtain ⟨s', ⟨g, hs, m, u⟩, l1⟩ := loop_goes (F := F) (Z := Z) (live := [0, 1, 5]) (b := r230L0) xs.length (fun i s => ∃ g, s = ⟨[(0, .c x), (1, .c (.int .i64 (k + sumI Shard.wt1 (xs.take i)))), (5, .c (.int .i64 (i : Nat)))], [], [], g⟩ ∧ Mk h g fp ∧ SlR 16 Shard.RI g x (Shard.marksS (xs.take i) k ++ xs.drop i) fp) (fun i s hi ⟨g, hs, m, u⟩ => by
    subst hs
    have hi' : i < (Shard.marksS (xs.take i) k ++ xs.drop i).length := by rw [List.length_append, Shard.marksS_len, List.length_take, List.length_drop]; omega
    have e := Shard.mark_at hi k hi'
    have hst := sumI_take Shard.wt1 xs hi
    have hp := hpre (i + 1)
    have h0 := hnn i
    obtain ⟨g', e1, m1, u1⟩ := markShardS_turn (Z := Z) hLShard hLAccount hLFin u nd (fun id hid => by rw [m.fl]; exact hlo id hid) hi' (k + sumI Shard.wt1 (xs.take i)) (by omega) (by rw [e]; omega)
    rw [e, Shard.mark_step hi] at u1
    rw [e] at e1
    refine ⟨_, ⟨g', rfl, ⟨m1.next.trans m.next, m1.fl.trans m.fl, fun id hid => (m1.get id hid).trans (m.get id hid)⟩, u1⟩, ?_⟩
    rw [e1, hst, Int.add_assoc]) (s := ⟨[(0, .c x), (1, .c (.int .i64 k)), (5, .c (.int .i64 (0 : Nat)))], [], [], h⟩) ⟨h, by simp [sumI], Mk.refl _ _, by simpa [Shard.marksS] using w⟩
  subst hs
  simp only [show ((0 : Nat) : Int) = 0 from rfl, List.take_length] at l1
  simp only [List.take_length, List.drop_length, List.append_nil] at u
  rw [l1, loop_run]
  conv in (codeF _ _ r230L0 _) => unfold r230L0
  have hlt : ¬ (xs.length : Int) < xs.length := by omega
  have hl := u.len
  rw [Shard.marksS_len] at hl
  simp only [run0, run1, run2, run3, run4, noSlot, ownS, ownK, memN, RO.dst, lk, drop, forget, number, Nat.reduceBEq, cut?, splice?, builds, Nat.reduceAdd, Nat.reduceLeDiff, ↓reduceIte, reduceCtorEq, qqa, qqb, qqc, qqd, qqe, qqf, qqg, qqh, qqi, qqj, qqk, qql, qqm, qqn, qqo, qqp, qqq, qqr, qqs, qqt, qqu, qqv, qqw, qqx, qqy, hl, hlt]
  exact ⟨g, rfl, m, u⟩
end
namespace Store
def wt (s : Store) : Int := sumI Shard.wt1 s.shards
def marked (s : Store) (k : Int) : Store := { s with shards := Shard.marksS s.shards k }
end Store
theorem Store.wt_nn (s : Store) : 0 ≤ s.wt := by
  have : ∀ ys : List Shard, 0 ≤ sumI Shard.wt1 ys := fun ys => by
    induction ys with
    | nil => simp [sumI]
    | cons a r ih => have := a.wt1_nn; simp only [sumI]; omega
  exact this _
theorem Store.wt_le {s : Store} (sm : s.Small) : s.wt ≤ 8000000000000 := by
  obtain ⟨h1, h2⟩ := sm
  have h3 := sumI_le Shard.wt1 (m := 7340036) s.shards fun a ha => by
    obtain ⟨b1, b2⟩ := h2 a ha
    have b1' : a.book.list.length ≤ 1048576 := b1
    have := a.wt1_nn
    refine ⟨this, ?_⟩
    simp only [Shard.wt1]; omega
  have : s.wt = sumI Shard.wt1 s.shards := rfl
  omega
section
variable {F : Nat → Option RF} {Z : CallF} {h : Heap} {cs : List Cell} {t : Store} {fp : List Nat}
theorem markStore_r (hLStore : Has F tLStore) (hLShard : Has F tLShard) (hLBook : Has F tLBook) (hLAccount : Has F tLAccount) (hLFin : Has F tLFin) (v : Store.RI h cs t fp) (nd : fp.Nodup) (hlo : ∀ id, id ∈ fp → h.floor ≤ id) (k : Int) (h1 : 0 ≤ k) (h2 : k + t.wt ≤ 9200000000000000000) :
    ∃ h', call F Z 191 [.agg cs, .c (.int .i64 k)] h = some (.c (.int .i64 (k + t.wt)), h') ∧ Mk h h' fp ∧ Store.RI h' cs (t.marked k) fp := by
  obtain ⟨x, p, rfl, rfl, w⟩ := v
  obtain ⟨g, e, m, u⟩ := markShardS_r (Z := Z) hLShard hLAccount hLFin w nd hlo k h1 h2
  rw [call_run F Z (hLStore.lk (g := 191) rfl) _ _ rfl]
  simp only [run0, run1, run2, run3, run4, noSlot, ownS, ownK, memN, RO.dst, lk, drop, forget, number, Nat.reduceBEq, cut?, splice?, builds, Nat.reduceAdd, Nat.reduceLeDiff, ↓reduceIte, reduceCtorEq, qqa, qqb, qqc, qqd, qqe, qqf, qqg, qqh, qqi, qqj, qqk, qql, qqm, qqn, qqo, qqp, qqq, qqr, qqs, qqt, qqu, qqv, qqw, qqx, qqy, e]
  exact ⟨g, rfl, m, ⟨x, _, rfl, rfl, u⟩⟩
end
end Go.Proofs.Ytgfclcpnefinoaa.A
namespace Go.Proofs.Ytgfclcpnefinoaa.A
open Go
set_option linter.unusedSimpArgs false
set_option linter.unusedVariables false
def Store.zeroC : List Cell := [.int .i64 0, .int .i64 0, .nil]
section
variable {F : Nat → Option RF} {Z : CallF} {h : Heap} {x y : Cell} {xs ys : List Store} {fp fq : List Nat}
end
end Go.Proofs.Ytgfclcpnefinoaa.A
namespace Go.Proofs.Ytgfclcpnefinoaa.A
open Go
set_option linter.unusedSimpArgs false
set_option linter.unusedVariables false
theorem Shard.marksS_at : ∀ (xs : List Shard) (k : Int) (i : Nat) (hi : i < xs.length) (h : i < (Shard.marksS xs k).length), (Shard.marksS xs k)[i] = xs[i].mark1 (k + sumI Shard.wt1 (xs.take i))
  | [], k, i, hi, h => by simp at hi
  | t :: r, k, 0, hi, h => by simp [Shard.marksS, sumI]
  | t :: r, k, i + 1, hi, h => by
    simp only [Shard.marksS, List.getElem_cons_succ, List.take_succ_cons, sumI]
    rw [Shard.marksS_at r _ i (by simpa using hi)]
    simp [Int.add_assoc]
theorem Shard.sum_nn : ∀ xs : List Shard, 0 ≤ sumI Shard.wt1 xs
  | [] => by simp [sumI]
  | a :: r => by have := a.wt1_nn; have := Shard.sum_nn r; simp only [sumI]; omega
theorem Shard.sum_pre (xs : List Shard) (i : Nat) : sumI Shard.wt1 (xs.take i) ≤ sumI Shard.wt1 xs := by
  have e := sumI_app Shard.wt1 (xs.take i) (xs.drop i)
  rw [List.take_append_drop] at e
  have := Shard.sum_nn (xs.drop i)
  omega
section
variable {F : Nat → Option RF} {Z : CallF} {h : Heap} {x : Cell} {xs : List Shard} {fp : List Nat}
set_option maxHeartbeats 2000000 in
theorem heldShardS_r (hLShard : Has F tLShard) (hLAccount : Has F tLAccount) (hLFin : Has F tLFin) {k : Int} (w : SlR 16 Shard.RI h x (Shard.marksS xs k) fp) (h1 : 0 ≤ k) (h2 : k + sumI Shard.wt1 xs ≤ 9200000000000000000) :
    call F Z 322 [.c x, .c (.int .i64 k)] h = some (.c (.int .i64 (k + sumI Shard.wt1 xs)), h) := by
  have hle := w.le2
  have hl := w.len
  rw [Shard.marksS_len] at hl hle
  rw [call_run F Z (hLShard.lk (g := 322) rfl) _ _ rfl]
  simp only [run0, run1, run2, run3, run4, noSlot, ownS, ownK, memN, RO.dst, lk, drop, forget, number, Nat.reduceBEq, cut?, splice?, builds, Nat.reduceAdd, Nat.reduceLeDiff, ↓reduceIte, reduceCtorEq, qqa, qqb, qqc, qqd, qqe, qqf, qqg, qqh, qqi, qqj, qqk, qql, qqm, qqn, qqo, qqp, qqq, qqr, qqs, qqt, qqu, qqv, qqw, qqx, qqy]
  obtain ⟨s', hs, l1⟩ := loop_goes (F := F) (Z := Z) (live := [0, 1, 5]) (b := r322L0) xs.length (fun i s => s = ⟨[(0, .c x), (1, .c (.int .i64 (k + sumI Shard.wt1 (xs.take i)))), (5, .c (.int .i64 (i : Nat)))], [], [], h⟩) (fun i s hi hs => by
    subst hs
    refine ⟨_, rfl, ?_⟩
    have hi' : i < (Shard.marksS xs k).length := by rw [Shard.marksS_len]; exact hi
    have hst := sumI_take Shard.wt1 xs hi
    have hp := Shard.sum_pre xs (i + 1)
    have h0 := Shard.sum_nn (xs.take i)
    have hlt : (i : Int) < xs.length := by omega
    have hws := wrapS i (by omega)
    have hxi := w.idx hi'
    obtain ⟨r, f, l4, hR, _⟩ := w.one hi'
    rw [Shard.marksS_at xs k i hi] at hR
    rw [hst]
    generalize xs[i] = a at *
    generalize hkk : k + sumI Shard.wt1 (xs.take i) = q at *
    rw [show k + (sumI Shard.wt1 (xs.take i) + a.wt1) = q + a.wt1 from by omega]
    have hq0 : 0 ≤ q := by omega
    have hq1 : q + a.wt1 ≤ 9200000000000000000 := by omega
    simp only [Shard.wt1] at hq1 ⊢
    obtain ⟨x1, p1, x2, p2, rfl, rfl, w1, w2⟩ := hR
    have e5 := heldAccountS_run (Z := Z) hLAccount (n := a.book.list.length) (k := q + 4) w1 (by omega) (by omega)
    have e6 := heldFinS_run (Z := Z) hLFin (n := a.finished.length) (k := q + 4 + 5 * (a.book.list.length : Nat)) w2 (by omega) (by omega)
    have hw1 := wrapI1 q (by omega) (by omega)
    have hw2 : IntKind.i64.wrap (q + 1 + 1) = q + 2 := by rw [wrapI _ (by omega) (by omega)]; omega
    have hw3 : IntKind.i64.wrap (q + 2 + 1) = q + 3 := by rw [wrapI _ (by omega) (by omega)]; omega
    have hw4 : IntKind.i64.wrap (q + 3 + 1) = q + 4 := by rw [wrapI _ (by omega) (by omega)]; omega
    have hu1 := wrapU1 q (by omega) (by omega)
    have hu2 := wrapU1 (q + 1) (by omega) (by omega)
    have n0 : ¬ q + 4 + 5 * ((a.book.list.length : Nat) : Int) < 0 := by omega
    have n1 : ¬ q + 4 + 5 * ((a.book.list.length : Nat) : Int) + 2 * ((a.finished.length : Nat) : Int) < 0 := by omega
    rw [loop_run]
    conv in (codeF _ _ r322L0 _) => unfold r322L0
    simp only [Shard.mark1] at l4
    simp only [run0, run1, run2, run3, run4, noSlot, ownS, ownK, memN, RO.dst, lk, drop, forget, number, Nat.reduceBEq, cut?, splice?, builds, Nat.reduceAdd, Nat.reduceLeDiff, ↓reduceIte, reduceCtorEq, qqa, qqb, qqc, qqd, qqe, qqf, qqg, qqh, qqi, qqj, qqk, qql, qqm, qqn, qqo, qqp, qqq, qqr, qqs, qqt, qqu, qqv, qqw, qqx, qqy, hl, hlt, hxi, l4, hw1, hw2, hw3, hw4, hu1, hu2, e5, e6, n0, n1, hws]
    rw [show q + (4 + 5 * ((a.book.list.length : Nat) : Int) + 2 * ((a.finished.length : Nat) : Int)) = q + 4 + 5 * (a.book.list.length : Nat) + 2 * (a.finished.length : Nat) from by omega]) (s := ⟨[(0, .c x), (1, .c (.int .i64 k)), (5, .c (.int .i64 (0 : Nat)))], [], [], h⟩) (by simp [sumI])
  subst hs
  simp only [show ((0 : Nat) : Int) = 0 from rfl, List.take_length] at l1
  rw [l1, loop_run]
  conv in (codeF _ _ r322L0 _) => unfold r322L0
  have hlt : ¬ (xs.length : Int) < xs.length := by omega
  simp only [run0, run1, run2, run3, run4, noSlot, ownS, ownK, memN, RO.dst, lk, drop, forget, number, Nat.reduceBEq, cut?, splice?, builds, Nat.reduceAdd, Nat.reduceLeDiff, ↓reduceIte, reduceCtorEq, qqa, qqb, qqc, qqd, qqe, qqf, qqg, qqh, qqi, qqj, qqk, qql, qqm, qqn, qqo, qqp, qqq, qqr, qqs, qqt, qqu, qqv, qqw, qqx, qqy, hl, hlt]
end
section
variable {F : Nat → Option RF} {Z : CallF} {h : Heap} {cs : List Cell} {t : Store} {fp : List Nat}
theorem heldStore_r (hLStore : Has F tLStore) (hLShard : Has F tLShard) (hLBook : Has F tLBook) (hLAccount : Has F tLAccount) (hLFin : Has F tLFin) {k : Int} (v : Store.RI h cs (t.marked k) fp) (h1 : 0 ≤ k) (h2 : k + t.wt ≤ 9200000000000000000) :
    call F Z 292 [.agg cs, .c (.int .i64 k)] h = some (.c (.int .i64 (k + t.wt)), h) := by
  obtain ⟨x, p, rfl, rfl, w⟩ := v
  have e := heldShardS_r (Z := Z) hLShard hLAccount hLFin (xs := t.shards) w h1 h2
  have hn := t.wt_nn
  rw [call_run F Z (hLStore.lk (g := 292) rfl) _ _ rfl]
  have he : sumI Shard.wt1 t.shards = t.wt := rfl
  rw [he] at e
  have hk : ¬ k + t.wt < 0 := by omega
  simp only [run0, run1, run2, run3, run4, noSlot, ownS, ownK, memN, RO.dst, lk, drop, forget, number, Nat.reduceBEq, cut?, splice?, builds, Nat.reduceAdd, Nat.reduceLeDiff, ↓reduceIte, reduceCtorEq, qqa, qqb, qqc, qqd, qqe, qqf, qqg, qqh, qqi, qqj, qqk, qql, qqm, qqn, qqo, qqp, qqq, qqr, qqs, qqt, qqu, qqv, qqw, qqx, qqy, e, hk]
end
def Store.mark1 (t : Store) (k : Int) : Store := ⟨k, k + 1, Shard.marksS t.shards (k + 2)⟩
def Store.wt1 (t : Store) : Int := 2 + sumI Shard.wt1 t.shards
def Store.marksS : List Store → Int → List Store
  | [], _ => []
  | t :: r, k => t.mark1 k :: Store.marksS r (k + t.wt1)
theorem Store.wt1_nn (t : Store) : 0 ≤ t.wt1 := by have := Shard.sum_nn t.shards; simp only [wt1]; omega
theorem Store.sum_nn : ∀ xs : List Store, 0 ≤ sumI Store.wt1 xs
  | [] => by simp [sumI]
  | a :: r => by have := a.wt1_nn; have := Store.sum_nn r; simp only [sumI]; omega
theorem Store.sum_pre (xs : List Store) (i : Nat) : sumI Store.wt1 (xs.take i) ≤ sumI Store.wt1 xs := by
  have e := sumI_app Store.wt1 (xs.take i) (xs.drop i)
  rw [List.take_append_drop] at e
  have := Store.sum_nn (xs.drop i)
  omega
theorem Store.marksS_len : ∀ (xs : List Store) (k : Int), (Store.marksS xs k).length = xs.length
  | [], _ => rfl
  | t :: r, k => by simp only [Store.marksS, List.length_cons, Store.marksS_len r]
theorem Store.marksS_app : ∀ (xs ys : List Store) (k : Int), Store.marksS (xs ++ ys) k = Store.marksS xs k ++ Store.marksS ys (k + sumI Store.wt1 xs)
  | [], ys, k => by simp [Store.marksS, sumI]
  | t :: r, ys, k => by
    simp only [List.cons_append, Store.marksS, Store.marksS_app r ys, sumI, Int.add_assoc]
theorem Store.mark_step {xs : List Store} {i : Nat} (hi : i < xs.length) (k : Int) :
    (Store.marksS (xs.take i) k ++ xs.drop i).set i (xs[i].mark1 (k + sumI Store.wt1 (xs.take i))) = Store.marksS (xs.take (i + 1)) k ++ xs.drop (i + 1) := by
  have hl : (Store.marksS (xs.take i) k).length = i := by rw [Store.marksS_len, List.length_take]; omega
  rw [List.set_append_right _ _ (by omega), hl, Nat.sub_self, List.drop_eq_getElem_cons hi, List.set_cons_zero, List.take_add_one, List.getElem?_eq_getElem hi, Store.marksS_app]
  simp [Store.marksS]
theorem Store.mark_at {xs : List Store} {i : Nat} (hi : i < xs.length) (k : Int) (h : i < (Store.marksS (xs.take i) k ++ xs.drop i).length) : (Store.marksS (xs.take i) k ++ xs.drop i)[i] = xs[i] := by
  have hl : (Store.marksS (xs.take i) k).length = i := by rw [Store.marksS_len, List.length_take]; omega
  rw [List.getElem_append_right (by omega)]
  simp [hl]
section
variable {F : Nat → Option RF} {Z : CallF} {h : Heap} {x : Cell} {xs : List Store} {fp : List Nat}
end
end Go.Proofs.Ytgfclcpnefinoaa.A
namespace Go.Proofs.Ytgfclcpnefinoaa.A
open Go
set_option linter.unusedSimpArgs false
set_option linter.unusedVariables false
def IntOk (z : Int) : Prop := -9223372036854775808 ≤ z ∧ z ≤ 9223372036854775807
theorem Wf.isIntS {h : Heap} {n : Nat} {x : Cell} (w : Wf h (n + 2) shIntS [x]) : ∃ xs fp, SlR 15 (Fl int_enc) h x xs fp ∧ ∀ t, t ∈ xs → IntOk t :=
  SlR.ofWf (R := Fl int_enc) (A := IntOk) (fun r hr => by
    obtain ⟨hl, z, rfl, hz⟩ := hr
    exact ⟨z, [], ⟨rfl, rfl⟩, wfI hz⟩) w
section
variable {F : Nat → Option RF} {Z : CallF} {h : Heap} {x : Cell} {xs : List Int} {fp : List Nat}
theorem toIntS_run (hL : Has F tLInt) (hf : h.floor ≤ h.next) (w : SlR 15 (Fl int_enc) h x xs fp) (hn : xs.length ≤ 1048576) : call F Z 360 [.c x] h = some (.c (.sl 15 h.next 0 xs.length), h.push (xs.map int_enc)) := by
  rw [call_run F Z (hL.lk (g := 360) rfl) _ _ rfl]
  simp only [run0, run1, run2, run3, run4, noSlot, ownS, ownK, memN, RO.dst, lk, drop, forget, number, Nat.reduceBEq, cut?, splice?, builds, Nat.reduceAdd, Nat.reduceLeDiff, ↓reduceIte, reduceCtorEq, qqa, qqb, qqc, qqd, qqe, qqf, qqg, qqh, qqi, qqj, qqk, qql, qqm, qqn, qqo, qqp, qqq, qqr, qqs, qqt, qqu, qqv, qqw, qqx, qqy, w.len]
  rw [if_pos (by omega)]
  simp only [run0, run1, run2, run3, run4, noSlot, ownS, ownK, memN, RO.dst, lk, drop, forget, number, Nat.reduceBEq, cut?, splice?, builds, Nat.reduceAdd, Nat.reduceLeDiff, ↓reduceIte, reduceCtorEq, qqa, qqb, qqc, qqd, qqe, qqf, qqg, qqh, qqi, qqj, qqk, qql, qqm, qqn, qqo, qqp, qqq, qqr, qqs, qqt, qqu, qqv, qqw, qqx, qqy, Int.toNat_natCast]
  have key : loop F Z [0, 3, 4] r360L0 ⟨[(0, .c x), (3, .c (.sl 15 h.next 0 xs.length)), (4, .c (.int .i64 (0 : Nat)))], [], [], h.push (fillR int_enc [.int .i64 0] xs 0)⟩ = loop F Z [0, 3, 4] r360L0 ⟨[(0, .c x), (3, .c (.sl 15 h.next 0 xs.length)), (4, .c (.int .i64 (xs.length : Nat)))], [], [], h.push (fillR int_enc [.int .i64 0] xs xs.length)⟩ :=
    loop_goesF xs.length (fun i => ⟨[(0, .c x), (3, .c (.sl 15 h.next 0 xs.length)), (4, .c (.int .i64 (i : Nat)))], [], [], h.push (fillR int_enc [.int .i64 0] xs i)⟩) fun i hi => by
      have w' := w.mono (Fl.ok _) (HExt.push h (fillR int_enc [.int .i64 0] xs i))
      have hlt : (i : Int) < xs.length := by omega
      have h0 : (0 : Int) ≤ i := by omega
      have hst := storeP_push hf (fillR_get int_enc [.int .i64 0] xs hi) (int_enc_len xs[i])
      have hld := w'.load hi
      simp only [int_enc] at hst hld
      rw [loop_run]
      simp only [r360L0, run0, run1, run2, run3, run4, noSlot, ownS, ownK, memN, RO.dst, lk, drop, forget, number, Nat.reduceBEq, cut?, splice?, builds, Nat.reduceAdd, Nat.reduceLeDiff, ↓reduceIte, reduceCtorEq, qqa, qqb, qqc, qqd, qqe, qqf, qqg, qqh, qqi, qqj, qqk, qql, qqm, qqn, qqo, qqp, qqq, qqr, qqs, qqt, qqu, qqv, qqw, qqx, qqy, w.len, hlt, w.idx hi, hld, h0, and_self, Int.toNat_natCast, hst, wrapS i (by omega)]
      rw [← fillR_set int_enc [.int .i64 0] xs hi]
      rfl
  rw [fillR_0] at key
  rw [fillR_n] at key
  rw [show ((0 : Nat) : Int) = 0 from rfl] at key
  rw [key, loop_run]
  have hlt : ¬ (xs.length : Int) < xs.length := by omega
  simp only [r360L0, run0, run1, run2, run3, run4, noSlot, ownS, ownK, memN, RO.dst, lk, drop, forget, number, Nat.reduceBEq, cut?, splice?, builds, Nat.reduceAdd, Nat.reduceLeDiff, ↓reduceIte, reduceCtorEq, qqa, qqb, qqc, qqd, qqe, qqf, qqg, qqh, qqi, qqj, qqk, qql, qqm, qqn, qqo, qqp, qqq, qqr, qqs, qqt, qqu, qqv, qqw, qqx, qqy, w.len, hlt]
theorem toIntS_c (hL : Has F tLInt) (hf : h.floor ≤ h.next) (w : SlR 15 (Fl int_enc) h x xs fp) (hn : xs.length ≤ 1048576) : ∃ y h' fq, call F Z 360 [.c x] h = some (.c y, h') ∧ On h h' ∧ SlR 15 (Fl int_enc) h' y xs fq ∧ Fre h fq :=
  ⟨_, _, _, toIntS_run hL hf w hn, On.push _ _, SlR.ofFlat w.le (push_get _ _) (by rw [push_next]; omega), Fre.one h⟩
end
end Go.Proofs.Ytgfclcpnefinoaa.A
