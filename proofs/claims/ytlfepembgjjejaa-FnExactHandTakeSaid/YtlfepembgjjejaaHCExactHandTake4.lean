/- The functions that the statement reaches, part 4: bodies and what they compute. No condition. -/
import Derived.Test.YtlfepembgjjejaaHCExactHandTake3
/- A shard is put into a store, the reference's way. -/
namespace Go.Proofs.Ytlfepembgjjejaa.A
open Go
set_option linter.unusedSimpArgs false
set_option linter.unusedVariables false
section
variable {F : Nat → Option RF} {Z : CallF} {h h1 : Heap} {c : Cell} {xs : List Shard} {fp fq fr : List Nat} {cs ds : List Cell} {s : Store} {x t : Shard}
theorem AccM.base {α : Type} {R : Rel α} {tag : Nat} {h0 h1 g : Heap} {y : Cell} {xs : List α} {fp : List Nat} (a : AccM R tag h1 g y xs fp) (o : On h0 h1) : AccM R tag h0 g y xs fp :=
  ⟨o.trans a.on, a.sh, ⟨fun id hid => Nat.le_trans o.ext.1 (a.fr.lo id hid), a.fr.nd⟩⟩
theorem AccM.old {α : Type} {R : Rel α} {tag : Nat} {h0 h1 g : Heap} {y : Cell} {xs : List α} {fp : List Nat} (a : AccM R tag h1 g y xs fp) (h : On h0 h1) {fy : List Nat} (hy : ∀ id, id ∈ fy → id < h1.next) : ∀ id, id ∈ fy → id ∉ fp := fun id h1 h2 => by
  have := hy id h1; have := a.fr.lo id h2; omega
theorem sinst_turn (w : SlR 16 Shard.RI h c s.shards fp) (e1 : call F Z 317 [.agg [.int .i64 s.group, .int .i64 s.seen, c]] h = some (.agg ds, h1)) (hd : ds.length = 3) (e : Int) (b f : Cell) {i : Nat} (hi : i < s.shards.length) :
    Turn (loop F Z [2, 3, 4, 6, 8] r308L1 ⟨[(2, .c (.int .i64 e)), (8, .c (.int .i64 (i : Nat)))], [(3, 3, 0), (4, 4, 0), (6, 6, 0)], [(3, [.int .i64 s.group, .int .i64 s.seen, c]), (4, x.cells b f), (6, [.int .i64 0, .int .i64 0, .nil])], h⟩)
      (loop F Z [2, 3, 4, 6, 8] r308L1 ⟨[(2, .c (.int .i64 e)), (8, .c (.int .i64 ((i + 1 : Nat) : Int)))], [(3, 3, 0), (4, 4, 0), (6, 6, 0)], [(3, [.int .i64 s.group, .int .i64 s.seen, c]), (4, x.cells b f), (6, [.int .i64 0, .int .i64 0, .nil])], h⟩)
      (!x.over s.shards[i]) (fun s' => lk s'.env 7 = some (.c (.bool false)) ∧ lk s'.adr 6 = some (6, 0) ∧ lk s'.loc 6 = some ds ∧ s'.hp = h1) := by
  have hle := w.le2
  have hwl := w.len
  have hlt : (i : Int) < s.shards.length := by omega
  have hws := wrapS i (by omega)
  have hxi := w.idx hi
  obtain ⟨r, q, hld, hR, _⟩ := w.one hi
  obtain ⟨x1, p1, x2, p2, rfl, _⟩ := hR
  clear w
  generalize s.shards[i] = a at *
  obtain ⟨d0, d1, d2, rfl⟩ : ∃ a b c, ds = [a, b, c] := by
    match ds, hd with
    | [a, b, c], _ => exact ⟨a, b, c, rfl⟩
  rw [loop_run]
  conv in (codeF _ _ r308L1 _) => unfold r308L1
  have ho : x.over a = (decide (a.lo ≤ x.hi) && decide (x.lo ≤ a.hi)) := rfl
  simp only [Shard.cells]
  by_cases c1 : a.lo ≤ x.hi
  · by_cases c2 : x.lo ≤ a.hi
    · simp only [run0, run1, run2, run3, run4, noSlot, memN, RO.dst, lk, drop, forget, number, Nat.reduceBEq, cut?, splice?, builds, List.length_cons, List.length_nil, List.drop_succ_cons, List.drop_zero, List.take_succ_cons, List.take_zero, List.cons_append, List.nil_append, List.append_nil, List.drop_nil, List.take_nil, Nat.reduceAdd, Nat.reduceLeDiff, Nat.zero_add, Nat.add_zero, ↓reduceIte, Bool.not_true, Bool.not_false, decide_true, decide_false, eq_self, bne_self_eq_false, List.getElem?_cons_zero, List.getElem?_cons_succ, decide_eq_true_eq, Bool.false_eq_true, Bool.true_eq_false, reduceCtorEq, Nat.le_refl, hwl, hlt, hxi, hld, c1, c2, e1]
      exact .inr ⟨by simp [ho, c1, c2], _, rfl, rfl, rfl, rfl, rfl⟩
    · simp only [run0, run1, run2, run3, run4, noSlot, memN, RO.dst, lk, drop, forget, number, Nat.reduceBEq, cut?, splice?, builds, List.length_cons, List.length_nil, List.drop_succ_cons, List.drop_zero, List.take_succ_cons, List.take_zero, List.cons_append, List.nil_append, List.append_nil, List.drop_nil, List.take_nil, Nat.reduceAdd, Nat.reduceLeDiff, Nat.zero_add, Nat.add_zero, ↓reduceIte, Bool.not_true, Bool.not_false, decide_true, decide_false, eq_self, bne_self_eq_false, List.getElem?_cons_zero, List.getElem?_cons_succ, decide_eq_true_eq, Bool.false_eq_true, Bool.true_eq_false, reduceCtorEq, Nat.le_refl, hwl, hlt, hxi, hld, c1, c2, hws]
      exact .inl ⟨by simp [ho, c2], rfl⟩
  · simp only [run0, run1, run2, run3, run4, noSlot, memN, RO.dst, lk, drop, forget, number, Nat.reduceBEq, cut?, splice?, builds, List.length_cons, List.length_nil, List.drop_succ_cons, List.drop_zero, List.take_succ_cons, List.take_zero, List.cons_append, List.nil_append, List.append_nil, List.drop_nil, List.take_nil, Nat.reduceAdd, Nat.reduceLeDiff, Nat.zero_add, Nat.add_zero, ↓reduceIte, Bool.not_true, Bool.not_false, decide_true, decide_false, eq_self, bne_self_eq_false, List.getElem?_cons_zero, List.getElem?_cons_succ, decide_eq_true_eq, Bool.false_eq_true, Bool.true_eq_false, reduceCtorEq, Nat.le_refl, hwl, hlt, hxi, hld, c1, hws]
    exact .inl ⟨by simp [ho, c1], rfl⟩
theorem Shard.renew_awake (x : Shard) (e : Int) : Shard.renew e { x with state := 0, epoch := e } = Shard.renew e x.awake := rfl
theorem Store.plus_renew (s : Store) (x : Shard) (e : Int) : (⟨s.group, e, s.shards.take (s.spot x) ++ [{ x with state := 0, epoch := e }] ++ s.shards.drop (s.spot x)⟩ : Store).renew e = (s.plus x).renew e := by
  simp only [Store.renew, Store.plus, List.map_append, List.map_cons, List.map_nil, Shard.renew_awake]
set_option maxHeartbeats 2000000 in
theorem sInstallShard_c (k : KS F) (hf : h.floor ≤ h.next) (v : Store.RI h cs s fp) (u : Shard.RI h ds x fq) (e : Int) (ok : s.Ok) (sm : s.Small) (okx : x.Ok) (smx : x.Small) :
    ∃ cs' h' fq, call F Z 308 [.agg cs, .agg ds, .c (.int .i64 e)] h = some (.tup [.agg cs', .c (.bool (installShard s x e).2)], h') ∧ On h h' ∧ Store.RI h' cs' (installShard s x e).1 fq ∧ Fre h fq := by
  obtain ⟨l1, l2, l3⟩ := Store.lenI v
  obtain ⟨d1, d2, d3⟩ := Shard.lenI u
  obtain ⟨cs1, h1, fr, e1, o1, v1, f1⟩ := l13Copy_c (Z := Z) k hf v sm
  obtain ⟨m1, m2, m3⟩ := Store.lenI v1
  have e2 := l13Next_run (Z := Z) k v ok e
  have e3 := l13Shard_run (Z := Z) k.s01 k.s10 k.s13 u okx
  rw [call_run F Z (k.s13.lk (g := 308) rfl) _ _ rfl]
  cases hn : s.next e with
  | false =>
    rw [hn] at e2
    rw [install_no (by simp [installable, hn])]
    simp only [run0, run1, run2, run3, run4, noSlot, memN, RO.dst, lk, drop, forget, number, Nat.reduceBEq, cut?, splice?, builds, List.length_cons, List.length_nil, List.drop_succ_cons, List.drop_zero, List.take_succ_cons, List.take_zero, List.cons_append, List.nil_append, List.append_nil, List.drop_nil, List.take_nil, Nat.reduceAdd, Nat.reduceLeDiff, Nat.zero_add, Nat.add_zero, ↓reduceIte, Bool.not_true, Bool.not_false, decide_true, decide_false, eq_self, bne_self_eq_false, List.getElem?_cons_zero, List.getElem?_cons_succ, decide_eq_true_eq, Bool.false_eq_true, Bool.true_eq_false, reduceCtorEq, Nat.le_refl, l1, l2, l3, d1, d2, d3, m1, m2, m3, e1, e2]
    exact ⟨_, _, _, rfl, o1, v1, f1⟩
  | true =>
    rw [hn] at e2
    cases gd : x.good with
    | false =>
      rw [gd] at e3
      rw [install_no (by simp [installable, gd])]
      simp only [run0, run1, run2, run3, run4, noSlot, memN, RO.dst, lk, drop, forget, number, Nat.reduceBEq, cut?, splice?, builds, List.length_cons, List.length_nil, List.drop_succ_cons, List.drop_zero, List.take_succ_cons, List.take_zero, List.cons_append, List.nil_append, List.append_nil, List.drop_nil, List.take_nil, Nat.reduceAdd, Nat.reduceLeDiff, Nat.zero_add, Nat.add_zero, ↓reduceIte, Bool.not_true, Bool.not_false, decide_true, decide_false, eq_self, bne_self_eq_false, List.getElem?_cons_zero, List.getElem?_cons_succ, decide_eq_true_eq, Bool.false_eq_true, Bool.true_eq_false, reduceCtorEq, Nat.le_refl, l1, l2, l3, d1, d2, d3, m1, m2, m3, e1, e2, e3]
      exact ⟨_, _, _, rfl, o1, v1, f1⟩
    | true =>
      rw [gd] at e3
      obtain ⟨xc, p, rfl, hp, wx⟩ := v
      subst hp
      obtain ⟨cs4, h4, ft, e4, o4, u4, f4⟩ := l13CopyShard_c (Z := Z) k.s10 k.s13 hf u smx
      obtain ⟨b, pb, f, pf, rfl, hq, _⟩ := u
      have hwl := wx.len
      by_cases c1 : x.state = 1
      case neg =>
        have hb : (x.state != 1) = true := by simpa using c1
        rw [install_no (by simp [installable, c1])]
        simp only [run0, run1, run2, run3, run4, noSlot, memN, RO.dst, lk, drop, forget, number, Nat.reduceBEq, cut?, splice?, builds, List.length_cons, List.length_nil, List.drop_succ_cons, List.drop_zero, List.take_succ_cons, List.take_zero, List.cons_append, List.nil_append, List.append_nil, List.drop_nil, List.take_nil, Nat.reduceAdd, Nat.reduceLeDiff, Nat.zero_add, Nat.add_zero, ↓reduceIte, Bool.not_true, Bool.not_false, decide_true, decide_false, eq_self, bne_self_eq_false, List.getElem?_cons_zero, List.getElem?_cons_succ, decide_eq_true_eq, Bool.false_eq_true, Bool.true_eq_false, reduceCtorEq, Nat.le_refl, l1, l2, l3, d1, d2, d3, m1, m2, m3, e1, e2, e3, hb]
        exact ⟨_, _, _, rfl, o1, v1, f1⟩
      have hb : (x.state != 1) = false := by simpa using c1
      by_cases c2 : e ≤ x.epoch
      case pos =>
        have c2' : ¬ x.epoch < e := by omega
        rw [install_no (by simp [installable, c2'])]
        simp only [run0, run1, run2, run3, run4, noSlot, memN, RO.dst, lk, drop, forget, number, Nat.reduceBEq, cut?, splice?, builds, List.length_cons, List.length_nil, List.drop_succ_cons, List.drop_zero, List.take_succ_cons, List.take_zero, List.cons_append, List.nil_append, List.append_nil, List.drop_nil, List.take_nil, Nat.reduceAdd, Nat.reduceLeDiff, Nat.zero_add, Nat.add_zero, ↓reduceIte, Bool.not_true, Bool.not_false, decide_true, decide_false, eq_self, bne_self_eq_false, List.getElem?_cons_zero, List.getElem?_cons_succ, decide_eq_true_eq, Bool.false_eq_true, Bool.true_eq_false, reduceCtorEq, Nat.le_refl, l1, l2, l3, d1, d2, d3, m1, m2, m3, e1, e2, e3, hb, c2]
        exact ⟨_, _, _, rfl, o1, v1, f1⟩
      by_cases c3 : ((s.shards.length : Int) == 8) = true
      case pos =>
        rw [install_no (by simp [installable, c3])]
        simp only [run0, run1, run2, run3, run4, noSlot, memN, RO.dst, lk, drop, forget, number, Nat.reduceBEq, cut?, splice?, builds, List.length_cons, List.length_nil, List.drop_succ_cons, List.drop_zero, List.take_succ_cons, List.take_zero, List.cons_append, List.nil_append, List.append_nil, List.drop_nil, List.take_nil, Nat.reduceAdd, Nat.reduceLeDiff, Nat.zero_add, Nat.add_zero, ↓reduceIte, Bool.not_true, Bool.not_false, decide_true, decide_false, eq_self, bne_self_eq_false, List.getElem?_cons_zero, List.getElem?_cons_succ, decide_eq_true_eq, Bool.false_eq_true, Bool.true_eq_false, reduceCtorEq, Nat.le_refl, l1, l2, l3, d1, d2, d3, m1, m2, m3, e1, e2, e3, hb, c2, hwl, c3]
        exact ⟨_, _, _, rfl, o1, v1, f1⟩
      have c3' : ((s.shards.length : Int) == 8) = false := by simpa using c3
      have hi : installable s x e = true := by
        have : x.epoch < e := by omega
        simp only [installable, hn, gd, c1, c3', this, decide_true, Bool.true_and, Bool.not_false, beq_self_eq_true]
      simp only [run0, run1, run2, run3, run4, noSlot, memN, RO.dst, lk, drop, forget, number, Nat.reduceBEq, cut?, splice?, builds, List.length_cons, List.length_nil, List.drop_succ_cons, List.drop_zero, List.take_succ_cons, List.take_zero, List.cons_append, List.nil_append, List.append_nil, List.drop_nil, List.take_nil, Nat.reduceAdd, Nat.reduceLeDiff, Nat.zero_add, Nat.add_zero, ↓reduceIte, Bool.not_true, Bool.not_false, decide_true, decide_false, eq_self, bne_self_eq_false, List.getElem?_cons_zero, List.getElem?_cons_succ, decide_eq_true_eq, Bool.false_eq_true, Bool.true_eq_false, reduceCtorEq, Nat.le_refl, l1, l2, l3, d1, d2, d3, e2, e3, hb, c2, hwl, c3']
      have key := loop_all (F := F) (Z := Z) (live := [2, 3, 4, 6, 8]) (b := r308L1) s.shards (fun i => ⟨[(2, .c (.int .i64 e)), (8, .c (.int .i64 (i : Nat)))], [(3, 3, 0), (4, 4, 0), (6, 6, 0)], [(3, [.int .i64 s.group, .int .i64 s.seen, xc]), (4, x.cells b f), (6, [.int .i64 0, .int .i64 0, .nil])], h⟩) (fun a => !x.over a) _ (fun i hi => sinst_turn wx e1 m1 e b f hi)
      rw [all_not] at key
      simp only [show ((0 : Nat) : Int) = 0 from rfl, Shard.cells] at key
      rcases key with ⟨a1, a2⟩ | ⟨a1, s', a2, a3, a4, a5, a6⟩
      case inr =>
        rw [install_over (by simpa using a1), a2]
        simp only [run0, run1, run2, run3, run4, noSlot, memN, RO.dst, lk, drop, forget, number, Nat.reduceBEq, cut?, splice?, builds, List.length_cons, List.length_nil, List.drop_succ_cons, List.drop_zero, List.take_succ_cons, List.take_zero, List.cons_append, List.nil_append, List.append_nil, List.drop_nil, List.take_nil, Nat.reduceAdd, Nat.reduceLeDiff, Nat.zero_add, Nat.add_zero, ↓reduceIte, Bool.not_true, Bool.not_false, decide_true, decide_false, eq_self, bne_self_eq_false, List.getElem?_cons_zero, List.getElem?_cons_succ, decide_eq_true_eq, Bool.false_eq_true, Bool.true_eq_false, reduceCtorEq, Nat.le_refl, a3, a4, a5, a6, m1, m2, m3]
        exact ⟨_, _, _, rfl, o1, v1, f1⟩
      have ho : s.shards.any x.over = false := by simpa using a1
      have hgood : s.good = true := by
        simp only [Store.next, Bool.and_eq_true] at hn
        exact hn.1
      rw [install_yes hi ho, a2, loop_run]
      conv in (codeF _ _ r308L1 _) => unfold r308L1
      have hlt : ¬ (s.shards.length : Int) < s.shards.length := by omega
      obtain ⟨b4, pb4, f4c, pf4, rfl, hq4, wb4, wf4⟩ := u4
      subst hq4
      have hs8 : s.shards.length < 9 := by
        simp only [installable, Store.next, Store.good, Bool.and_eq_true, decide_eq_true_eq] at hi
        omega
      have hy : Shard.RI h4 [.int .u64 x.lo, .int .u64 x.hi, .int .i64 0, .int .i64 e, b4, f4c] { x with state := 0, epoch := e } (pb4 ++ pf4) := ⟨b4, pb4, f4c, pf4, rfl, rfl, wb4, wf4⟩
      have hylt : ∀ id, id ∈ pb4 ++ pf4 → id < h4.next := Shard.okI.lt hy
      simp only [run0, run1, run2, run3, run4, noSlot, memN, RO.dst, lk, drop, forget, number, Nat.reduceBEq, cut?, splice?, builds, List.length_cons, List.length_nil, List.drop_succ_cons, List.drop_zero, List.take_succ_cons, List.take_zero, List.cons_append, List.nil_append, List.append_nil, List.drop_nil, List.take_nil, Nat.reduceAdd, Nat.reduceLeDiff, Nat.zero_add, Nat.add_zero, ↓reduceIte, Bool.not_true, Bool.not_false, decide_true, decide_false, eq_self, bne_self_eq_false, List.getElem?_cons_zero, List.getElem?_cons_succ, decide_eq_true_eq, Bool.false_eq_true, Bool.true_eq_false, reduceCtorEq, Nat.le_refl, hwl, hlt, e4]
      clear a2 e2 e3 d1 d2 d3 l1 l2 l3 m1 m2 m3 e1 o1 v1 f1 e4
      obtain ⟨s', ⟨y, g, fq, hs, a, ap⟩, lp⟩ := loop_goes (F := F) (Z := Z) (live := [2, 3, 6, 9, 10, 11, 12]) (b := r308L0) s.shards.length (fun i st => ∃ y g fq, st = ⟨[(2, .c (.int .i64 e)), (11, .c (.bool (decide (s.spot x < i)))), (12, .c (.int .i64 (i : Nat)))], [(3, 3, 0), (6, 6, 0), (9, 9, 0), (10, 10, 0)], [(3, [.int .i64 s.group, .int .i64 s.seen, xc]), (6, [.int .i64 0, .int .i64 0, .nil]), (9, [.int .i64 s.group, .int .i64 e, y]), (10, [.int .u64 x.lo, .int .u64 x.hi, .int .i64 0, .int .i64 e, b4, f4c])], g⟩ ∧
          AccM Shard.RI 16 h g y (s.part { x with state := 0, epoch := e } (s.spot x) i) fq ∧ (i ≤ s.spot x → AccM Shard.RI 16 h4 g y (s.part { x with state := 0, epoch := e } (s.spot x) i) fq)) (fun i st hi ⟨y, g, fq, hs, a, ap⟩ => by
        subst hs
        have hlt : (i : Int) < s.shards.length := by omega
        have hle := wx.le2
        have hws := wrapS i (by omega)
        have hxi := wx.idx hi
        have hgt := Store.spot_gt hgood gd ho hi
        have hpl := s.part_len { x with state := 0, epoch := e } (s.spot x) i
        obtain ⟨q1, qf, hld0, hR0, _⟩ := (wx.on Shard.okI a.on).one hi
        rw [loop_run]
        conv in (codeF _ _ r308L0 _) => unfold r308L0
        by_cases hp : s.spot x < i
        · obtain ⟨r1, r2, r3⟩ := Shard.lenI hR0
          obtain ⟨cs', h', g1, fr, e1, hg1, o1, u1, f1, c1⟩ := l13CopyShard_q (Z := Z) k.s10 k.s13 hR0 (sm.2 _ (List.getElem_mem hi))
          obtain ⟨y', g', fp', e2, a2⟩ := a.next hf (by omega) o1 u1 f1
          rw [← Store.part_yes hi hp] at a2
          have hd1 : decide (s.spot x < i) = true := by simpa using hp
          have hd2 : decide (s.spot x < i + 1) = true := by simp; omega
          simp only [run0, run1, run2, run3, run4, noSlot, memN, RO.dst, lk, drop, forget, number, Nat.reduceBEq, cut?, splice?, builds, List.length_cons, List.length_nil, List.drop_succ_cons, List.drop_zero, List.take_succ_cons, List.take_zero, List.cons_append, List.nil_append, List.append_nil, List.drop_nil, List.take_nil, Nat.reduceAdd, Nat.reduceLeDiff, Nat.zero_add, Nat.add_zero, ↓reduceIte, Bool.not_true, Bool.not_false, decide_true, decide_false, eq_self, bne_self_eq_false, List.getElem?_cons_zero, List.getElem?_cons_succ, decide_eq_true_eq, Bool.false_eq_true, Bool.true_eq_false, reduceCtorEq, Nat.le_refl, hwl, hlt, hxi, hd1, hd2, hld0, r1, r2, r3, e1, hg1, List.replicate_succ, List.replicate_zero, fills, and_self, Nat.zero_lt_one, c1, List.set_cons_zero, e2, hws]
          exact ⟨_, ⟨_, _, _, rfl, a2, fun hc => by omega⟩, rfl⟩
        · have hd1 : decide (s.spot x < i) = false := by simpa using hp
          have ap := ap (by omega)
          have hR0' := hR0
          obtain ⟨z1, zp1, z2, zp2, rfl, _⟩ := hR0'
          by_cases hq : s.spot x = i
          · subst hq
            have hgt' : s.shards[s.spot x].lo > x.lo := hgt.2 (Nat.le_refl _)
            obtain ⟨y', g', fp', e2, a2, _⟩ := a.one (g := g) Shard.okI hf (bytes := 80) (by omega) (by omega) (On.refl g) (Shard.okI.on hy ap.on) ⟨fun id hid => f4.lo id hid, f4.nd⟩ (ap.old (On.refl h4) hylt)
            obtain ⟨q2, qf2, hld2, hR2, _⟩ := (wx.on Shard.okI a2.on).one hi
            obtain ⟨r1, r2, r3⟩ := Shard.lenI hR2
            obtain ⟨cs', h', g1, fr, e1, hg1, o1, u1, f1, c1⟩ := l13CopyShard_q (Z := Z) k.s10 k.s13 hR2 (sm.2 _ (List.getElem_mem hi))
            obtain ⟨y3, g3, fp3, e3, a3⟩ := a2.next hf (by simp; omega) o1 u1 f1
            rw [← Store.part_at hi] at a3
            have hd2 : decide (s.spot x < s.spot x + 1) = true := by simp
            simp only [run0, run1, run2, run3, run4, noSlot, memN, RO.dst, lk, drop, forget, number, Nat.reduceBEq, cut?, splice?, builds, List.length_cons, List.length_nil, List.drop_succ_cons, List.drop_zero, List.take_succ_cons, List.take_zero, List.cons_append, List.nil_append, List.append_nil, List.drop_nil, List.take_nil, Nat.reduceAdd, Nat.reduceLeDiff, Nat.zero_add, Nat.add_zero, ↓reduceIte, Bool.not_true, Bool.not_false, decide_true, decide_false, eq_self, bne_self_eq_false, List.getElem?_cons_zero, List.getElem?_cons_succ, decide_eq_true_eq, Bool.false_eq_true, Bool.true_eq_false, reduceCtorEq, Nat.le_refl, hwl, hlt, hxi, hd1, hd2, hld0, hgt', List.replicate_succ, List.replicate_zero, fills, and_self, Nat.zero_lt_one, List.set_cons_zero, e2, hld2, r1, r2, r3, e1, hg1, c1, e3, hws]
            exact ⟨_, ⟨_, _, _, rfl, a3, fun hc => by omega⟩, rfl⟩
          · have hgt' : ¬ s.shards[i].lo > x.lo := fun hc => by have := hgt.1 hc; omega
            obtain ⟨r1, r2, r3⟩ := Shard.lenI hR0
            obtain ⟨cs', h', g1, fr, e1, hg1, o1, u1, f1, c1⟩ := l13CopyShard_q (Z := Z) k.s10 k.s13 hR0 (sm.2 _ (List.getElem_mem hi))
            obtain ⟨y', g', fp', e2, a2⟩ := ap.next (o4.le hf) (by omega) o1 u1 f1
            rw [← Store.part_no hi (by omega)] at a2
            have hd2 : decide (s.spot x < i + 1) = false := by simp; omega
            simp only [run0, run1, run2, run3, run4, noSlot, memN, RO.dst, lk, drop, forget, number, Nat.reduceBEq, cut?, splice?, builds, List.length_cons, List.length_nil, List.drop_succ_cons, List.drop_zero, List.take_succ_cons, List.take_zero, List.cons_append, List.nil_append, List.append_nil, List.drop_nil, List.take_nil, Nat.reduceAdd, Nat.reduceLeDiff, Nat.zero_add, Nat.add_zero, ↓reduceIte, Bool.not_true, Bool.not_false, decide_true, decide_false, eq_self, bne_self_eq_false, List.getElem?_cons_zero, List.getElem?_cons_succ, decide_eq_true_eq, Bool.false_eq_true, Bool.true_eq_false, reduceCtorEq, Nat.le_refl, hwl, hlt, hxi, hd1, hd2, hld0, hgt', r1, r2, r3, e1, hg1, List.replicate_succ, List.replicate_zero, fills, and_self, Nat.zero_lt_one, c1, List.set_cons_zero, e2, hws]
            exact ⟨_, ⟨_, _, _, rfl, a2.base o4, fun _ => a2⟩, rfl⟩) (s := ⟨[(2, .c (.int .i64 e)), (11, .c (.bool false)), (12, .c (.int .i64 (0 : Nat)))], [(3, 3, 0), (6, 6, 0), (9, 9, 0), (10, 10, 0)], [(3, [.int .i64 s.group, .int .i64 s.seen, xc]), (6, [.int .i64 0, .int .i64 0, .nil]), (9, [.int .i64 s.group, .int .i64 e, .nil]), (10, [.int .u64 x.lo, .int .u64 x.hi, .int .i64 0, .int .i64 e, b4, f4c])], h4⟩) ⟨.nil, h4, [], by simp, by simpa [Store.part] using AccM.none Shard.RI 16 o4, fun _ => by simpa [Store.part] using AccM.nil Shard.RI 16 h4⟩
      subst hs
      simp only [show ((0 : Nat) : Int) = 0 from rfl] at lp
      have hlt : ¬ (s.shards.length : Int) < s.shards.length := by omega
      rw [lp, loop_run]
      conv in (codeF _ _ r308L0 _) => unfold r308L0
      have hfin : ∀ {z : Cell} {g' : Heap} {fz : List Nat}, AccM Shard.RI 16 h g' z (s.shards.take (s.spot x) ++ [{ x with state := 0, epoch := e }] ++ s.shards.drop (s.spot x)) fz →
          ∃ cs5 h5 f5, call F Z 318 [.agg [.int .i64 s.group, .int .i64 e, z], .c (.int .i64 e)] g' = some (.agg cs5, h5) ∧ On h h5 ∧ Store.RI h5 cs5 ((s.plus x).renew e) f5 ∧ Fre h f5 ∧ cs5.length = 3 ∧ cs5.take 3 = cs5 ∧ cs5.drop 3 = [] := fun {z g' fz} az => by
        obtain ⟨cs5, h5, f5, e5, o5, v5, r5⟩ := l13Renew_c (Z := Z) k (s := ⟨s.group, e, s.shards.take (s.spot x) ++ [{ x with state := 0, epoch := e }] ++ s.shards.drop (s.spot x)⟩) (az.on.le hf) ⟨z, _, rfl, rfl, az.sh⟩ (by
          refine ⟨?_, fun a ha => ?_⟩
          · simp only [List.length_append, List.length_take, List.length_drop, List.length_cons, List.length_nil]; omega
          · simp only [List.mem_append, List.mem_singleton] at ha
            rcases ha with (ha | ha) | ha
            · exact sm.2 a (List.mem_of_mem_take ha)
            · subst ha; exact smx
            · exact sm.2 a (List.mem_of_mem_drop ha)) e
        rw [Store.plus_renew] at v5
        obtain ⟨n1, n2, n3⟩ := Store.lenI v5
        exact ⟨cs5, h5, f5, e5, az.on.trans o5, v5, ⟨fun id hid => Nat.le_trans az.on.ext.1 (r5.lo id hid), r5.nd⟩, n1, n2, n3⟩
      by_cases hp : s.spot x < s.shards.length
      · rw [Store.part_end hp] at a
        obtain ⟨cs5, h5, f5, e5, o5, v5, r5, n1, n2, n3⟩ := hfin a
        have hd1 : decide (s.spot x < s.shards.length) = true := by simpa using hp
        simp only [run0, run1, run2, run3, run4, noSlot, memN, RO.dst, lk, drop, forget, number, Nat.reduceBEq, cut?, splice?, builds, List.length_cons, List.length_nil, List.drop_succ_cons, List.drop_zero, List.take_succ_cons, List.take_zero, List.cons_append, List.nil_append, List.append_nil, List.drop_nil, List.take_nil, Nat.reduceAdd, Nat.reduceLeDiff, Nat.zero_add, Nat.add_zero, ↓reduceIte, Bool.not_true, Bool.not_false, decide_true, decide_false, eq_self, bne_self_eq_false, List.getElem?_cons_zero, List.getElem?_cons_succ, decide_eq_true_eq, Bool.false_eq_true, Bool.true_eq_false, reduceCtorEq, Nat.le_refl, hwl, hlt, hd1, e5, n1, n2, n3]
        exact ⟨_, _, _, rfl, o5, v5, r5⟩
      · have hp' : s.spot x = s.shards.length := by have := s.spot_le x; omega
        have ap := ap (by omega)
        have hpl := s.part_len { x with state := 0, epoch := e } (s.spot x) s.shards.length
        obtain ⟨y', g', fp', e2, a2, _⟩ := a.one (g := g) Shard.okI hf (bytes := 80) (by omega) (by omega) (On.refl g) (Shard.okI.on hy ap.on) ⟨fun id hid => f4.lo id hid, f4.nd⟩ (ap.old (On.refl h4) hylt)
        rw [Store.part_last hp'] at a2
        obtain ⟨cs5, h5, f5, e5, o5, v5, r5, n1, n2, n3⟩ := hfin a2
        have hd1 : decide (s.spot x < s.shards.length) = false := by simpa using hp
        simp only [run0, run1, run2, run3, run4, noSlot, memN, RO.dst, lk, drop, forget, number, Nat.reduceBEq, cut?, splice?, builds, List.length_cons, List.length_nil, List.drop_succ_cons, List.drop_zero, List.take_succ_cons, List.take_zero, List.cons_append, List.nil_append, List.append_nil, List.drop_nil, List.take_nil, Nat.reduceAdd, Nat.reduceLeDiff, Nat.zero_add, Nat.add_zero, ↓reduceIte, Bool.not_true, Bool.not_false, decide_true, decide_false, eq_self, bne_self_eq_false, List.getElem?_cons_zero, List.getElem?_cons_succ, decide_eq_true_eq, Bool.false_eq_true, Bool.true_eq_false, reduceCtorEq, Nat.le_refl, hwl, hlt, hd1, List.replicate_succ, List.replicate_zero, fills, and_self, Nat.zero_lt_one, List.set_cons_zero, e2, e5, n1, n2, n3]
        exact ⟨_, _, _, rfl, o5, v5, r5⟩
end
end Go.Proofs.Ytlfepembgjjejaa.A
/- A shard is retired. -/
namespace Go.Proofs.Ytlfepembgjjejaa.A
open Go
set_option linter.unusedSimpArgs false
set_option linter.unusedVariables false
def Store.without (s : Store) (i : Nat) : Store := { s with shards := s.shards.eraseIdx i }
def retireShard (s : Store) (lo e : Int) : Store × Bool := bif s.good && (decide (0 ≤ findAt s.shards lo 1) && decide ((Shard.at_ s.shards (findAt s.shards lo 1).toNat).epoch = e)) then (s.without (findAt s.shards lo 1).toNat, true) else (s, false)
theorem Store.without_small {s : Store} (sm : s.Small) (i : Nat) : (s.without i).Small :=
  ⟨Nat.le_trans (List.length_eraseIdx_le _ _) sm.1, fun a ha => sm.2 a (List.mem_of_mem_eraseIdx ha)⟩
theorem retireShard_small {s : Store} (sm : s.Small) (lo e : Int) : (retireShard s lo e).1.Small := by
  unfold retireShard
  cases (s.good && (decide (0 ≤ findAt s.shards lo 1) && decide ((Shard.at_ s.shards (findAt s.shards lo 1).toNat).epoch = e)))
  · exact sm
  · exact Store.without_small sm _
theorem retire_no {s : Store} {lo e : Int} (h : s.good = false) : retireShard s lo e = (s, false) := by simp [retireShard, h]
theorem retire_away {s : Store} {lo e : Int} (h : findAt s.shards lo 1 = -1) : retireShard s lo e = (s, false) := by simp [retireShard, h]
theorem retire_old {s : Store} {lo e : Int} {i : Nat} (h : findAt s.shards lo 1 = (i : Int)) (h2 : ¬ (Shard.at_ s.shards i).epoch = e) : retireShard s lo e = (s, false) := by simp [retireShard, h, h2]
theorem retire_yes {s : Store} {lo e : Int} {i : Nat} (h0 : s.good = true) (h : findAt s.shards lo 1 = (i : Int)) (h2 : (Shard.at_ s.shards i).epoch = e) : retireShard s lo e = (s.without i, true) := by simp [retireShard, h0, h, h2]
theorem erase_skip {α : Type} {xs : List α} {k : Nat} (hk : k < xs.length) : (xs.take (k + 1)).eraseIdx k = (xs.take k).eraseIdx k := by
  rw [List.eraseIdx_of_length_le (k := k) (l := xs.take k) (by rw [List.length_take]; omega), List.eraseIdx_eq_take_drop_succ, List.drop_eq_nil_of_le (by rw [List.length_take]; omega), List.take_take, List.append_nil]
  congr 1
  omega
theorem erase_next {α : Type} {xs : List α} {i k : Nat} (hi : i < xs.length) (hne : i ≠ k) : (xs.take (i + 1)).eraseIdx k = (xs.take i).eraseIdx k ++ [xs[i]] := by
  rw [List.take_add_one, List.getElem?_eq_getElem hi]
  rcases Nat.lt_or_ge k i with h | h
  · rw [List.eraseIdx_append_of_lt_length (by rw [List.length_take]; omega)]; rfl
  · rw [List.eraseIdx_of_length_le (k := k) (l := xs.take i) (by rw [List.length_take]; omega), List.eraseIdx_of_length_le (by simp; omega)]; rfl
section
variable {F : Nat → Option RF} {Z : CallF} {h : Heap} {x : Cell} {xs : List Shard} {fp fq : List Nat} {cs : List Cell} {s : Store} {t : Shard}
set_option maxHeartbeats 1000000 in
theorem RetireShard_c (k : KI F) (hL : Has F tLibslicesIndexFuncimplShardimplShard) (pr : PrimAt F Z 330 (delF 16)) (hf : h.floor ≤ h.next) (v : Store.RI h cs s fp) (lo e : Int) (ok : s.Ok) (sm : s.Small) :
    ∃ cs' h' fq, call F Z 298 [.agg cs, .c (.int .u64 lo), .c (.int .i64 e)] h = some (.tup [.agg cs', .c (.bool (retireShard s lo e).2)], h') ∧ On h h' ∧ Store.RI h' cs' (retireShard s lo e).1 fq ∧ Fre h fq := by
  obtain ⟨l1, l2, l3⟩ := Store.lenI v
  obtain ⟨cs1, h1, fq, e1, o1, v1, f1⟩ := copyStore_c (Z := Z) k hf v sm
  have v' := Store.okI.on v o1
  obtain ⟨h2, e2, o2⟩ := shardAt_on (Z := Z) k.i13 hL v' lo 1
  have v'' := Store.okI.on v' o2
  obtain ⟨h3, e3, o3⟩ := isStore_run (Z := Z) k v'' ok
  have o13 := (o1.trans o2).trans o3
  have v3 := Store.okI.on (Store.okI.on v1 o2) o3
  have vs := Store.okI.on v'' o3
  clear v v' v'' v1
  rw [call_run F Z (k.i13.lk (g := 298) rfl) _ _ rfl]
  obtain ⟨y, p, rfl, hp, w⟩ := v3
  subst hp
  obtain ⟨x, p, rfl, hp, u⟩ := vs
  subst hp
  cases hg : s.good with
  | false =>
    rw [hg] at e3
    rw [retire_no hg]
    simp only [run0, run1, run2, run3, run4, noSlot, memN, RO.dst, lk, drop, forget, number, Nat.reduceBEq, cut?, splice?, builds, List.length_cons, List.length_nil, List.drop_succ_cons, List.drop_zero, List.take_succ_cons, List.take_zero, List.cons_append, List.nil_append, List.append_nil, List.drop_nil, List.take_nil, Nat.reduceAdd, Nat.reduceLeDiff, Nat.zero_add, Nat.add_zero, ↓reduceIte, Bool.not_true, Bool.not_false, decide_true, decide_false, eq_self, bne_self_eq_false, List.getElem?_cons_zero, List.getElem?_cons_succ, decide_eq_true_eq, Bool.false_eq_true, Bool.true_eq_false, reduceCtorEq, Nat.le_refl, l1, l2, l3, e1, e2, e3]
    exact ⟨_, _, _, rfl, o13, ⟨y, _, rfl, rfl, w⟩, f1⟩
  | true =>
    rw [hg] at e3
    rcases u.found (fun t => (t.lo == lo) && (t.state == 1)) with q | ⟨i, q, hi, _, hx, _, _, hld⟩
    · change findAt s.shards lo 1 = -1 at q
      rw [retire_away q]
      rw [q] at e2
      simp only [run0, run1, run2, run3, run4, noSlot, memN, RO.dst, lk, drop, forget, number, Nat.reduceBEq, cut?, splice?, builds, List.length_cons, List.length_nil, List.drop_succ_cons, List.drop_zero, List.take_succ_cons, List.take_zero, List.cons_append, List.nil_append, List.append_nil, List.drop_nil, List.take_nil, Nat.reduceAdd, Nat.reduceLeDiff, Nat.zero_add, Nat.add_zero, ↓reduceIte, Bool.not_true, Bool.not_false, decide_true, decide_false, eq_self, bne_self_eq_false, List.getElem?_cons_zero, List.getElem?_cons_succ, decide_eq_true_eq, Bool.false_eq_true, Bool.true_eq_false, reduceCtorEq, Nat.le_refl, l1, l2, l3, e1, e2, e3, Int.reduceLT, Int.reduceNeg]
      exact ⟨_, _, _, rfl, o13, ⟨y, _, rfl, rfl, w⟩, f1⟩
    · change findAt s.shards lo 1 = (i : Int) at q
      rw [q] at e2
      have g0 : ¬ (i : Int) < 0 := by omega
      by_cases he : (Shard.at_ s.shards i).epoch = e
      · rw [retire_yes hg q he]
        have hle := u.le2
        obtain ⟨z, g, fr, e4, w4, re⟩ := w.del Shard.okI f1.nd (f1.own o13 hf) hi
        have hw := wrapS i (by omega)
        simp only [run0, run1, run2, run3, run4, noSlot, memN, RO.dst, lk, drop, forget, number, Nat.reduceBEq, cut?, splice?, builds, List.length_cons, List.length_nil, List.drop_succ_cons, List.drop_zero, List.take_succ_cons, List.take_zero, List.cons_append, List.nil_append, List.append_nil, List.drop_nil, List.take_nil, Nat.reduceAdd, Nat.reduceLeDiff, Nat.zero_add, Nat.add_zero, ↓reduceIte, Bool.not_true, Bool.not_false, decide_true, decide_false, eq_self, bne_self_eq_false, List.getElem?_cons_zero, List.getElem?_cons_succ, decide_eq_true_eq, Bool.false_eq_true, Bool.true_eq_false, reduceCtorEq, Nat.le_refl, l1, l2, l3, e1, e2, e3, g0, hx, hld, he, Shard.cells, hw, pr _ _, e4]
        exact ⟨_, _, _, rfl, re.on o13 f1, ⟨z, _, rfl, rfl, w4⟩, re.fre o13 f1⟩
      · have hb : ((Shard.at_ s.shards i).epoch != e) = true := by simpa using he
        rw [retire_old q he]
        simp only [run0, run1, run2, run3, run4, noSlot, memN, RO.dst, lk, drop, forget, number, Nat.reduceBEq, cut?, splice?, builds, List.length_cons, List.length_nil, List.drop_succ_cons, List.drop_zero, List.take_succ_cons, List.take_zero, List.cons_append, List.nil_append, List.append_nil, List.drop_nil, List.take_nil, Nat.reduceAdd, Nat.reduceLeDiff, Nat.zero_add, Nat.add_zero, ↓reduceIte, Bool.not_true, Bool.not_false, decide_true, decide_false, eq_self, bne_self_eq_false, List.getElem?_cons_zero, List.getElem?_cons_succ, decide_eq_true_eq, Bool.false_eq_true, Bool.true_eq_false, reduceCtorEq, Nat.le_refl, l1, l2, l3, e1, e2, e3, g0, hx, hld, hb, Shard.cells]
        exact ⟨_, _, _, rfl, o13, ⟨y, _, rfl, rfl, w⟩, f1⟩
set_option maxHeartbeats 1000000 in
theorem sRetireShard_c (k : KS F) (hf : h.floor ≤ h.next) (v : Store.RI h cs s fp) (lo e : Int) (ok : s.Ok) (sm : s.Small) :
    ∃ cs' h' fq, call F Z 297 [.agg cs, .c (.int .u64 lo), .c (.int .i64 e)] h = some (.tup [.agg cs', .c (.bool (retireShard s lo e).2)], h') ∧ On h h' ∧ Store.RI h' cs' (retireShard s lo e).1 fq ∧ Fre h fq := by
  obtain ⟨l1, l2, l3⟩ := Store.lenI v
  obtain ⟨cs1, h1, fq, e1, o1, v1, f1⟩ := l13Copy_c (Z := Z) k hf v sm
  obtain ⟨m1, m2, m3⟩ := Store.lenI v1
  have e2 := l13At_run (Z := Z) k.s13 v lo 1
  have e3 := sStoreOk_run (Z := Z) k v ok
  rw [call_run F Z (k.s13.lk (g := 297) rfl) _ _ rfl]
  cases hg : s.good with
  | false =>
    rw [hg] at e3
    rw [retire_no hg]
    simp only [run0, run1, run2, run3, run4, noSlot, memN, RO.dst, lk, drop, forget, number, Nat.reduceBEq, cut?, splice?, builds, List.length_cons, List.length_nil, List.drop_succ_cons, List.drop_zero, List.take_succ_cons, List.take_zero, List.cons_append, List.nil_append, List.append_nil, List.drop_nil, List.take_nil, Nat.reduceAdd, Nat.reduceLeDiff, Nat.zero_add, Nat.add_zero, ↓reduceIte, Bool.not_true, Bool.not_false, decide_true, decide_false, eq_self, bne_self_eq_false, List.getElem?_cons_zero, List.getElem?_cons_succ, decide_eq_true_eq, Bool.false_eq_true, Bool.true_eq_false, reduceCtorEq, Nat.le_refl, l1, l2, l3, e1, e2, e3, m1, m2, m3]
    exact ⟨_, _, _, rfl, o1, v1, f1⟩
  | true =>
    rw [hg] at e3
    obtain ⟨x, p, rfl, hp, u⟩ := v
    subst hp
    rcases u.found (fun t => (t.lo == lo) && (t.state == 1)) with q | ⟨j, q, hj, _, hx, _, _, hld⟩
    · change findAt s.shards lo 1 = -1 at q
      rw [retire_away q]
      rw [q] at e2
      simp only [run0, run1, run2, run3, run4, noSlot, memN, RO.dst, lk, drop, forget, number, Nat.reduceBEq, cut?, splice?, builds, List.length_cons, List.length_nil, List.drop_succ_cons, List.drop_zero, List.take_succ_cons, List.take_zero, List.cons_append, List.nil_append, List.append_nil, List.drop_nil, List.take_nil, Nat.reduceAdd, Nat.reduceLeDiff, Nat.zero_add, Nat.add_zero, ↓reduceIte, Bool.not_true, Bool.not_false, decide_true, decide_false, eq_self, bne_self_eq_false, List.getElem?_cons_zero, List.getElem?_cons_succ, decide_eq_true_eq, Bool.false_eq_true, Bool.true_eq_false, reduceCtorEq, Nat.le_refl, l1, l2, l3, e1, e2, e3, m1, m2, m3, Int.reduceLT, Int.reduceNeg]
      exact ⟨_, _, _, rfl, o1, v1, f1⟩
    · change findAt s.shards lo 1 = (j : Int) at q
      rw [q] at e2
      have g0 : ¬ (j : Int) < 0 := by omega
      by_cases he : (Shard.at_ s.shards j).epoch = e
      · rw [retire_yes hg q he]
        have hle := u.le2
        have hwl := u.len
        clear e1 o1 v1 f1 m1 m2 m3
        simp only [run0, run1, run2, run3, run4, noSlot, memN, RO.dst, lk, drop, forget, number, Nat.reduceBEq, cut?, splice?, builds, List.length_cons, List.length_nil, List.drop_succ_cons, List.drop_zero, List.take_succ_cons, List.take_zero, List.cons_append, List.nil_append, List.append_nil, List.drop_nil, List.take_nil, Nat.reduceAdd, Nat.reduceLeDiff, Nat.zero_add, Nat.add_zero, ↓reduceIte, Bool.not_true, Bool.not_false, decide_true, decide_false, eq_self, bne_self_eq_false, List.getElem?_cons_zero, List.getElem?_cons_succ, decide_eq_true_eq, Bool.false_eq_true, Bool.true_eq_false, reduceCtorEq, Nat.le_refl, l1, l2, l3, e2, e3, g0, hx, hld, he, Shard.cells]
        obtain ⟨s', ⟨y, g, fq, hs, a⟩, lp⟩ := loop_goes (F := F) (Z := Z) (live := [3, 6, 8, 9, 10]) (b := r297L0) s.shards.length (fun i st => ∃ y g fq, st = ⟨[(8, .c (.int .i64 (j : Nat))), (10, .c (.int .i64 (i : Nat)))], [(3, 3, 0), (6, 6, 0), (9, 9, 0)], [(3, [.int .i64 s.group, .int .i64 s.seen, x]), (6, [.int .i64 0, .int .i64 0, .nil]), (9, [.int .i64 s.group, .int .i64 s.seen, y])], g⟩ ∧ AccM Shard.RI 16 h g y ((s.shards.take i).eraseIdx j) fq) (fun i st hi ⟨y, g, fq, hs, a⟩ => by
          subst hs
          have hlt : (i : Int) < s.shards.length := by omega
          have hws := wrapS i (by omega)
          rw [loop_run]
          conv in (codeF _ _ r297L0 _) => unfold r297L0
          by_cases hij : i = j
          · subst hij
            rw [← erase_skip hi] at a
            simp only [run0, run1, run2, run3, run4, noSlot, memN, RO.dst, lk, drop, forget, number, Nat.reduceBEq, cut?, splice?, builds, List.length_cons, List.length_nil, List.drop_succ_cons, List.drop_zero, List.take_succ_cons, List.take_zero, List.cons_append, List.nil_append, List.append_nil, List.drop_nil, List.take_nil, Nat.reduceAdd, Nat.reduceLeDiff, Nat.zero_add, Nat.add_zero, ↓reduceIte, Bool.not_true, Bool.not_false, decide_true, decide_false, eq_self, bne_self_eq_false, List.getElem?_cons_zero, List.getElem?_cons_succ, decide_eq_true_eq, Bool.false_eq_true, Bool.true_eq_false, reduceCtorEq, Nat.le_refl, hwl, hlt, hws]
            exact ⟨_, ⟨_, _, _, rfl, a⟩, rfl⟩
          have hne0 : ¬ (i : Int) = (j : Int) := by omega
          have hne : ((i : Int) != (j : Int)) = true := by simpa using hne0
          have hxi := u.idx hi
          obtain ⟨r, f, hld, hR, _⟩ := (u.on Shard.okI a.on).one hi
          obtain ⟨r1, r2, r3⟩ := Shard.lenI hR
          obtain ⟨cs', h', g1, fr, e1, hg1, o1, u1, f1, c1⟩ := l13CopyShard_q (Z := Z) k.s10 k.s13 hR (sm.2 _ (List.getElem_mem hi))
          obtain ⟨y', g', fp', e2, a2⟩ := a.next hf (by have := List.length_eraseIdx_le (s.shards.take i) j; have := sm.1; rw [List.length_take] at *; omega) o1 u1 f1
          rw [← erase_next hi hij] at a2
          simp only [run0, run1, run2, run3, run4, noSlot, memN, RO.dst, lk, drop, forget, number, Nat.reduceBEq, cut?, splice?, builds, List.length_cons, List.length_nil, List.drop_succ_cons, List.drop_zero, List.take_succ_cons, List.take_zero, List.cons_append, List.nil_append, List.append_nil, List.drop_nil, List.take_nil, Nat.reduceAdd, Nat.reduceLeDiff, Nat.zero_add, Nat.add_zero, ↓reduceIte, Bool.not_true, Bool.not_false, decide_true, decide_false, eq_self, bne_self_eq_false, List.getElem?_cons_zero, List.getElem?_cons_succ, decide_eq_true_eq, Bool.false_eq_true, Bool.true_eq_false, reduceCtorEq, Nat.le_refl, hwl, hlt, hxi, hne, hld, r1, r2, r3, e1, hg1, List.replicate_succ, List.replicate_zero, fills, and_self, Nat.zero_lt_one, c1, List.set_cons_zero, e2, hws]
          exact ⟨_, ⟨_, _, _, rfl, a2⟩, rfl⟩) (s := ⟨[(8, .c (.int .i64 (j : Nat))), (10, .c (.int .i64 (0 : Nat)))], [(3, 3, 0), (6, 6, 0), (9, 9, 0)], [(3, [.int .i64 s.group, .int .i64 s.seen, x]), (6, [.int .i64 0, .int .i64 0, .nil]), (9, [.int .i64 s.group, .int .i64 s.seen, .nil])], h⟩) ⟨_, _, _, rfl, by simpa using AccM.nil Shard.RI 16 h⟩
        subst hs
        simp only [show ((0 : Nat) : Int) = 0 from rfl] at lp
        rw [List.take_length] at a
        have hlt : ¬ (s.shards.length : Int) < s.shards.length := by omega
        rw [lp, loop_run]
        conv in (codeF _ _ r297L0 _) => unfold r297L0
        simp only [run0, run1, run2, run3, run4, noSlot, memN, RO.dst, lk, drop, forget, number, Nat.reduceBEq, cut?, splice?, builds, List.length_cons, List.length_nil, List.drop_succ_cons, List.drop_zero, List.take_succ_cons, List.take_zero, List.cons_append, List.nil_append, List.append_nil, List.drop_nil, List.take_nil, Nat.reduceAdd, Nat.reduceLeDiff, Nat.zero_add, Nat.add_zero, ↓reduceIte, Bool.not_true, Bool.not_false, decide_true, decide_false, eq_self, bne_self_eq_false, List.getElem?_cons_zero, List.getElem?_cons_succ, decide_eq_true_eq, Bool.false_eq_true, Bool.true_eq_false, reduceCtorEq, Nat.le_refl, hwl, hlt]
        exact ⟨_, _, _, rfl, a.on, ⟨_, _, rfl, rfl, a.sh⟩, a.fr⟩
      · have hb : ((Shard.at_ s.shards j).epoch != e) = true := by simpa using he
        rw [retire_old q he]
        simp only [run0, run1, run2, run3, run4, noSlot, memN, RO.dst, lk, drop, forget, number, Nat.reduceBEq, cut?, splice?, builds, List.length_cons, List.length_nil, List.drop_succ_cons, List.drop_zero, List.take_succ_cons, List.take_zero, List.cons_append, List.nil_append, List.append_nil, List.drop_nil, List.take_nil, Nat.reduceAdd, Nat.reduceLeDiff, Nat.zero_add, Nat.add_zero, ↓reduceIte, Bool.not_true, Bool.not_false, decide_true, decide_false, eq_self, bne_self_eq_false, List.getElem?_cons_zero, List.getElem?_cons_succ, decide_eq_true_eq, Bool.false_eq_true, Bool.true_eq_false, reduceCtorEq, Nat.le_refl, l1, l2, l3, e1, e2, e3, g0, hx, hld, hb, Shard.cells, m1, m2, m3]
        exact ⟨_, _, _, rfl, o1, v1, f1⟩
end
end Go.Proofs.Ytlfepembgjjejaa.A
/- Messages of handovers are marked, and hold their marks. -/
namespace Go.Proofs.Ytlfepembgjjejaa.A
open Go
set_option linter.unusedSimpArgs false
set_option linter.unusedVariables false
section
variable {F : Nat → Option RF} {Z : CallF} {h : Heap} {cs : List Cell} {t : HandMsg} {fp : List Nat}
theorem markHandMsg_r (hLHandMsg : Has F tLHandMsg) (hLShard : Has F tLShard) (hLBook : Has F tLBook) (hLAccount : Has F tLAccount) (hLFin : Has F tLFin) (v : HandMsg.RI h cs t fp) (nd : fp.Nodup) (hlo : ∀ id, id ∈ fp → h.floor ≤ id) (k : Int) (h1 : 0 ≤ k) (h2 : k + t.wt ≤ 9200000000000000000) :
    ∃ h', call F Z 305 [.agg cs, .c (.int .i64 k)] h = some (.c (.int .i64 (k + t.wt)), h') ∧ Mk h h' fp ∧ HandMsg.RI h' cs (t.marked k) fp := by
  obtain ⟨x1, p1, x2, p2, rfl, hp, w1, w2⟩ := v
  have v : Shard.RI h [.int .u64 t.shard.lo, .int .u64 t.shard.hi, .int .i64 t.shard.state, .int .i64 t.shard.epoch, x1, x2] t.shard fp := ⟨x1, p1, x2, p2, rfl, hp, w1, w2⟩
  obtain ⟨g, e, m, u⟩ := markShard_r (Z := Z) hLShard hLBook hLAccount hLFin v nd hlo k h1 h2
  obtain ⟨y1, q1, y2, q2, hc, hq, u1, u2⟩ := u
  have hx : x1 = y1 ∧ x2 = y2 := by
    simp only [List.cons.injEq] at hc
    exact ⟨hc.2.2.2.2.1, hc.2.2.2.2.2.1⟩
  obtain ⟨rfl, rfl⟩ := hx
  rw [call_run F Z (hLHandMsg.lk (g := 305) rfl) _ _ rfl]
  simp only [run0, run1, run2, run3, run4, noSlot, memN, RO.dst, lk, drop, forget, number, Nat.reduceBEq, cut?, splice?, builds, List.length_cons, List.length_nil, List.drop_succ_cons, List.drop_zero, List.take_succ_cons, List.take_zero, List.cons_append, List.nil_append, List.append_nil, List.drop_nil, List.take_nil, Nat.reduceAdd, Nat.reduceLeDiff, Nat.zero_add, Nat.add_zero, ↓reduceIte, Bool.not_true, Bool.not_false, decide_true, decide_false, eq_self, bne_self_eq_false, List.getElem?_cons_zero, List.getElem?_cons_succ, decide_eq_true_eq, Bool.false_eq_true, Bool.true_eq_false, reduceCtorEq, Nat.le_refl, e]
  exact ⟨g, rfl, m, ⟨x1, q1, x2, q2, rfl, hq, u1, u2⟩⟩
theorem heldHandMsg_r (hLHandMsg : Has F tLHandMsg) (hLShard : Has F tLShard) (hLBook : Has F tLBook) (hLAccount : Has F tLAccount) (hLFin : Has F tLFin) {k : Int} (v : HandMsg.RI h cs (t.marked k) fp) (h1 : 0 ≤ k) (h2 : k + t.wt ≤ 9200000000000000000) :
    call F Z 306 [.agg cs, .c (.int .i64 k)] h = some (.c (.int .i64 (k + t.wt)), h) := by
  obtain ⟨x1, p1, x2, p2, rfl, hp, w1, w2⟩ := v
  have e := heldShard_r (Z := Z) (t := t.shard) hLShard hLBook hLAccount hLFin (k := k) (⟨x1, p1, x2, p2, rfl, hp, w1, w2⟩ : Shard.RI h _ (t.shard.marked k) fp) h1 h2
  have hn := t.wt_nn
  have hw : t.shard.wt = t.wt := rfl
  rw [hw] at e
  have hk : ¬ k + t.wt < 0 := by omega
  rw [call_run F Z (hLHandMsg.lk (g := 306) rfl) _ _ rfl]
  simp only [HandMsg.marked, run0, run1, run2, run3, run4, noSlot, memN, RO.dst, lk, drop, forget, number, Nat.reduceBEq, cut?, splice?, builds, List.length_cons, List.length_nil, List.drop_succ_cons, List.drop_zero, List.take_succ_cons, List.take_zero, List.cons_append, List.nil_append, List.append_nil, List.drop_nil, List.take_nil, Nat.reduceAdd, Nat.reduceLeDiff, Nat.zero_add, Nat.add_zero, ↓reduceIte, Bool.not_true, Bool.not_false, decide_true, decide_false, eq_self, bne_self_eq_false, List.getElem?_cons_zero, List.getElem?_cons_succ, decide_eq_true_eq, Bool.false_eq_true, Bool.true_eq_false, reduceCtorEq, Nat.le_refl, e, hk]
end
end Go.Proofs.Ytlfepembgjjejaa.A
/- What a handover sends, and what a store takes. -/
namespace Go.Proofs.Ytlfepembgjjejaa.A
open Go
set_option linter.unusedSimpArgs false
set_option linter.unusedVariables false
def HandMsg.none_ : HandMsg := ⟨0, 0, 0, 0, Shard.none_⟩
def handSend (a : Hand) (s : Store) : HandMsg × Bool :=
  bif a.ok && !(a.phase == 3) then (bif a.phase == 1 then (bif (exportShard s a.lo).2 && ((exportShard s a.lo).1.epoch == a.epoch) then (⟨1, a.lo, a.to, a.epoch + 1, (exportShard s a.lo).1⟩, true) else (HandMsg.none_, false)) else (⟨a.phase, a.lo, a.from_, a.epoch, Shard.none_⟩, true)) else (HandMsg.none_, false)
def handTake (s : Store) (m : HandMsg) : Store × Bool := bif m.to == s.group then (bif m.step == 0 then freezeShard s m.lo m.epoch else bif m.step == 1 then installShard s m.shard m.epoch else bif m.step == 2 then retireShard s m.lo m.epoch else (s, false)) else (s, false)
theorem Shard.none_small : Shard.none_.Small := by simp [Shard.none_, Shard.Small, Book.Small]
theorem handSend_small {s : Store} (sm : s.Small) (a : Hand) : (handSend a s).1.Small := by
  unfold handSend
  cases (a.ok && !(a.phase == 3)) <;> simp only [cond_true, cond_false]
  · exact Shard.none_small
  cases (a.phase == 1) <;> simp only [cond_true, cond_false]
  · exact Shard.none_small
  cases ((exportShard s a.lo).2 && ((exportShard s a.lo).1.epoch == a.epoch)) <;> simp only [cond_true, cond_false]
  · exact Shard.none_small
  · exact exportShard_small sm
theorem handTake_small {s : Store} (sm : s.Small) {m : HandMsg} (smm : m.Small) : (handTake s m).1.Small := by
  unfold handTake
  cases (m.to == s.group) <;> simp only [cond_true, cond_false]
  · exact sm
  cases (m.step == 0) <;> simp only [cond_true, cond_false]
  · cases (m.step == 1) <;> simp only [cond_true, cond_false]
    · cases (m.step == 2) <;> simp only [cond_true, cond_false]
      · exact sm
      · exact retireShard_small sm _ _
    · exact installShard_small sm smm _
  · exact freezeShard_small sm _ _
theorem Hand.ok_epoch {a : Hand} (h : a.ok = true) : IntKind.i64.wrap (a.epoch + 1) = a.epoch + 1 := by
  simp only [Hand.ok, handOk, inR, Bool.and_eq_true, decide_eq_true_eq] at h
  exact wrapI _ (by omega) (by omega)
section
variable {F : Nat → Option RF} {Z : CallF} {h : Heap} {cs ds : List Cell} {fp fq : List Nat} {s : Store} {m : HandMsg}
theorem HandMsg.none_R (h : Heap) : HandMsg.RI h [.int .i64 0, .int .u64 0, .int .i64 0, .int .i64 0, .int .u64 0, .int .u64 0, .int .i64 0, .int .i64 0, .nil, .nil] HandMsg.none_ [] := ⟨.nil, [], .nil, [], rfl, rfl, SlR.nil _ _ _, SlR.nil _ _ _⟩
theorem send_bad {a : Hand} (h : a.ok = false) : handSend a s = (HandMsg.none_, false) := by simp [handSend, h]
theorem send_over {a : Hand} (h : a.phase = 3) : handSend a s = (HandMsg.none_, false) := by simp [handSend, h]
theorem send_other {a : Hand} (h : a.ok = true) (h3 : ¬ a.phase = 3) (h1 : ¬ a.phase = 1) : handSend a s = (⟨a.phase, a.lo, a.from_, a.epoch, Shard.none_⟩, true) := by
  have h3' : (a.phase == 3) = false := by simpa using h3
  have h1' : (a.phase == 1) = false := by simpa using h1
  simp [handSend, h, h1', h3']
theorem send_none {a : Hand} (h1 : a.phase = 1) (h2 : (exportShard s a.lo).2 = false) : handSend a s = (HandMsg.none_, false) := by simp [handSend, h1, h2]
theorem send_old {a : Hand} (h1 : a.phase = 1) (h2 : ¬ (exportShard s a.lo).1.epoch = a.epoch) : handSend a s = (HandMsg.none_, false) := by
  have h2' : ((exportShard s a.lo).1.epoch == a.epoch) = false := by simpa using h2
  simp [handSend, h1, h2']
theorem send_yes {a : Hand} (h : a.ok = true) (h1 : a.phase = 1) (h2 : (exportShard s a.lo).2 = true) (h3 : (exportShard s a.lo).1.epoch = a.epoch) : handSend a s = (⟨1, a.lo, a.to, a.epoch + 1, (exportShard s a.lo).1⟩, true) := by simp [handSend, h, h1, h2, h3]
set_option maxHeartbeats 1000000 in
theorem handSend_c (k : KI F) (hI15 : Has F tI15) (hL : Has F tLibslicesIndexFuncimplShardimplShard) (hf : h.floor ≤ h.next) (a : Hand) (v : Store.RI h cs s fp) (ok : s.Ok) (sm : s.Small) :
    ∃ cs' h' fq, call F Z 331 [.agg a.enc, .agg cs] h = some (.tup [.agg cs', .c (.bool (handSend a s).2)], h') ∧ On h h' ∧ HandMsg.RI h' cs' (handSend a s).1 fq ∧ Fre h fq := by
  obtain ⟨l1, l2, l3⟩ := Store.lenI v
  have e1 := isHand_run (Z := Z) k.i11 hI15 a.lo a.from_ a.to a.epoch a.phase h
  obtain ⟨cs1, h1, fq, e2, o2, v2, f2⟩ := ExportShard_c (Z := Z) k hL hf v a.lo ok sm
  have e3 := fun h => handEpoch_run (Z := Z) hI15 a.lo a.from_ a.to a.epoch a.phase h
  have hw := fun (hh : a.ok = true) => Hand.ok_epoch hh
  rw [call_run F Z (hI15.lk (g := 331) rfl) _ _ rfl]
  simp only [Hand.enc]
  cases ha : a.ok with
  | false =>
    rw [show handOk a.lo a.from_ a.to a.epoch a.phase = false from ha] at e1
    rw [send_bad ha]
    simp only [run0, run1, run2, run3, run4, noSlot, memN, RO.dst, lk, drop, forget, number, Nat.reduceBEq, cut?, splice?, builds, List.length_cons, List.length_nil, List.drop_succ_cons, List.drop_zero, List.take_succ_cons, List.take_zero, List.cons_append, List.nil_append, List.append_nil, List.drop_nil, List.take_nil, Nat.reduceAdd, Nat.reduceLeDiff, Nat.zero_add, Nat.add_zero, ↓reduceIte, Bool.not_true, Bool.not_false, decide_true, decide_false, eq_self, bne_self_eq_false, List.getElem?_cons_zero, List.getElem?_cons_succ, decide_eq_true_eq, Bool.false_eq_true, Bool.true_eq_false, reduceCtorEq, Nat.le_refl, l1, l2, l3, e1]
    exact ⟨_, _, _, rfl, On.refl h, HandMsg.none_R h, Fre.nil h⟩
  | true =>
    rw [show handOk a.lo a.from_ a.to a.epoch a.phase = true from ha] at e1
    by_cases h3 : a.phase = 3
    · rw [send_over h3]
      have h3t : (a.phase == 3) = true := by simpa using h3
      simp only [run0, run1, run2, run3, run4, noSlot, memN, RO.dst, lk, drop, forget, number, Nat.reduceBEq, cut?, splice?, builds, List.length_cons, List.length_nil, List.drop_succ_cons, List.drop_zero, List.take_succ_cons, List.take_zero, List.cons_append, List.nil_append, List.append_nil, List.drop_nil, List.take_nil, Nat.reduceAdd, Nat.reduceLeDiff, Nat.zero_add, Nat.add_zero, ↓reduceIte, Bool.not_true, Bool.not_false, decide_true, decide_false, eq_self, bne_self_eq_false, List.getElem?_cons_zero, List.getElem?_cons_succ, decide_eq_true_eq, Bool.false_eq_true, Bool.true_eq_false, reduceCtorEq, Nat.le_refl, l1, l2, l3, e1, h3t]
      exact ⟨_, _, _, rfl, On.refl h, HandMsg.none_R h, Fre.nil h⟩
    have h3' : (a.phase == 3) = false := by simpa using h3
    by_cases h1 : a.phase = 1
    · have h1' : (a.phase == 1) = true := by simpa using h1
      obtain ⟨m1, m2, m3⟩ := Shard.lenI v2
      have e3' : ∀ h, call F Z 132 [.agg [.int .u64 a.lo, .int .i64 a.from_, .int .i64 a.to, .int .i64 a.epoch, .int .i64 a.phase]] h = some (.c (.int .i64 (a.epoch + 1)), h) := fun h => by rw [e3 h]; simp only [handEp]; rw [if_pos h1, hw ha]
      cases hx : (exportShard s a.lo).2 with
      | false =>
        rw [hx] at e2
        rw [send_none h1 hx]
        simp only [run0, run1, run2, run3, run4, noSlot, memN, RO.dst, lk, drop, forget, number, Nat.reduceBEq, cut?, splice?, builds, List.length_cons, List.length_nil, List.drop_succ_cons, List.drop_zero, List.take_succ_cons, List.take_zero, List.cons_append, List.nil_append, List.append_nil, List.drop_nil, List.take_nil, Nat.reduceAdd, Nat.reduceLeDiff, Nat.zero_add, Nat.add_zero, ↓reduceIte, Bool.not_true, Bool.not_false, decide_true, decide_false, eq_self, bne_self_eq_false, List.getElem?_cons_zero, List.getElem?_cons_succ, decide_eq_true_eq, Bool.false_eq_true, Bool.true_eq_false, reduceCtorEq, Nat.le_refl, l1, l2, l3, e1, h3', h1', e3', e2, m1, m2, m3]
        exact ⟨_, _, _, rfl, o2, HandMsg.none_R _, Fre.nil h⟩
      | true =>
        rw [hx] at e2
        have v2' := v2
        obtain ⟨x1, p1, x2, p2, rfl, hq, w1, w2⟩ := v2'
        by_cases h4 : (exportShard s a.lo).1.epoch = a.epoch
        · have h4' : ((exportShard s a.lo).1.epoch != a.epoch) = false := by simpa using h4
          rw [send_yes ha h1 hx h4]
          simp only [run0, run1, run2, run3, run4, noSlot, memN, RO.dst, lk, drop, forget, number, Nat.reduceBEq, cut?, splice?, builds, List.length_cons, List.length_nil, List.drop_succ_cons, List.drop_zero, List.take_succ_cons, List.take_zero, List.cons_append, List.nil_append, List.append_nil, List.drop_nil, List.take_nil, Nat.reduceAdd, Nat.reduceLeDiff, Nat.zero_add, Nat.add_zero, ↓reduceIte, Bool.not_true, Bool.not_false, decide_true, decide_false, eq_self, bne_self_eq_false, List.getElem?_cons_zero, List.getElem?_cons_succ, decide_eq_true_eq, Bool.false_eq_true, Bool.true_eq_false, reduceCtorEq, Nat.le_refl, l1, l2, l3, e1, h3', h1', e3', e2, h4']
          rw [h1]
          exact ⟨_, _, _, rfl, o2, ⟨x1, p1, x2, p2, rfl, hq, w1, w2⟩, f2⟩
        · have h4' : ((exportShard s a.lo).1.epoch != a.epoch) = true := by simpa using h4
          rw [send_old h1 h4]
          simp only [run0, run1, run2, run3, run4, noSlot, memN, RO.dst, lk, drop, forget, number, Nat.reduceBEq, cut?, splice?, builds, List.length_cons, List.length_nil, List.drop_succ_cons, List.drop_zero, List.take_succ_cons, List.take_zero, List.cons_append, List.nil_append, List.append_nil, List.drop_nil, List.take_nil, Nat.reduceAdd, Nat.reduceLeDiff, Nat.zero_add, Nat.add_zero, ↓reduceIte, Bool.not_true, Bool.not_false, decide_true, decide_false, eq_self, bne_self_eq_false, List.getElem?_cons_zero, List.getElem?_cons_succ, decide_eq_true_eq, Bool.false_eq_true, Bool.true_eq_false, reduceCtorEq, Nat.le_refl, l1, l2, l3, e1, h3', h1', e3', e2, h4']
          exact ⟨_, _, _, rfl, o2, HandMsg.none_R _, Fre.nil h⟩
    · have h1' : (a.phase == 1) = false := by simpa using h1
      have e3' : ∀ h, call F Z 132 [.agg [.int .u64 a.lo, .int .i64 a.from_, .int .i64 a.to, .int .i64 a.epoch, .int .i64 a.phase]] h = some (.c (.int .i64 a.epoch), h) := fun h => by rw [e3 h]; simp only [handEp]; rw [if_neg h1]
      rw [send_other ha h3 h1]
      simp only [run0, run1, run2, run3, run4, noSlot, memN, RO.dst, lk, drop, forget, number, Nat.reduceBEq, cut?, splice?, builds, List.length_cons, List.length_nil, List.drop_succ_cons, List.drop_zero, List.take_succ_cons, List.take_zero, List.cons_append, List.nil_append, List.append_nil, List.drop_nil, List.take_nil, Nat.reduceAdd, Nat.reduceLeDiff, Nat.zero_add, Nat.add_zero, ↓reduceIte, Bool.not_true, Bool.not_false, decide_true, decide_false, eq_self, bne_self_eq_false, List.getElem?_cons_zero, List.getElem?_cons_succ, decide_eq_true_eq, Bool.false_eq_true, Bool.true_eq_false, reduceCtorEq, Nat.le_refl, l1, l2, l3, e1, h3', h1', e3']
      exact ⟨_, _, _, rfl, On.refl h, ⟨.nil, [], .nil, [], rfl, rfl, SlR.nil _ _ _, SlR.nil _ _ _⟩, Fre.nil h⟩
theorem HandSend_c (k : KI F) (hI15 : Has F tI15) (hL : Has F tLibslicesIndexFuncimplShardimplShard) (hf : h.floor ≤ h.next) (a : Hand) (v : Store.RI h cs s fp) (ok : s.Ok) (sm : s.Small) :
    ∃ cs' h' fq, call F Z 304 [.agg a.enc, .agg cs] h = some (.tup [.agg cs', .c (.bool (handSend a s).2)], h') ∧ On h h' ∧ HandMsg.RI h' cs' (handSend a s).1 fq ∧ Fre h fq := by
  obtain ⟨l1, l2, l3⟩ := Store.lenI v
  obtain ⟨cs1, h1, fq, e, o, u, f⟩ := handSend_c (Z := Z) k hI15 hL hf a v ok sm
  obtain ⟨m1, m2, m3⟩ := HandMsg.lenI u
  rw [call_run F Z (hI15.lk (g := 304) rfl) _ _ rfl]
  simp only [Hand.enc] at e ⊢
  simp only [run0, run1, run2, run3, run4, noSlot, memN, RO.dst, lk, drop, forget, number, Nat.reduceBEq, cut?, splice?, builds, List.length_cons, List.length_nil, List.drop_succ_cons, List.drop_zero, List.take_succ_cons, List.take_zero, List.cons_append, List.nil_append, List.append_nil, List.drop_nil, List.take_nil, Nat.reduceAdd, Nat.reduceLeDiff, Nat.zero_add, Nat.add_zero, ↓reduceIte, Bool.not_true, Bool.not_false, decide_true, decide_false, eq_self, bne_self_eq_false, List.getElem?_cons_zero, List.getElem?_cons_succ, decide_eq_true_eq, Bool.false_eq_true, Bool.true_eq_false, reduceCtorEq, Nat.le_refl, l1, l2, l3, e, m1, m2, m3]
  exact ⟨_, _, _, rfl, o, u, f⟩
set_option maxHeartbeats 1000000 in
theorem sHandSend_c (k : KS F) (hS15 : Has F tS15) (hf : h.floor ≤ h.next) (a : Hand) (v : Store.RI h cs s fp) (ok : s.Ok) (sm : s.Small) :
    ∃ cs' h' fq, call F Z 303 [.agg a.enc, .agg cs] h = some (.tup [.agg cs', .c (.bool (handSend a s).2)], h') ∧ On h h' ∧ HandMsg.RI h' cs' (handSend a s).1 fq ∧ Fre h fq := by
  obtain ⟨l1, l2, l3⟩ := Store.lenI v
  have e1 := sHandOk_run (Z := Z) k.s01 hS15 a.lo a.from_ a.to a.epoch a.phase h
  obtain ⟨cs1, h1, fq, e2, o2, v2, f2⟩ := sExportShard_c (Z := Z) k hf v a.lo ok sm
  have hw := fun (hh : a.ok = true) => Hand.ok_epoch hh
  rw [call_run F Z (hS15.lk (g := 303) rfl) _ _ rfl]
  simp only [Hand.enc]
  cases ha : a.ok with
  | false =>
    rw [show handOk a.lo a.from_ a.to a.epoch a.phase = false from ha] at e1
    rw [send_bad ha]
    simp only [run0, run1, run2, run3, run4, noSlot, memN, RO.dst, lk, drop, forget, number, Nat.reduceBEq, cut?, splice?, builds, List.length_cons, List.length_nil, List.drop_succ_cons, List.drop_zero, List.take_succ_cons, List.take_zero, List.cons_append, List.nil_append, List.append_nil, List.drop_nil, List.take_nil, Nat.reduceAdd, Nat.reduceLeDiff, Nat.zero_add, Nat.add_zero, ↓reduceIte, Bool.not_true, Bool.not_false, decide_true, decide_false, eq_self, bne_self_eq_false, List.getElem?_cons_zero, List.getElem?_cons_succ, decide_eq_true_eq, Bool.false_eq_true, Bool.true_eq_false, reduceCtorEq, Nat.le_refl, l1, l2, l3, e1]
    exact ⟨_, _, _, rfl, On.refl h, HandMsg.none_R h, Fre.nil h⟩
  | true =>
    rw [show handOk a.lo a.from_ a.to a.epoch a.phase = true from ha] at e1
    by_cases h3 : a.phase = 3
    · rw [send_over h3]
      have h3t : (a.phase == 3) = true := by simpa using h3
      simp only [run0, run1, run2, run3, run4, noSlot, memN, RO.dst, lk, drop, forget, number, Nat.reduceBEq, cut?, splice?, builds, List.length_cons, List.length_nil, List.drop_succ_cons, List.drop_zero, List.take_succ_cons, List.take_zero, List.cons_append, List.nil_append, List.append_nil, List.drop_nil, List.take_nil, Nat.reduceAdd, Nat.reduceLeDiff, Nat.zero_add, Nat.add_zero, ↓reduceIte, Bool.not_true, Bool.not_false, decide_true, decide_false, eq_self, bne_self_eq_false, List.getElem?_cons_zero, List.getElem?_cons_succ, decide_eq_true_eq, Bool.false_eq_true, Bool.true_eq_false, reduceCtorEq, Nat.le_refl, l1, l2, l3, e1, h3t]
      exact ⟨_, _, _, rfl, On.refl h, HandMsg.none_R h, Fre.nil h⟩
    have h3' : (a.phase == 3) = false := by simpa using h3
    by_cases h1 : a.phase = 1
    · have h1' : (a.phase == 1) = true := by simpa using h1
      obtain ⟨m1, m2, m3⟩ := Shard.lenI v2
      cases hx : (exportShard s a.lo).2 with
      | false =>
        rw [hx] at e2
        rw [send_none h1 hx]
        simp only [run0, run1, run2, run3, run4, noSlot, memN, RO.dst, lk, drop, forget, number, Nat.reduceBEq, cut?, splice?, builds, List.length_cons, List.length_nil, List.drop_succ_cons, List.drop_zero, List.take_succ_cons, List.take_zero, List.cons_append, List.nil_append, List.append_nil, List.drop_nil, List.take_nil, Nat.reduceAdd, Nat.reduceLeDiff, Nat.zero_add, Nat.add_zero, ↓reduceIte, Bool.not_true, Bool.not_false, decide_true, decide_false, eq_self, bne_self_eq_false, List.getElem?_cons_zero, List.getElem?_cons_succ, decide_eq_true_eq, Bool.false_eq_true, Bool.true_eq_false, reduceCtorEq, Nat.le_refl, l1, l2, l3, e1, h3', h1', e2, m1, m2, m3]
        exact ⟨_, _, _, rfl, o2, HandMsg.none_R _, Fre.nil h⟩
      | true =>
        rw [hx] at e2
        have v2' := v2
        obtain ⟨x1, p1, x2, p2, rfl, hq, w1, w2⟩ := v2'
        by_cases h4 : (exportShard s a.lo).1.epoch = a.epoch
        · have h4' : ((exportShard s a.lo).1.epoch != a.epoch) = false := by simpa using h4
          rw [send_yes ha h1 hx h4]
          simp only [run0, run1, run2, run3, run4, noSlot, memN, RO.dst, lk, drop, forget, number, Nat.reduceBEq, cut?, splice?, builds, List.length_cons, List.length_nil, List.drop_succ_cons, List.drop_zero, List.take_succ_cons, List.take_zero, List.cons_append, List.nil_append, List.append_nil, List.drop_nil, List.take_nil, Nat.reduceAdd, Nat.reduceLeDiff, Nat.zero_add, Nat.add_zero, ↓reduceIte, Bool.not_true, Bool.not_false, decide_true, decide_false, eq_self, bne_self_eq_false, List.getElem?_cons_zero, List.getElem?_cons_succ, decide_eq_true_eq, Bool.false_eq_true, Bool.true_eq_false, reduceCtorEq, Nat.le_refl, l1, l2, l3, e1, h3', h1', e2, h4', hw ha]
          rw [h1]
          exact ⟨_, _, _, rfl, o2, ⟨x1, p1, x2, p2, rfl, hq, w1, w2⟩, f2⟩
        · have h4' : ((exportShard s a.lo).1.epoch != a.epoch) = true := by simpa using h4
          rw [send_old h1 h4]
          simp only [run0, run1, run2, run3, run4, noSlot, memN, RO.dst, lk, drop, forget, number, Nat.reduceBEq, cut?, splice?, builds, List.length_cons, List.length_nil, List.drop_succ_cons, List.drop_zero, List.take_succ_cons, List.take_zero, List.cons_append, List.nil_append, List.append_nil, List.drop_nil, List.take_nil, Nat.reduceAdd, Nat.reduceLeDiff, Nat.zero_add, Nat.add_zero, ↓reduceIte, Bool.not_true, Bool.not_false, decide_true, decide_false, eq_self, bne_self_eq_false, List.getElem?_cons_zero, List.getElem?_cons_succ, decide_eq_true_eq, Bool.false_eq_true, Bool.true_eq_false, reduceCtorEq, Nat.le_refl, l1, l2, l3, e1, h3', h1', e2, h4']
          exact ⟨_, _, _, rfl, o2, HandMsg.none_R _, Fre.nil h⟩
    · have h1' : (a.phase == 1) = false := by simpa using h1
      rw [send_other ha h3 h1]
      simp only [run0, run1, run2, run3, run4, noSlot, memN, RO.dst, lk, drop, forget, number, Nat.reduceBEq, cut?, splice?, builds, List.length_cons, List.length_nil, List.drop_succ_cons, List.drop_zero, List.take_succ_cons, List.take_zero, List.cons_append, List.nil_append, List.append_nil, List.drop_nil, List.take_nil, Nat.reduceAdd, Nat.reduceLeDiff, Nat.zero_add, Nat.add_zero, ↓reduceIte, Bool.not_true, Bool.not_false, decide_true, decide_false, eq_self, bne_self_eq_false, List.getElem?_cons_zero, List.getElem?_cons_succ, decide_eq_true_eq, Bool.false_eq_true, Bool.true_eq_false, reduceCtorEq, Nat.le_refl, l1, l2, l3, e1, h3', h1']
      exact ⟨_, _, _, rfl, On.refl h, ⟨.nil, [], .nil, [], rfl, rfl, SlR.nil _ _ _, SlR.nil _ _ _⟩, Fre.nil h⟩
theorem HandMsg.shardI (u : HandMsg.RI h ds m fq) : ∃ x1 x2, ds = [.int .i64 m.step, .int .u64 m.lo, .int .i64 m.to, .int .i64 m.epoch, .int .u64 m.shard.lo, .int .u64 m.shard.hi, .int .i64 m.shard.state, .int .i64 m.shard.epoch, x1, x2] ∧ Shard.RI h [.int .u64 m.shard.lo, .int .u64 m.shard.hi, .int .i64 m.shard.state, .int .i64 m.shard.epoch, x1, x2] m.shard fq := by
  obtain ⟨x1, p1, x2, p2, rfl, hq, w1, w2⟩ := u
  exact ⟨x1, x2, rfl, ⟨x1, p1, x2, p2, rfl, hq, w1, w2⟩⟩
set_option maxHeartbeats 1000000 in
theorem handTake_c (k : KI F) (hI15 : Has F tI15) (hL : Has F tLibslicesIndexFuncimplShardimplShard) (prd : PrimAt F Z 330 (delF 16)) (pri : PrimAt F Z 332 (insF 16 80)) (hf : h.floor ≤ h.next) (v : Store.RI h cs s fp) (u : HandMsg.RI h ds m fq) (ok : s.Ok) (sm : s.Small) (okm : m.Ok) (smm : m.Small) :
    ∃ cs' h' fq, call F Z 334 [.agg cs, .agg ds] h = some (.tup [.agg cs', .c (.bool (handTake s m).2)], h') ∧ On h h' ∧ Store.RI h' cs' (handTake s m).1 fq ∧ Fre h fq := by
  obtain ⟨x1, x2, rfl, ux⟩ := HandMsg.shardI u
  obtain ⟨cs0, h0, f0, e0, o0, v0, r0⟩ := copyStore_c (Z := Z) k hf v sm
  obtain ⟨cs1, h1, f1, e1, o1, v1, r1⟩ := FreezeShard_c (Z := Z) k hL hf v m.lo m.epoch ok sm
  obtain ⟨cs2, h2, f2, e2, o2, v2, r2⟩ := InstallShard_c (Z := Z) k pri hf v ux m.epoch ok sm okm.shard smm
  obtain ⟨cs3, h3, f3, e3, o3, v3, r3⟩ := RetireShard_c (Z := Z) k hL prd hf v m.lo m.epoch ok sm
  obtain ⟨a01, a02, a03⟩ := Store.lenI v0
  obtain ⟨a11, a12, a13⟩ := Store.lenI v1
  obtain ⟨a21, a22, a23⟩ := Store.lenI v2
  obtain ⟨a31, a32, a33⟩ := Store.lenI v3
  rw [call_run F Z (hI15.lk (g := 334) rfl) _ _ rfl]
  obtain ⟨y, p, rfl, _⟩ := v
  by_cases c0 : m.to = s.group
  · have c0' : (m.to != s.group) = false := by simpa using c0
    by_cases c1 : m.step = 0
    · have c1' : (m.step == 0) = true := by simpa using c1
      have hd : handTake s m = freezeShard s m.lo m.epoch := by simp [handTake, c0, c1]
      rw [hd]
      simp only [run0, run1, run2, run3, run4, noSlot, memN, RO.dst, lk, drop, forget, number, Nat.reduceBEq, cut?, splice?, builds, List.length_cons, List.length_nil, List.drop_succ_cons, List.drop_zero, List.take_succ_cons, List.take_zero, List.cons_append, List.nil_append, List.append_nil, List.drop_nil, List.take_nil, Nat.reduceAdd, Nat.reduceLeDiff, Nat.zero_add, Nat.add_zero, ↓reduceIte, Bool.not_true, Bool.not_false, decide_true, decide_false, eq_self, bne_self_eq_false, List.getElem?_cons_zero, List.getElem?_cons_succ, decide_eq_true_eq, Bool.false_eq_true, Bool.true_eq_false, reduceCtorEq, Nat.le_refl, c0', c1', e1, a11, a12, a13]
      exact ⟨_, _, _, rfl, o1, v1, r1⟩
    have c1' : (m.step == 0) = false := by simpa using c1
    by_cases c2 : m.step = 1
    · have c2' : (m.step == 1) = true := by simpa using c2
      have hd : handTake s m = installShard s m.shard m.epoch := by simp [handTake, c0, c2]
      rw [hd]
      simp only [run0, run1, run2, run3, run4, noSlot, memN, RO.dst, lk, drop, forget, number, Nat.reduceBEq, cut?, splice?, builds, List.length_cons, List.length_nil, List.drop_succ_cons, List.drop_zero, List.take_succ_cons, List.take_zero, List.cons_append, List.nil_append, List.append_nil, List.drop_nil, List.take_nil, Nat.reduceAdd, Nat.reduceLeDiff, Nat.zero_add, Nat.add_zero, ↓reduceIte, Bool.not_true, Bool.not_false, decide_true, decide_false, eq_self, bne_self_eq_false, List.getElem?_cons_zero, List.getElem?_cons_succ, decide_eq_true_eq, Bool.false_eq_true, Bool.true_eq_false, reduceCtorEq, Nat.le_refl, c0', c1', c2', e2, a21, a22, a23]
      exact ⟨_, _, _, rfl, o2, v2, r2⟩
    have c2' : (m.step == 1) = false := by simpa using c2
    by_cases c3 : m.step = 2
    · have c3' : (m.step == 2) = true := by simpa using c3
      have hd : handTake s m = retireShard s m.lo m.epoch := by simp [handTake, c0, c3]
      rw [hd]
      simp only [run0, run1, run2, run3, run4, noSlot, memN, RO.dst, lk, drop, forget, number, Nat.reduceBEq, cut?, splice?, builds, List.length_cons, List.length_nil, List.drop_succ_cons, List.drop_zero, List.take_succ_cons, List.take_zero, List.cons_append, List.nil_append, List.append_nil, List.drop_nil, List.take_nil, Nat.reduceAdd, Nat.reduceLeDiff, Nat.zero_add, Nat.add_zero, ↓reduceIte, Bool.not_true, Bool.not_false, decide_true, decide_false, eq_self, bne_self_eq_false, List.getElem?_cons_zero, List.getElem?_cons_succ, decide_eq_true_eq, Bool.false_eq_true, Bool.true_eq_false, reduceCtorEq, Nat.le_refl, c0', c1', c2', c3', e3, a31, a32, a33]
      exact ⟨_, _, _, rfl, o3, v3, r3⟩
    have c3' : (m.step == 2) = false := by simpa using c3
    have hd : handTake s m = (s, false) := by simp [handTake, c0, c1', c2', c3']
    rw [hd]
    simp only [run0, run1, run2, run3, run4, noSlot, memN, RO.dst, lk, drop, forget, number, Nat.reduceBEq, cut?, splice?, builds, List.length_cons, List.length_nil, List.drop_succ_cons, List.drop_zero, List.take_succ_cons, List.take_zero, List.cons_append, List.nil_append, List.append_nil, List.drop_nil, List.take_nil, Nat.reduceAdd, Nat.reduceLeDiff, Nat.zero_add, Nat.add_zero, ↓reduceIte, Bool.not_true, Bool.not_false, decide_true, decide_false, eq_self, bne_self_eq_false, List.getElem?_cons_zero, List.getElem?_cons_succ, decide_eq_true_eq, Bool.false_eq_true, Bool.true_eq_false, reduceCtorEq, Nat.le_refl, c0', c1', c2', c3', e0, a01, a02, a03]
    exact ⟨_, _, _, rfl, o0, v0, r0⟩
  · have c0' : (m.to != s.group) = true := by simpa using c0
    have hd : handTake s m = (s, false) := by
      have : (m.to == s.group) = false := by simpa using c0
      simp [handTake, this]
    rw [hd]
    simp only [run0, run1, run2, run3, run4, noSlot, memN, RO.dst, lk, drop, forget, number, Nat.reduceBEq, cut?, splice?, builds, List.length_cons, List.length_nil, List.drop_succ_cons, List.drop_zero, List.take_succ_cons, List.take_zero, List.cons_append, List.nil_append, List.append_nil, List.drop_nil, List.take_nil, Nat.reduceAdd, Nat.reduceLeDiff, Nat.zero_add, Nat.add_zero, ↓reduceIte, Bool.not_true, Bool.not_false, decide_true, decide_false, eq_self, bne_self_eq_false, List.getElem?_cons_zero, List.getElem?_cons_succ, decide_eq_true_eq, Bool.false_eq_true, Bool.true_eq_false, reduceCtorEq, Nat.le_refl, c0', e0, a01, a02, a03]
    exact ⟨_, _, _, rfl, o0, v0, r0⟩
theorem HandTake_c (k : KI F) (hI15 : Has F tI15) (hL : Has F tLibslicesIndexFuncimplShardimplShard) (prd : PrimAt F Z 330 (delF 16)) (pri : PrimAt F Z 332 (insF 16 80)) (hf : h.floor ≤ h.next) (v : Store.RI h cs s fp) (u : HandMsg.RI h ds m fq) (ok : s.Ok) (sm : s.Small) (okm : m.Ok) (smm : m.Small) :
    ∃ cs' h' fq, call F Z 315 [.agg cs, .agg ds] h = some (.tup [.agg cs', .c (.bool (handTake s m).2)], h') ∧ On h h' ∧ Store.RI h' cs' (handTake s m).1 fq ∧ Fre h fq := by
  obtain ⟨l1, l2, l3⟩ := Store.lenI v
  obtain ⟨d1, d2, d3⟩ := HandMsg.lenI u
  obtain ⟨cs1, h1, fr, e, o, w, f⟩ := handTake_c (Z := Z) k hI15 hL prd pri hf v u ok sm okm smm
  obtain ⟨m1, m2, m3⟩ := Store.lenI w
  rw [call_run F Z (hI15.lk (g := 315) rfl) _ _ rfl]
  simp only [run0, run1, run2, run3, run4, noSlot, memN, RO.dst, lk, drop, forget, number, Nat.reduceBEq, cut?, splice?, builds, List.length_cons, List.length_nil, List.drop_succ_cons, List.drop_zero, List.take_succ_cons, List.take_zero, List.cons_append, List.nil_append, List.append_nil, List.drop_nil, List.take_nil, Nat.reduceAdd, Nat.reduceLeDiff, Nat.zero_add, Nat.add_zero, ↓reduceIte, Bool.not_true, Bool.not_false, decide_true, decide_false, eq_self, bne_self_eq_false, List.getElem?_cons_zero, List.getElem?_cons_succ, decide_eq_true_eq, Bool.false_eq_true, Bool.true_eq_false, reduceCtorEq, Nat.le_refl, l1, l2, l3, d1, d2, d3, e, m1, m2, m3]
  exact ⟨_, _, _, rfl, o, w, f⟩
set_option maxHeartbeats 1000000 in
theorem sHandTake_c (k : KS F) (hS15 : Has F tS15) (hf : h.floor ≤ h.next) (v : Store.RI h cs s fp) (u : HandMsg.RI h ds m fq) (ok : s.Ok) (sm : s.Small) (okm : m.Ok) (smm : m.Small) :
    ∃ cs' h' fq, call F Z 314 [.agg cs, .agg ds] h = some (.tup [.agg cs', .c (.bool (handTake s m).2)], h') ∧ On h h' ∧ Store.RI h' cs' (handTake s m).1 fq ∧ Fre h fq := by
  obtain ⟨x1, x2, rfl, ux⟩ := HandMsg.shardI u
  have cp : ∀ {cs1 : List Cell} {h1 : Heap} {t : Store} {f1 : List Nat}, On h h1 → Store.RI h1 cs1 t f1 → t.Small → ∃ cs2 h2 f2, call F Z 317 [.agg cs1] h1 = some (.agg cs2, h2) ∧ On h h2 ∧ Store.RI h2 cs2 t f2 ∧ Fre h f2 ∧ cs2.length = 3 ∧ cs2.take 3 = cs2 ∧ cs2.drop 3 = [] := fun {cs1 h1 t f1} o v sm => by
    obtain ⟨cs2, h2, f2, e, o2, v2, r2⟩ := l13Copy_c (Z := Z) k (o.le hf) v sm
    obtain ⟨a1, a2, a3⟩ := Store.lenI v2
    exact ⟨cs2, h2, f2, e, o.trans o2, v2, ⟨fun id hid => Nat.le_trans o.ext.1 (r2.lo id hid), r2.nd⟩, a1, a2, a3⟩
  obtain ⟨cs1, h1, f1, e1, o1, v1, r1⟩ := sFreezeShard_c (Z := Z) k hf v m.lo m.epoch ok sm
  obtain ⟨cs2, h2, f2, e2, o2, v2, r2⟩ := sInstallShard_c (Z := Z) k hf v ux m.epoch ok sm okm.shard smm
  obtain ⟨cs3, h3, f3, e3, o3, v3, r3⟩ := sRetireShard_c (Z := Z) k hf v m.lo m.epoch ok sm
  obtain ⟨b11, b12, b13⟩ := Store.lenI v1
  obtain ⟨b21, b22, b23⟩ := Store.lenI v2
  obtain ⟨b31, b32, b33⟩ := Store.lenI v3
  obtain ⟨ds0, g0, q0, c0, p0, u0, s0, a01, a02, a03⟩ := cp (On.refl h) v sm
  obtain ⟨ds1, g1, q1, c1, p1, u1, s1, a11, a12, a13⟩ := cp o1 v1 (freezeShard_small sm _ _)
  obtain ⟨ds2, g2, q2, c2, p2, u2, s2, a21, a22, a23⟩ := cp o2 v2 (installShard_small sm smm _)
  obtain ⟨ds3, g3, q3, c3, p3, u3, s3, a31, a32, a33⟩ := cp o3 v3 (retireShard_small sm _ _)
  clear cp
  rw [call_run F Z (hS15.lk (g := 314) rfl) _ _ rfl]
  obtain ⟨y, p, rfl, _⟩ := v
  by_cases d0 : m.to = s.group
  · have d0' : (s.group != m.to) = false := by simpa using d0.symm
    by_cases d1 : m.step = 0
    · have d1' : (m.step == 0) = true := by simpa using d1
      have hd : handTake s m = freezeShard s m.lo m.epoch := by simp [handTake, d0, d1]
      rw [hd]
      simp only [run0, run1, run2, run3, run4, noSlot, memN, RO.dst, lk, drop, forget, number, Nat.reduceBEq, cut?, splice?, builds, List.length_cons, List.length_nil, List.drop_succ_cons, List.drop_zero, List.take_succ_cons, List.take_zero, List.cons_append, List.nil_append, List.append_nil, List.drop_nil, List.take_nil, Nat.reduceAdd, Nat.reduceLeDiff, Nat.zero_add, Nat.add_zero, ↓reduceIte, Bool.not_true, Bool.not_false, decide_true, decide_false, eq_self, bne_self_eq_false, List.getElem?_cons_zero, List.getElem?_cons_succ, decide_eq_true_eq, Bool.false_eq_true, Bool.true_eq_false, reduceCtorEq, Nat.le_refl, d0', d1', e1, b11, b12, b13, c1, a11, a12, a13]
      exact ⟨_, _, _, rfl, p1, u1, s1⟩
    have d1' : (m.step == 0) = false := by simpa using d1
    by_cases d2 : m.step = 1
    · have d2' : (m.step == 1) = true := by simpa using d2
      have hd : handTake s m = installShard s m.shard m.epoch := by simp [handTake, d0, d2]
      rw [hd]
      simp only [run0, run1, run2, run3, run4, noSlot, memN, RO.dst, lk, drop, forget, number, Nat.reduceBEq, cut?, splice?, builds, List.length_cons, List.length_nil, List.drop_succ_cons, List.drop_zero, List.take_succ_cons, List.take_zero, List.cons_append, List.nil_append, List.append_nil, List.drop_nil, List.take_nil, Nat.reduceAdd, Nat.reduceLeDiff, Nat.zero_add, Nat.add_zero, ↓reduceIte, Bool.not_true, Bool.not_false, decide_true, decide_false, eq_self, bne_self_eq_false, List.getElem?_cons_zero, List.getElem?_cons_succ, decide_eq_true_eq, Bool.false_eq_true, Bool.true_eq_false, reduceCtorEq, Nat.le_refl, d0', d1', d2', e2, b21, b22, b23, c2, a21, a22, a23]
      exact ⟨_, _, _, rfl, p2, u2, s2⟩
    have d2' : (m.step == 1) = false := by simpa using d2
    by_cases d3 : m.step = 2
    · have d3' : (m.step == 2) = true := by simpa using d3
      have hd : handTake s m = retireShard s m.lo m.epoch := by simp [handTake, d0, d3]
      rw [hd]
      simp only [run0, run1, run2, run3, run4, noSlot, memN, RO.dst, lk, drop, forget, number, Nat.reduceBEq, cut?, splice?, builds, List.length_cons, List.length_nil, List.drop_succ_cons, List.drop_zero, List.take_succ_cons, List.take_zero, List.cons_append, List.nil_append, List.append_nil, List.drop_nil, List.take_nil, Nat.reduceAdd, Nat.reduceLeDiff, Nat.zero_add, Nat.add_zero, ↓reduceIte, Bool.not_true, Bool.not_false, decide_true, decide_false, eq_self, bne_self_eq_false, List.getElem?_cons_zero, List.getElem?_cons_succ, decide_eq_true_eq, Bool.false_eq_true, Bool.true_eq_false, reduceCtorEq, Nat.le_refl, d0', d1', d2', d3', e3, b31, b32, b33, c3, a31, a32, a33]
      exact ⟨_, _, _, rfl, p3, u3, s3⟩
    have d3' : (m.step == 2) = false := by simpa using d3
    have hd : handTake s m = (s, false) := by simp [handTake, d0, d1', d2', d3']
    rw [hd]
    simp only [run0, run1, run2, run3, run4, noSlot, memN, RO.dst, lk, drop, forget, number, Nat.reduceBEq, cut?, splice?, builds, List.length_cons, List.length_nil, List.drop_succ_cons, List.drop_zero, List.take_succ_cons, List.take_zero, List.cons_append, List.nil_append, List.append_nil, List.drop_nil, List.take_nil, Nat.reduceAdd, Nat.reduceLeDiff, Nat.zero_add, Nat.add_zero, ↓reduceIte, Bool.not_true, Bool.not_false, decide_true, decide_false, eq_self, bne_self_eq_false, List.getElem?_cons_zero, List.getElem?_cons_succ, decide_eq_true_eq, Bool.false_eq_true, Bool.true_eq_false, reduceCtorEq, Nat.le_refl, d0', d1', d2', d3', c0, a01, a02, a03]
    exact ⟨_, _, _, rfl, p0, u0, s0⟩
  · have d0' : (s.group != m.to) = true := by simpa using fun e => d0 e.symm
    have hd : handTake s m = (s, false) := by
      have : (m.to == s.group) = false := by simpa using d0
      simp [handTake, this]
    rw [hd]
    simp only [run0, run1, run2, run3, run4, noSlot, memN, RO.dst, lk, drop, forget, number, Nat.reduceBEq, cut?, splice?, builds, List.length_cons, List.length_nil, List.drop_succ_cons, List.drop_zero, List.take_succ_cons, List.take_zero, List.cons_append, List.nil_append, List.append_nil, List.drop_nil, List.take_nil, Nat.reduceAdd, Nat.reduceLeDiff, Nat.zero_add, Nat.add_zero, ↓reduceIte, Bool.not_true, Bool.not_false, decide_true, decide_false, eq_self, bne_self_eq_false, List.getElem?_cons_zero, List.getElem?_cons_succ, decide_eq_true_eq, Bool.false_eq_true, Bool.true_eq_false, reduceCtorEq, Nat.le_refl, d0', c0, a01, a02, a03]
    exact ⟨_, _, _, rfl, p0, u0, s0⟩
end
end Go.Proofs.Ytlfepembgjjejaa.A
/- Sums of money, in two words. -/
namespace Go.Proofs.Ytlfepembgjjejaa.A
open Go
set_option linter.unusedSimpArgs false
set_option linter.unusedVariables false
def sumI {α : Type} (f : α → Int) : List α → Int
  | [] => 0
  | a :: r => f a + sumI f r
section
variable {α : Type} (f : α → Int)
theorem sumI_app : ∀ (xs ys : List α), sumI f (xs ++ ys) = sumI f xs + sumI f ys
  | [], ys => by simp [sumI]
  | a :: r, ys => by
    simp only [List.cons_append, sumI, sumI_app r ys]; omega
theorem sumI_take (xs : List α) {i : Nat} (hi : i < xs.length) : sumI f (xs.take (i + 1)) = sumI f (xs.take i) + f xs[i] := by
  rw [List.take_add_one, List.getElem?_eq_getElem hi, sumI_app]
  simp [sumI]
theorem sumI_le {m : Int} : ∀ (xs : List α), (∀ a, a ∈ xs → 0 ≤ f a ∧ f a ≤ m) → 0 ≤ sumI f xs ∧ sumI f xs ≤ m * xs.length
  | [], _ => by simp [sumI]
  | a :: r, h => by
    have h1 := h a (by simp)
    have h2 := sumI_le r fun b hb => h b (by simp [hb])
    simp only [sumI, List.length_cons]
    constructor
    · omega
    · rw [Int.natCast_add, Int.mul_add]
      simp only [Int.natCast_one, Int.mul_one]
      omega
theorem sumI_take_le {m : Int} (hm : 0 ≤ m) (xs : List α) (h : ∀ a, a ∈ xs → 0 ≤ f a ∧ f a ≤ m) (i : Nat) : 0 ≤ sumI f (xs.take i) ∧ sumI f (xs.take i) ≤ m * xs.length := by
  have h1 := sumI_le f (m := m) (xs.take i) fun a ha => h a (List.mem_of_mem_take ha)
  have h2 : m * ((xs.take i).length : Int) ≤ m * (xs.length : Int) := Int.mul_le_mul_of_nonneg_left (by rw [List.length_take]; omega) hm
  exact ⟨h1.1, by omega⟩
end
def Account.money (a : Account) : Int := a.bal + a.hold
def moneyOf (xs : List Account) : Int := sumI Account.money xs
/-- The two words of a sum. -/
def wHi (t : Int) : Int := t / 18446744073709551616
def wLo (t : Int) : Int := t % 18446744073709551616
theorem Account.money_ok {xs : List Account} (hok : ∀ t, t ∈ xs → t.Ok) (hb : bookOk xs = true) : xs.length ≤ 40 ∧ ∀ a, a ∈ xs → 0 ≤ a.money ∧ a.money ≤ 18446744073709551615 := by
  simp only [bookOk, Bool.and_eq_true, List.all_eq_true, List.mem_range, decide_eq_true_eq] at hb
  refine ⟨by omega, fun a ha => ?_⟩
  obtain ⟨i, hi, rfl⟩ := List.mem_iff_getElem.1 ha
  have h1 := hb.1 i hi
  have o := hok _ ha
  have e1 : Account.at_ xs i = xs[i] := by simp [Account.at_, List.getElem?_eq_getElem hi]
  simp only [Account.fits, e1, Account.fine, Bool.and_eq_true, decide_eq_true_eq] at h1
  have b2 := o.bal
  have b3 := o.hold
  have b4 := o.due
  simp only [Account.money]
  omega
theorem moneyOf_le {xs : List Account} (hl : xs.length ≤ 40) (hm : ∀ a, a ∈ xs → 0 ≤ a.money ∧ a.money ≤ 18446744073709551615) : 0 ≤ moneyOf xs ∧ moneyOf xs ≤ 737869762948382064600 := by
  have := sumI_le Account.money xs hm
  simp only [moneyOf]
  omega
section
variable {F : Nat → Option RF} {Z : CallF} {h : Heap} {x : Cell} {xs : List Account} {fp : List Nat}
set_option maxHeartbeats 1000000 in
theorem totalOf_turn (w : SlR 11 (Fl Account.enc) h x xs fp) (hok : ∀ t, t ∈ xs → t.Ok) (hl : xs.length ≤ 40) (hm : ∀ a, a ∈ xs → 0 ≤ a.money ∧ a.money ≤ 18446744073709551615) (i : Nat) (hi : i < xs.length) :
    loop F Z [4, 5, 11, 12, 13] r209L0 ⟨[(4, .c (.int .u64 (wHi (moneyOf (xs.take i))))), (5, .c (.int .u64 (wLo (moneyOf (xs.take i))))), (11, .c x), (12, .c (.int .i64 (xs.length : Nat))), (13, .c (.int .i64 (i : Nat)))], [], [], h⟩
      = loop F Z [4, 5, 11, 12, 13] r209L0 ⟨[(4, .c (.int .u64 (wHi (moneyOf (xs.take (i + 1)))))), (5, .c (.int .u64 (wLo (moneyOf (xs.take (i + 1)))))), (11, .c x), (12, .c (.int .i64 (xs.length : Nat))), (13, .c (.int .i64 ((i + 1 : Nat) : Int)))], [], [], h⟩ := by
  have hle := w.le2
  have hlt : (i : Int) < xs.length := by omega
  have hws := wrapS i (by omega)
  have hxi := w.idx hi
  have hld := w.load hi
  have o1 := hok _ (List.getElem_mem hi)
  have m1 := hm _ (List.getElem_mem hi)
  have ht : moneyOf (xs.take (i + 1)) = moneyOf (xs.take i) + xs[i].money := sumI_take _ xs hi
  have hT := sumI_take_le Account.money (by omega) xs hm i
  change 0 ≤ moneyOf (xs.take i) ∧ moneyOf (xs.take i) ≤ _ at hT
  rw [ht]
  clear w hok hm ht
  generalize moneyOf (xs.take i) = T at *
  generalize xs[i] = a at *
  obtain ⟨id, bal, hold, due, tx⟩ := a
  obtain ⟨a1, a2, a3, a4, a5⟩ := o1
  dsimp only at a1 a2 a3 a4 a5
  simp only [Account.money] at m1 ⊢
  have e0 : IntKind.u64.wrap (bal + hold) = bal + hold := wrapU _ (by omega) (by omega)
  have e1 : (wLo T + (bal + hold) + 0) % 18446744073709551616 = wLo (T + (bal + hold)) := by simp only [wLo]; omega
  have e2 : IntKind.u64.wrap (wHi T + (wLo T + (bal + hold) + 0) / 18446744073709551616) = wHi (T + (bal + hold)) := by
    simp only [wHi, wLo]
    rw [wrapU _ (by omega) (by omega)]; omega
  have c1 : 0 ≤ wLo T := by simp only [wLo]; omega
  have c2 : 0 ≤ bal + hold := by omega
  have c3 : (0 : Int) ≤ 1 := by omega
  rw [loop_run]
  conv in (codeF _ _ r209L0 _) => unfold r209L0
  simp only [run0, run1, run2, run3, run4, noSlot, memN, RO.dst, lk, drop, forget, number, Nat.reduceBEq, cut?, splice?, builds, List.length_cons, List.length_nil, List.drop_succ_cons, List.drop_zero, List.take_succ_cons, List.take_zero, List.cons_append, List.nil_append, List.append_nil, List.drop_nil, List.take_nil, Nat.reduceAdd, Nat.reduceLeDiff, Nat.zero_add, Nat.add_zero, ↓reduceIte, Bool.not_true, Bool.not_false, decide_true, decide_false, eq_self, bne_self_eq_false, List.getElem?_cons_zero, List.getElem?_cons_succ, decide_eq_true_eq, Bool.false_eq_true, Bool.true_eq_false, reduceCtorEq, Nat.le_refl, hlt, hxi, hld, Account.enc, e0, e1, e2, c1, c2, c3, Int.le_refl, and_self, hws]
theorem totalOf_run (hI10 : Has F tI10) (w : SlR 11 (Fl Account.enc) h x xs fp) (hok : ∀ t, t ∈ xs → t.Ok) (hl : xs.length ≤ 40) (hm : ∀ a, a ∈ xs → 0 ≤ a.money ∧ a.money ≤ 18446744073709551615) :
    call F Z 209 [.agg [x]] h = some (.tup [.c (.int .u64 (wHi (moneyOf xs))), .c (.int .u64 (wLo (moneyOf xs)))], h) := by
  have key := loop_goesF (F := F) (Z := Z) (live := [4, 5, 11, 12, 13]) (b := r209L0) xs.length (fun i => ⟨[(4, .c (.int .u64 (wHi (moneyOf (xs.take i))))), (5, .c (.int .u64 (wLo (moneyOf (xs.take i))))), (11, .c x), (12, .c (.int .i64 (xs.length : Nat))), (13, .c (.int .i64 (i : Nat)))], [], [], h⟩)
    fun i hi => totalOf_turn w hok hl hm i hi
  have z1 : wHi (moneyOf (xs.take 0)) = 0 := rfl
  have z2 : wLo (moneyOf (xs.take 0)) = 0 := rfl
  simp only [show ((0 : Nat) : Int) = 0 from rfl, z1, z2, List.take_length] at key
  have hlt : ¬ (xs.length : Int) < xs.length := by omega
  have hwl := w.len
  rw [call_run F Z (hI10.lk (g := 209) rfl) _ _ rfl]
  simp only [run0, run1, run2, run3, run4, noSlot, memN, RO.dst, lk, drop, forget, number, Nat.reduceBEq, cut?, splice?, builds, List.length_cons, List.length_nil, List.drop_succ_cons, List.drop_zero, List.take_succ_cons, List.take_zero, List.cons_append, List.nil_append, List.append_nil, List.drop_nil, List.take_nil, Nat.reduceAdd, Nat.reduceLeDiff, Nat.zero_add, Nat.add_zero, ↓reduceIte, Bool.not_true, Bool.not_false, decide_true, decide_false, eq_self, bne_self_eq_false, List.getElem?_cons_zero, List.getElem?_cons_succ, decide_eq_true_eq, Bool.false_eq_true, Bool.true_eq_false, reduceCtorEq, Nat.le_refl, hwl, key]
  rw [loop_run]
  conv in (codeF _ _ r209L0 _) => unfold r209L0
  simp only [run0, run1, run2, run3, run4, noSlot, memN, RO.dst, lk, drop, forget, number, Nat.reduceBEq, cut?, splice?, builds, List.length_cons, List.length_nil, List.drop_succ_cons, List.drop_zero, List.take_succ_cons, List.take_zero, List.cons_append, List.nil_append, List.append_nil, List.drop_nil, List.take_nil, Nat.reduceAdd, Nat.reduceLeDiff, Nat.zero_add, Nat.add_zero, ↓reduceIte, Bool.not_true, Bool.not_false, decide_true, decide_false, eq_self, bne_self_eq_false, List.getElem?_cons_zero, List.getElem?_cons_succ, decide_eq_true_eq, Bool.false_eq_true, Bool.true_eq_false, reduceCtorEq, Nat.le_refl, hlt]
set_option maxHeartbeats 1000000 in
theorem sTotalOf_turn (w : SlR 11 (Fl Account.enc) h x xs fp) (hok : ∀ t, t ∈ xs → t.Ok) (hl : xs.length ≤ 40) (hm : ∀ a, a ∈ xs → 0 ≤ a.money ∧ a.money ≤ 18446744073709551615) (i : Nat) (hi : i < xs.length) :
    loop F Z [1, 4, 5, 6] r245L0 ⟨[(4, .c (.int .u64 (wHi (moneyOf (xs.take i))))), (5, .c (.int .u64 (wLo (moneyOf (xs.take i))))), (6, .c (.int .i64 (i : Nat)))], [(1, 1, 0)], [(1, [x])], h⟩
      = loop F Z [1, 4, 5, 6] r245L0 ⟨[(4, .c (.int .u64 (wHi (moneyOf (xs.take (i + 1)))))), (5, .c (.int .u64 (wLo (moneyOf (xs.take (i + 1)))))), (6, .c (.int .i64 ((i + 1 : Nat) : Int)))], [(1, 1, 0)], [(1, [x])], h⟩ := by
  have hle := w.le2
  have hlt : (i : Int) < xs.length := by omega
  have hws := wrapS i (by omega)
  have hxi := w.idx hi
  have hld := w.load hi
  have hwl := w.len
  have o1 := hok _ (List.getElem_mem hi)
  have m1 := hm _ (List.getElem_mem hi)
  have ht : moneyOf (xs.take (i + 1)) = moneyOf (xs.take i) + xs[i].money := sumI_take _ xs hi
  have hT := sumI_take_le Account.money (by omega) xs hm i
  change 0 ≤ moneyOf (xs.take i) ∧ moneyOf (xs.take i) ≤ _ at hT
  rw [ht]
  clear w hok hm ht
  generalize moneyOf (xs.take i) = T at *
  generalize xs[i] = a at *
  obtain ⟨id, bal, hold, due, tx⟩ := a
  obtain ⟨a1, a2, a3, a4, a5⟩ := o1
  dsimp only at a1 a2 a3 a4 a5
  simp only [Account.money] at m1 ⊢
  have e0 : IntKind.u64.wrap (bal + hold) = bal + hold := wrapU _ (by omega) (by omega)
  have e1 : IntKind.u64.wrap (wLo T + (bal + hold)) = wLo (T + (bal + hold)) := by
    show (wLo T + (bal + hold)) % 18446744073709551616 = _
    simp only [wLo]; omega
  have e3 : IntKind.u64.wrap (18446744073709551615 - wLo T) = 18446744073709551615 - wLo T := wrapU _ (by simp only [wLo]; omega) (by simp only [wLo]; omega)
  rw [loop_run]
  conv in (codeF _ _ r245L0 _) => unfold r245L0
  by_cases c : bal + hold > 18446744073709551615 - wLo T
  · have e2 : IntKind.u64.wrap (wHi T + 1) = wHi (T + (bal + hold)) := by
      simp only [wLo] at c
      simp only [wHi]
      rw [wrapU _ (by omega) (by omega)]; omega
    simp only [run0, run1, run2, run3, run4, noSlot, memN, RO.dst, lk, drop, forget, number, Nat.reduceBEq, cut?, splice?, builds, List.length_cons, List.length_nil, List.drop_succ_cons, List.drop_zero, List.take_succ_cons, List.take_zero, List.cons_append, List.nil_append, List.append_nil, List.drop_nil, List.take_nil, Nat.reduceAdd, Nat.reduceLeDiff, Nat.zero_add, Nat.add_zero, ↓reduceIte, Bool.not_true, Bool.not_false, decide_true, decide_false, eq_self, bne_self_eq_false, List.getElem?_cons_zero, List.getElem?_cons_succ, decide_eq_true_eq, Bool.false_eq_true, Bool.true_eq_false, reduceCtorEq, Nat.le_refl, hwl, hlt, hxi, hld, Account.enc, e0, e1, e2, e3, c, hws]
  · have e2 : wHi T = wHi (T + (bal + hold)) := by
      simp only [wLo] at c
      simp only [wHi]; omega
    simp only [run0, run1, run2, run3, run4, noSlot, memN, RO.dst, lk, drop, forget, number, Nat.reduceBEq, cut?, splice?, builds, List.length_cons, List.length_nil, List.drop_succ_cons, List.drop_zero, List.take_succ_cons, List.take_zero, List.cons_append, List.nil_append, List.append_nil, List.drop_nil, List.take_nil, Nat.reduceAdd, Nat.reduceLeDiff, Nat.zero_add, Nat.add_zero, ↓reduceIte, Bool.not_true, Bool.not_false, decide_true, decide_false, eq_self, bne_self_eq_false, List.getElem?_cons_zero, List.getElem?_cons_succ, decide_eq_true_eq, Bool.false_eq_true, Bool.true_eq_false, reduceCtorEq, Nat.le_refl, hwl, hlt, hxi, hld, Account.enc, e0, e1, e3, c, hws]
    rw [e2]
theorem sTotalOf_run (hS10 : Has F tS10) (w : SlR 11 (Fl Account.enc) h x xs fp) (hok : ∀ t, t ∈ xs → t.Ok) (hb : bookOk xs = true) :
    call F Z 245 [.agg [x]] h = some (.tup [.c (.int .u64 (wHi (moneyOf xs))), .c (.int .u64 (wLo (moneyOf xs)))], h) := by
  obtain ⟨hl, hm⟩ := Account.money_ok hok hb
  have hB := sBookOk_run (Z := Z) hS10 w hok
  rw [hb] at hB
  have key := loop_goesF (F := F) (Z := Z) (live := [1, 4, 5, 6]) (b := r245L0) xs.length (fun i => ⟨[(4, .c (.int .u64 (wHi (moneyOf (xs.take i))))), (5, .c (.int .u64 (wLo (moneyOf (xs.take i))))), (6, .c (.int .i64 (i : Nat)))], [(1, 1, 0)], [(1, [x])], h⟩)
    fun i hi => sTotalOf_turn w hok hl hm i hi
  have z1 : wHi (moneyOf (xs.take 0)) = 0 := rfl
  have z2 : wLo (moneyOf (xs.take 0)) = 0 := rfl
  simp only [show ((0 : Nat) : Int) = 0 from rfl, z1, z2, List.take_length] at key
  have hlt : ¬ (xs.length : Int) < xs.length := by omega
  have hwl := w.len
  rw [call_run F Z (hS10.lk (g := 245) rfl) _ _ rfl]
  simp only [run0, run1, run2, run3, run4, noSlot, memN, RO.dst, lk, drop, forget, number, Nat.reduceBEq, cut?, splice?, builds, List.length_cons, List.length_nil, List.drop_succ_cons, List.drop_zero, List.take_succ_cons, List.take_zero, List.cons_append, List.nil_append, List.append_nil, List.drop_nil, List.take_nil, Nat.reduceAdd, Nat.reduceLeDiff, Nat.zero_add, Nat.add_zero, ↓reduceIte, Bool.not_true, Bool.not_false, decide_true, decide_false, eq_self, bne_self_eq_false, List.getElem?_cons_zero, List.getElem?_cons_succ, decide_eq_true_eq, Bool.false_eq_true, Bool.true_eq_false, reduceCtorEq, Nat.le_refl, hB, key]
  rw [loop_run]
  conv in (codeF _ _ r245L0 _) => unfold r245L0
  simp only [run0, run1, run2, run3, run4, noSlot, memN, RO.dst, lk, drop, forget, number, Nat.reduceBEq, cut?, splice?, builds, List.length_cons, List.length_nil, List.drop_succ_cons, List.drop_zero, List.take_succ_cons, List.take_zero, List.cons_append, List.nil_append, List.append_nil, List.drop_nil, List.take_nil, Nat.reduceAdd, Nat.reduceLeDiff, Nat.zero_add, Nat.add_zero, ↓reduceIte, Bool.not_true, Bool.not_false, decide_true, decide_false, eq_self, bne_self_eq_false, List.getElem?_cons_zero, List.getElem?_cons_succ, decide_eq_true_eq, Bool.false_eq_true, Bool.true_eq_false, reduceCtorEq, Nat.le_refl, hwl, hlt]
end
end Go.Proofs.Ytlfepembgjjejaa.A
/- Shards with memory of their own are marked, one by one. -/
namespace Go.Proofs.Ytlfepembgjjejaa.A
open Go
set_option linter.unusedSimpArgs false
set_option linter.unusedVariables false
def Shard.mark1 (t : Shard) (k : Int) : Shard := ⟨k, k + 1, k + 2, k + 3, ⟨Account.marks t.book.list.length (k + 4)⟩, Fin.marks t.finished.length (k + 4 + 5 * (t.book.list.length : Nat))⟩
def Shard.wt1 (t : Shard) : Int := 4 + 5 * ((t.book.list.length : Nat) : Int) + 2 * ((t.finished.length : Nat) : Int)
def Shard.marksS : List Shard → Int → List Shard
  | [], _ => []
  | t :: r, k => t.mark1 k :: Shard.marksS r (k + t.wt1)
theorem Shard.wt1_nn (t : Shard) : 0 ≤ t.wt1 := by simp only [wt1]; omega
theorem Shard.marksS_len : ∀ (xs : List Shard) (k : Int), (Shard.marksS xs k).length = xs.length
  | [], _ => rfl
  | t :: r, k => by simp only [Shard.marksS, List.length_cons, Shard.marksS_len r]
theorem Shard.marksS_app : ∀ (xs ys : List Shard) (k : Int), Shard.marksS (xs ++ ys) k = Shard.marksS xs k ++ Shard.marksS ys (k + sumI Shard.wt1 xs)
  | [], ys, k => by simp [Shard.marksS, sumI]
  | t :: r, ys, k => by
    simp only [List.cons_append, Shard.marksS, Shard.marksS_app r ys, sumI, Int.add_assoc]
theorem Shard.mark_step {xs : List Shard} {i : Nat} (hi : i < xs.length) (k : Int) :
    (Shard.marksS (xs.take i) k ++ xs.drop i).set i (xs[i].mark1 (k + sumI Shard.wt1 (xs.take i))) = Shard.marksS (xs.take (i + 1)) k ++ xs.drop (i + 1) := by
  have hl : (Shard.marksS (xs.take i) k).length = i := by rw [Shard.marksS_len, List.length_take]; omega
  rw [List.set_append_right _ _ (by omega), hl, Nat.sub_self, List.drop_eq_getElem_cons hi, List.set_cons_zero, List.take_add_one, List.getElem?_eq_getElem hi, Shard.marksS_app]
  simp [Shard.marksS]
theorem Shard.mark_at {xs : List Shard} {i : Nat} (hi : i < xs.length) (k : Int) (h : i < (Shard.marksS (xs.take i) k ++ xs.drop i).length) : (Shard.marksS (xs.take i) k ++ xs.drop i)[i] = xs[i] := by
  have hl : (Shard.marksS (xs.take i) k).length = i := by rw [Shard.marksS_len, List.length_take]; omega
  rw [List.getElem_append_right (by omega)]
  simp [hl]
section
variable {F : Nat → Option RF} {Z : CallF} {h : Heap} {x : Cell} {xs : List Shard} {fp : List Nat}
set_option maxHeartbeats 2000000 in
theorem markShardS_turn (hLShard : Has F tLShard) (hLAccount : Has F tLAccount) (hLFin : Has F tLFin) {ys : List Shard} {g : Heap} (w : SlR 16 Shard.RI g x ys fp) (nd : fp.Nodup) (hlo : ∀ id, id ∈ fp → g.floor ≤ id) {i : Nat} (hi : i < ys.length) (k : Int) (h1 : 0 ≤ k) (h2 : k + ys[i].wt1 ≤ 9200000000000000000) :
    ∃ g', loop F Z [0, 1, 5] r230L0 ⟨[(0, .c x), (1, .c (.int .i64 k)), (5, .c (.int .i64 (i : Nat)))], [], [], g⟩ = loop F Z [0, 1, 5] r230L0 ⟨[(0, .c x), (1, .c (.int .i64 (k + ys[i].wt1))), (5, .c (.int .i64 ((i + 1 : Nat) : Int)))], [], [], g'⟩ ∧
      Mk g g' fp ∧ SlR 16 Shard.RI g' x (ys.set i (ys[i].mark1 k)) fp := by
  have hle := w.le2
  have hlt : (i : Int) < ys.length := by omega
  have hws := wrapS i (by omega)
  have hwl := w.len
  have hxi := w.idx hi
  obtain ⟨r, f, rows, hR, hin, nf, hs, hns, hsl, hg, hr, hir, fin⟩ := w.turn Shard.okI nd hi
  have hput := storeP_put (h := g) (hlo _ hs) hir
  have he := put_row hg hr
  simp only [Shard.wt1] at h2 ⊢
  clear w
  generalize ys[i] = a at *
  obtain ⟨x1, p1, x2, p2, rfl, rfl, w1, w2⟩ := hR
  obtain ⟨nd1, nd2, nd3⟩ := List.nodup_append.1 nf
  generalize hg4 : g.put x.sid (rows.set i [.int .u64 k, .int .u64 (k + 1), .int .i64 (k + 2), .int .i64 (k + 3), x1, x2]) = g4
  have m4 : Mk g g4 [x.sid] := by rw [← hg4]; exact Mk.put _ _ _
  have l4 : ∀ j n, loadP g4 x.sid i j n = cut? [.int .u64 k, .int .u64 (k + 1), .int .i64 (k + 2), .int .i64 (k + 3), x1, x2] j n := by rw [← hg4]; exact loadP_put hir _
  have s1 : ∀ id, id ∈ p1 → id ∉ [x.sid] := fun id hid hc => hns (by rw [List.mem_singleton] at hc; rw [← hc]; simp [hid])
  have s2 : ∀ id, id ∈ p2 → id ∉ [x.sid] := fun id hid hc => hns (by rw [List.mem_singleton] at hc; rw [← hc]; simp [hid])
  have w1' := w1.mk (Fl.ok _) m4 s1
  have w2' := w2.mk (Fl.ok _) m4 s2
  obtain ⟨g5, e5, m5, u1⟩ := markAccountS_run (Z := Z) hLAccount w1' (fun id hid => by rw [m4.fl]; exact hlo id (hin id (by simp [hid]))) (k + 4) (by omega) (by omega)
  have w2'' := w2'.mk (Fl.ok _) m5 (fun id h1 h2 => nd3 id h2 id h1 rfl)
  have get5 : g5.get x.sid = g4.get x.sid := m5.get _ fun hc => hns (by simp [hc])
  have l5 : ∀ j n, loadP g5 x.sid i j n = cut? [.int .u64 k, .int .u64 (k + 1), .int .i64 (k + 2), .int .i64 (k + 3), x1, x2] j n := fun j n => by rw [← l4]; simp only [loadP, rowOf, get5]
  obtain ⟨g6, e6, m6, u2⟩ := markFinS_run (Z := Z) hLFin w2'' (fun id hid => by rw [m5.fl, m4.fl]; exact hlo id (hin id (by simp [hid]))) (k + 4 + 5 * (a.book.list.length : Nat)) (by omega) (by omega)
  have u1' := u1.mk (Fl.ok _) m6 (fun id h1 h2 => nd3 id h1 id h2 rfl)
  have get6 : g6.get x.sid = g4.get x.sid := (m6.get _ fun hc => hns (by simp [hc])).trans get5
  refine ⟨g6, ?_, ⟨by rw [m6.next, m5.next, m4.next], by rw [m6.fl, m5.fl, m4.fl], fun id hid => ?_⟩, ?_⟩
  · rw [loop_run]
    conv in (codeF _ _ r230L0 _) => unfold r230L0
    rw [← he]
    have hw1 := wrapI1 k (by omega) (by omega)
    have hw2 : IntKind.i64.wrap (k + 1 + 1) = k + 2 := by rw [wrapI _ (by omega) (by omega)]; omega
    have hw3 : IntKind.i64.wrap (k + 2 + 1) = k + 3 := by rw [wrapI _ (by omega) (by omega)]; omega
    have hw4 : IntKind.i64.wrap (k + 3 + 1) = k + 4 := by rw [wrapI _ (by omega) (by omega)]; omega
    have hu1 := wrapU1 k (by omega) (by omega)
    have hu2 := wrapU1 (k + 1) (by omega) (by omega)
    simp only [run0, run1, run2, run3, run4, noSlot, memN, RO.dst, lk, drop, forget, number, Nat.reduceBEq, cut?, splice?, builds, List.length_cons, List.length_nil, List.drop_succ_cons, List.drop_zero, List.take_succ_cons, List.take_zero, List.cons_append, List.nil_append, List.append_nil, List.drop_nil, List.take_nil, Nat.reduceAdd, Nat.reduceLeDiff, Nat.zero_add, Nat.add_zero, ↓reduceIte, Bool.not_true, Bool.not_false, decide_true, decide_false, eq_self, bne_self_eq_false, List.getElem?_cons_zero, List.getElem?_cons_succ, decide_eq_true_eq, Bool.false_eq_true, Bool.true_eq_false, reduceCtorEq, Nat.le_refl, hwl, hlt, hxi, hput, putM_s, hw1, hw2, hw3, hw4, hu1, hu2, hg4, l4, e5, l5, e6, hws]
    rw [show k + (4 + 5 * ((a.book.list.length : Nat) : Int) + 2 * ((a.finished.length : Nat) : Int)) = k + 4 + 5 * (a.book.list.length : Nat) + 2 * (a.finished.length : Nat) from by omega]
  · rw [m6.get id (fun hc => hid (hin id (by simp [hc]))), m5.get id (fun hc => hid (hin id (by simp [hc]))), m4.get id (fun hc => hid (by rw [List.mem_singleton] at hc; rw [hc]; exact hs))]
  · refine fin g6 [.int .u64 k, .int .u64 (k + 1), .int .i64 (k + 2), .int .i64 (k + 3), x1, x2] _ (by rw [m6.next, m5.next, m4.next]; exact Nat.le_refl _) (fun id hid h3 h4 => ?_) (by rw [get6, ← hg4]; simp [Heap.put]) ⟨x1, p1, x2, p2, rfl, rfl, u1', u2⟩
    rw [m6.get id (fun hc => h4 (by simp [hc])), m5.get id (fun hc => h4 (by simp [hc])), m4.get id (by simpa using h3)]
theorem markShardS_r (hLShard : Has F tLShard) (hLAccount : Has F tLAccount) (hLFin : Has F tLFin) (w : SlR 16 Shard.RI h x xs fp) (nd : fp.Nodup) (hlo : ∀ id, id ∈ fp → h.floor ≤ id) (k : Int) (h1 : 0 ≤ k) (h2 : k + sumI Shard.wt1 xs ≤ 9200000000000000000) :
    ∃ h', call F Z 230 [.c x, .c (.int .i64 k)] h = some (.c (.int .i64 (k + sumI Shard.wt1 xs)), h') ∧ Mk h h' fp ∧ SlR 16 Shard.RI h' x (Shard.marksS xs k) fp := by
  have hle := w.le2
  have hnn : ∀ i, 0 ≤ sumI Shard.wt1 (xs.take i) := fun i => by
    have : ∀ ys : List Shard, 0 ≤ sumI Shard.wt1 ys := fun ys => by
      induction ys with
      | nil => simp [sumI]
      | cons a r ih => have := a.wt1_nn; simp only [sumI]; omega
    exact this _
  have hpre : ∀ i, sumI Shard.wt1 (xs.take i) ≤ sumI Shard.wt1 xs := fun i => by
    have e := sumI_app Shard.wt1 (xs.take i) (xs.drop i)
    rw [List.take_append_drop] at e
    have : ∀ ys : List Shard, 0 ≤ sumI Shard.wt1 ys := fun ys => by
      induction ys with
      | nil => simp [sumI]
      | cons a r ih => have := a.wt1_nn; simp only [sumI]; omega
    have := this (xs.drop i)
    omega
  rw [call_run F Z (hLShard.lk (g := 230) rfl) _ _ rfl]
  simp only [run0, run1, run2, run3, run4, noSlot, memN, RO.dst, lk, drop, forget, number, Nat.reduceBEq, cut?, splice?, builds, List.length_cons, List.length_nil, List.drop_succ_cons, List.drop_zero, List.take_succ_cons, List.take_zero, List.cons_append, List.nil_append, List.append_nil, List.drop_nil, List.take_nil, Nat.reduceAdd, Nat.reduceLeDiff, Nat.zero_add, Nat.add_zero, ↓reduceIte, Bool.not_true, Bool.not_false, decide_true, decide_false, eq_self, bne_self_eq_false, List.getElem?_cons_zero, List.getElem?_cons_succ, decide_eq_true_eq, Bool.false_eq_true, Bool.true_eq_false, reduceCtorEq, Nat.le_refl]
  obtain ⟨s', ⟨g, hs, m, u⟩, l1⟩ := loop_goes (F := F) (Z := Z) (live := [0, 1, 5]) (b := r230L0) xs.length (fun i s => ∃ g, s = ⟨[(0, .c x), (1, .c (.int .i64 (k + sumI Shard.wt1 (xs.take i)))), (5, .c (.int .i64 (i : Nat)))], [], [], g⟩ ∧ Mk h g fp ∧ SlR 16 Shard.RI g x (Shard.marksS (xs.take i) k ++ xs.drop i) fp) (fun i s hi ⟨g, hs, m, u⟩ => by
    subst hs
    have hi' : i < (Shard.marksS (xs.take i) k ++ xs.drop i).length := by rw [List.length_append, Shard.marksS_len, List.length_take, List.length_drop]; omega
    have e := Shard.mark_at hi k hi'
    have hst := sumI_take Shard.wt1 xs hi
    have hp := hpre (i + 1)
    have h0 := hnn i
    obtain ⟨g', e1, m1, u1⟩ := markShardS_turn (Z := Z) hLShard hLAccount hLFin u nd (fun id hid => by rw [m.fl]; exact hlo id hid) hi' (k + sumI Shard.wt1 (xs.take i)) (by omega) (by rw [e]; omega)
    rw [e, Shard.mark_step hi] at u1
    rw [e] at e1
    refine ⟨_, ⟨g', rfl, ⟨m1.next.trans m.next, m1.fl.trans m.fl, fun id hid => (m1.get id hid).trans (m.get id hid)⟩, u1⟩, ?_⟩
    rw [e1, hst, Int.add_assoc]) (s := ⟨[(0, .c x), (1, .c (.int .i64 k)), (5, .c (.int .i64 (0 : Nat)))], [], [], h⟩) ⟨h, by simp [sumI], Mk.refl _ _, by simpa [Shard.marksS] using w⟩
  subst hs
  simp only [show ((0 : Nat) : Int) = 0 from rfl, List.take_length] at l1
  simp only [List.take_length, List.drop_length, List.append_nil] at u
  rw [l1, loop_run]
  conv in (codeF _ _ r230L0 _) => unfold r230L0
  have hlt : ¬ (xs.length : Int) < xs.length := by omega
  have hl := u.len
  rw [Shard.marksS_len] at hl
  simp only [run0, run1, run2, run3, run4, noSlot, memN, RO.dst, lk, drop, forget, number, Nat.reduceBEq, cut?, splice?, builds, List.length_cons, List.length_nil, List.drop_succ_cons, List.drop_zero, List.take_succ_cons, List.take_zero, List.cons_append, List.nil_append, List.append_nil, List.drop_nil, List.take_nil, Nat.reduceAdd, Nat.reduceLeDiff, Nat.zero_add, Nat.add_zero, ↓reduceIte, Bool.not_true, Bool.not_false, decide_true, decide_false, eq_self, bne_self_eq_false, List.getElem?_cons_zero, List.getElem?_cons_succ, decide_eq_true_eq, Bool.false_eq_true, Bool.true_eq_false, reduceCtorEq, Nat.le_refl, hl, hlt]
  exact ⟨g, rfl, m, u⟩
end
namespace Store
def wt (s : Store) : Int := sumI Shard.wt1 s.shards
def marked (s : Store) (k : Int) : Store := { s with shards := Shard.marksS s.shards k }
end Store
theorem Store.wt_nn (s : Store) : 0 ≤ s.wt := by
  have : ∀ ys : List Shard, 0 ≤ sumI Shard.wt1 ys := fun ys => by
    induction ys with
    | nil => simp [sumI]
    | cons a r ih => have := a.wt1_nn; simp only [sumI]; omega
  exact this _
theorem Store.wt_le {s : Store} (sm : s.Small) : s.wt ≤ 8000000000000 := by
  obtain ⟨h1, h2⟩ := sm
  have h3 := sumI_le Shard.wt1 (m := 7340036) s.shards fun a ha => by
    obtain ⟨b1, b2⟩ := h2 a ha
    have b1' : a.book.list.length ≤ 1048576 := b1
    have := a.wt1_nn
    refine ⟨this, ?_⟩
    simp only [Shard.wt1]; omega
  have : s.wt = sumI Shard.wt1 s.shards := rfl
  omega
section
variable {F : Nat → Option RF} {Z : CallF} {h : Heap} {cs : List Cell} {t : Store} {fp : List Nat}
theorem markStore_r (hLStore : Has F tLStore) (hLShard : Has F tLShard) (hLBook : Has F tLBook) (hLAccount : Has F tLAccount) (hLFin : Has F tLFin) (v : Store.RI h cs t fp) (nd : fp.Nodup) (hlo : ∀ id, id ∈ fp → h.floor ≤ id) (k : Int) (h1 : 0 ≤ k) (h2 : k + t.wt ≤ 9200000000000000000) :
    ∃ h', call F Z 191 [.agg cs, .c (.int .i64 k)] h = some (.c (.int .i64 (k + t.wt)), h') ∧ Mk h h' fp ∧ Store.RI h' cs (t.marked k) fp := by
  obtain ⟨x, p, rfl, rfl, w⟩ := v
  obtain ⟨g, e, m, u⟩ := markShardS_r (Z := Z) hLShard hLAccount hLFin w nd hlo k h1 h2
  rw [call_run F Z (hLStore.lk (g := 191) rfl) _ _ rfl]
  simp only [run0, run1, run2, run3, run4, noSlot, memN, RO.dst, lk, drop, forget, number, Nat.reduceBEq, cut?, splice?, builds, List.length_cons, List.length_nil, List.drop_succ_cons, List.drop_zero, List.take_succ_cons, List.take_zero, List.cons_append, List.nil_append, List.append_nil, List.drop_nil, List.take_nil, Nat.reduceAdd, Nat.reduceLeDiff, Nat.zero_add, Nat.add_zero, ↓reduceIte, Bool.not_true, Bool.not_false, decide_true, decide_false, eq_self, bne_self_eq_false, List.getElem?_cons_zero, List.getElem?_cons_succ, decide_eq_true_eq, Bool.false_eq_true, Bool.true_eq_false, reduceCtorEq, Nat.le_refl, e]
  exact ⟨g, rfl, m, ⟨x, _, rfl, rfl, u⟩⟩
end
end Go.Proofs.Ytlfepembgjjejaa.A
/- What the converters of slices of Store compute. -/
namespace Go.Proofs.Ytlfepembgjjejaa.A
open Go
set_option linter.unusedSimpArgs false
set_option linter.unusedVariables false
def Store.zeroC : List Cell := [.int .i64 0, .int .i64 0, .nil]
theorem Wf.isStoreS' {h : Heap} {n : Nat} {a : List Cell} (w : Wf h (n + 8) shStoreS a) : ∃ x xs fp, a = [x] ∧ SlR 17 Store.RL h x xs fp ∧ ∀ t, t ∈ xs → t.Ok := by
  have hx : ∃ x, a = [x] := by rcases w with w | ⟨_, _, w, _⟩ <;> exact ⟨_, w⟩
  obtain ⟨x, rfl⟩ := hx
  obtain ⟨xs, fp, v, ok⟩ := SlR.ofWf (R := Store.RL) (A := fun t => t.Ok) (fun r hr => by obtain ⟨t, fp, v, ok⟩ := Wf.isStore hr.2; exact ⟨t, fp, v, ok⟩) w
  exact ⟨x, xs, fp, rfl, v, ok⟩
section
variable {F : Nat → Option RF} {Z : CallF} {h : Heap} {x y : Cell} {xs ys : List Store} {fp fq : List Nat}
theorem szStoreS_c (hLStore : Has F tLStore) (hLShard : Has F tLShard) (hLBook : Has F tLBook) (hLAccount : Has F tLAccount) (hLFin : Has F tLFin) (w : SlR 17 Store.RL h x xs fp) (left : Int) (h1 : 0 ≤ left) (h2 : left ≤ 1048576) : ∃ r, call F Z 169 [.c x, .c (.int .i64 left)] h = some (.c (.int .i64 r), h) ∧ r ≤ left ∧ (0 ≤ r → xs.length ≤ 1048576 ∧ ∀ a, a ∈ xs → a.Small) := by
  have hle := w.le2
  rw [call_run F Z (hLStore.lk (g := 169) rfl) _ _ rfl]
  simp only [run0, run1, run2, run3, run4, noSlot, memN, RO.dst, lk, drop, forget, number, Nat.reduceBEq, cut?, splice?, builds, List.length_cons, List.length_nil, List.drop_succ_cons, List.drop_zero, List.take_succ_cons, List.take_zero, List.cons_append, List.nil_append, List.append_nil, List.drop_nil, List.take_nil, Nat.reduceAdd, Nat.reduceLeDiff, Nat.zero_add, Nat.add_zero, ↓reduceIte, Bool.not_true, Bool.not_false, decide_true, decide_false, eq_self, bne_self_eq_false, List.getElem?_cons_zero, List.getElem?_cons_succ, decide_eq_true_eq, Bool.false_eq_true, Bool.true_eq_false, reduceCtorEq, Nat.le_refl, w.len, wrapI (left - xs.length) (by omega) (by omega)]
  by_cases n0 : left - xs.length < 0
  · simp only [run0, run1, run2, run3, run4, noSlot, memN, RO.dst, lk, drop, forget, number, Nat.reduceBEq, cut?, splice?, builds, List.length_cons, List.length_nil, List.drop_succ_cons, List.drop_zero, List.take_succ_cons, List.take_zero, List.cons_append, List.nil_append, List.append_nil, List.drop_nil, List.take_nil, Nat.reduceAdd, Nat.reduceLeDiff, Nat.zero_add, Nat.add_zero, ↓reduceIte, Bool.not_true, Bool.not_false, decide_true, decide_false, eq_self, bne_self_eq_false, List.getElem?_cons_zero, List.getElem?_cons_succ, decide_eq_true_eq, Bool.false_eq_true, Bool.true_eq_false, reduceCtorEq, Nat.le_refl, n0]
    exact ⟨_, rfl, by omega, by omega⟩
  simp only [run0, run1, run2, run3, run4, noSlot, memN, RO.dst, lk, drop, forget, number, Nat.reduceBEq, cut?, splice?, builds, List.length_cons, List.length_nil, List.drop_succ_cons, List.drop_zero, List.take_succ_cons, List.take_zero, List.cons_append, List.nil_append, List.append_nil, List.drop_nil, List.take_nil, Nat.reduceAdd, Nat.reduceLeDiff, Nat.zero_add, Nat.add_zero, ↓reduceIte, Bool.not_true, Bool.not_false, decide_true, decide_false, eq_self, bne_self_eq_false, List.getElem?_cons_zero, List.getElem?_cons_succ, decide_eq_true_eq, Bool.false_eq_true, Bool.true_eq_false, reduceCtorEq, Nat.le_refl, n0]
  rcases loop_rel (F := F) (Z := Z) (live := [0, 1, 5]) (b := r169L0) xs.length (fun i s => ∃ l, s = ⟨[(0, .c x), (1, .c (.int .i64 l)), (5, .c (.int .i64 (i : Nat)))], [], [], h⟩ ∧ 0 ≤ l ∧ l ≤ left ∧ ∀ a, a ∈ xs.take i → a.Small) (fun s => lk s.env 4 = some (.c (.int .i64 (-1))) ∧ s.hp = h) (fun i s hi ⟨l, hs, q1, q2, q3⟩ => by
    subst hs
    obtain ⟨r, f, hld, hr, _⟩ := w.one hi
    obtain ⟨l1, l2, l3⟩ := Store.lenL hr
    obtain ⟨l', e, k1, k2⟩ := szStore_c (Z := Z) hLStore hLShard hLBook hLAccount hLFin hr l q1 (by omega)
    have hlt : (i : Int) < xs.length := by omega
    rw [loop_run]
    conv in (codeF _ _ r169L0 _) => unfold r169L0
    simp only [run0, run1, run2, run3, run4, noSlot, memN, RO.dst, lk, drop, forget, number, Nat.reduceBEq, cut?, splice?, builds, List.length_cons, List.length_nil, List.drop_succ_cons, List.drop_zero, List.take_succ_cons, List.take_zero, List.cons_append, List.nil_append, List.append_nil, List.drop_nil, List.take_nil, Nat.reduceAdd, Nat.reduceLeDiff, Nat.zero_add, Nat.add_zero, ↓reduceIte, Bool.not_true, Bool.not_false, decide_true, decide_false, eq_self, bne_self_eq_false, List.getElem?_cons_zero, List.getElem?_cons_succ, decide_eq_true_eq, Bool.false_eq_true, Bool.true_eq_false, reduceCtorEq, Nat.le_refl, w.len, hlt, w.idx hi, hld, l1, l2, e]
    by_cases n1 : l' < 0
    · simp only [run0, run1, run2, run3, run4, noSlot, memN, RO.dst, lk, drop, forget, number, Nat.reduceBEq, cut?, splice?, builds, List.length_cons, List.length_nil, List.drop_succ_cons, List.drop_zero, List.take_succ_cons, List.take_zero, List.cons_append, List.nil_append, List.append_nil, List.drop_nil, List.take_nil, Nat.reduceAdd, Nat.reduceLeDiff, Nat.zero_add, Nat.add_zero, ↓reduceIte, Bool.not_true, Bool.not_false, decide_true, decide_false, eq_self, bne_self_eq_false, List.getElem?_cons_zero, List.getElem?_cons_succ, decide_eq_true_eq, Bool.false_eq_true, Bool.true_eq_false, reduceCtorEq, Nat.le_refl, n1]
      exact Or.inr ⟨_, rfl, rfl, rfl⟩
    · simp only [run0, run1, run2, run3, run4, noSlot, memN, RO.dst, lk, drop, forget, number, Nat.reduceBEq, cut?, splice?, builds, List.length_cons, List.length_nil, List.drop_succ_cons, List.drop_zero, List.take_succ_cons, List.take_zero, List.cons_append, List.nil_append, List.append_nil, List.drop_nil, List.take_nil, Nat.reduceAdd, Nat.reduceLeDiff, Nat.zero_add, Nat.add_zero, ↓reduceIte, Bool.not_true, Bool.not_false, decide_true, decide_false, eq_self, bne_self_eq_false, List.getElem?_cons_zero, List.getElem?_cons_succ, decide_eq_true_eq, Bool.false_eq_true, Bool.true_eq_false, reduceCtorEq, Nat.le_refl, n1, wrapS i (by omega)]
      refine Or.inl ⟨_, ⟨l', rfl, by omega, by omega, fun a ha => ?_⟩, rfl⟩
      rw [List.take_add_one, List.getElem?_eq_getElem hi] at ha
      rcases List.mem_append.1 ha with ha | ha
      · exact q3 a ha
      · simp at ha; subst ha; exact k2 (by omega)) (s := ⟨[(0, .c x), (1, .c (.int .i64 (left - xs.length))), (5, .c (.int .i64 (0 : Nat)))], [], [], h⟩) ⟨_, rfl, by omega, by omega, fun a ha => by simp at ha⟩ with ⟨s', ⟨l, hs', q1, q2, q3⟩, l1⟩ | ⟨s', l1, q1, q2⟩
  · subst hs'
    simp only [show ((0 : Nat) : Int) = 0 from rfl] at l1
    rw [l1, loop_run]
    conv in (codeF _ _ r169L0 _) => unfold r169L0
    have hlt : ¬ (xs.length : Int) < xs.length := by omega
    simp only [run0, run1, run2, run3, run4, noSlot, memN, RO.dst, lk, drop, forget, number, Nat.reduceBEq, cut?, splice?, builds, List.length_cons, List.length_nil, List.drop_succ_cons, List.drop_zero, List.take_succ_cons, List.take_zero, List.cons_append, List.nil_append, List.append_nil, List.drop_nil, List.take_nil, Nat.reduceAdd, Nat.reduceLeDiff, Nat.zero_add, Nat.add_zero, ↓reduceIte, Bool.not_true, Bool.not_false, decide_true, decide_false, eq_self, bne_self_eq_false, List.getElem?_cons_zero, List.getElem?_cons_succ, decide_eq_true_eq, Bool.false_eq_true, Bool.true_eq_false, reduceCtorEq, Nat.le_refl, w.len, hlt]
    rw [List.take_length] at q3
    exact ⟨_, rfl, by omega, fun _ => ⟨by omega, q3⟩⟩
  · simp only [show ((0 : Nat) : Int) = 0 from rfl] at l1
    rw [l1]
    simp only [run0, run1, run2, run3, run4, noSlot, memN, RO.dst, lk, drop, forget, number, Nat.reduceBEq, cut?, splice?, builds, List.length_cons, List.length_nil, List.drop_succ_cons, List.drop_zero, List.take_succ_cons, List.take_zero, List.cons_append, List.nil_append, List.append_nil, List.drop_nil, List.take_nil, Nat.reduceAdd, Nat.reduceLeDiff, Nat.zero_add, Nat.add_zero, ↓reduceIte, Bool.not_true, Bool.not_false, decide_true, decide_false, eq_self, bne_self_eq_false, List.getElem?_cons_zero, List.getElem?_cons_succ, decide_eq_true_eq, Bool.false_eq_true, Bool.true_eq_false, reduceCtorEq, Nat.le_refl, q1, q2]
    exact ⟨_, rfl, by omega, by omega⟩
theorem toStoreS_c (hLStore : Has F tLStore) (hLShard : Has F tLShard) (hLBook : Has F tLBook) (hLAccount : Has F tLAccount) (hLFin : Has F tLFin) (hf : h.floor ≤ h.next) (w : SlR 17 Store.RL h x xs fp) (sm : xs.length ≤ 1048576 ∧ ∀ a, a ∈ xs → a.Small) : ∃ y h' fq, call F Z 170 [.c x] h = some (.c y, h') ∧ On h h' ∧ SlR 18 Store.RI h' y xs fq ∧ Fre h fq := by
  obtain ⟨hn, sm⟩ := sm
  rw [call_run F Z (hLStore.lk (g := 170) rfl) _ _ rfl]
  simp only [run0, run1, run2, run3, run4, noSlot, memN, RO.dst, lk, drop, forget, number, Nat.reduceBEq, cut?, splice?, builds, List.length_cons, List.length_nil, List.drop_succ_cons, List.drop_zero, List.take_succ_cons, List.take_zero, List.cons_append, List.nil_append, List.append_nil, List.drop_nil, List.take_nil, Nat.reduceAdd, Nat.reduceLeDiff, Nat.zero_add, Nat.add_zero, ↓reduceIte, Bool.not_true, Bool.not_false, decide_true, decide_false, eq_self, bne_self_eq_false, List.getElem?_cons_zero, List.getElem?_cons_succ, decide_eq_true_eq, Bool.false_eq_true, Bool.true_eq_false, reduceCtorEq, Nat.le_refl, w.len]
  rw [if_pos (by omega)]
  simp only [run0, run1, run2, run3, run4, noSlot, memN, RO.dst, lk, drop, forget, number, Nat.reduceBEq, cut?, splice?, builds, List.length_cons, List.length_nil, List.drop_succ_cons, List.drop_zero, List.take_succ_cons, List.take_zero, List.cons_append, List.nil_append, List.append_nil, List.drop_nil, List.take_nil, Nat.reduceAdd, Nat.reduceLeDiff, Nat.zero_add, Nat.add_zero, ↓reduceIte, Bool.not_true, Bool.not_false, decide_true, decide_false, eq_self, bne_self_eq_false, List.getElem?_cons_zero, List.getElem?_cons_succ, decide_eq_true_eq, Bool.false_eq_true, Bool.true_eq_false, reduceCtorEq, Nat.le_refl, Int.toNat_natCast]
  obtain ⟨s', ⟨g, rows, fps, hs', fl⟩, l1⟩ := loop_goes (F := F) (Z := Z) (live := [0, 3, 4]) (b := r170L0) xs.length (fun i s => ∃ g rows fps, s = ⟨[(0, .c x), (3, .c (.sl 18 h.next 0 xs.length)), (4, .c (.int .i64 (i : Nat)))], [], [], g⟩ ∧ Filled Store.RI h g h.next Store.zeroC xs i rows fps) (fun i s hi ⟨g, rows, fps, hs, fl⟩ => by
    subst hs
    have wg := w.mono Store.okL fl.on.ext
    obtain ⟨r, f, hld, hr, _⟩ := wg.one hi
    obtain ⟨l1, l2, l3⟩ := Store.lenL hr
    obtain ⟨cs', g', fq, e, o', v, fr⟩ := toStore_c (Z := Z) hLStore hLShard hLBook hLAccount hLFin (fl.on.le hf) hr (sm _ (List.getElem_mem hi))
    obtain ⟨vl, _, _⟩ := Store.lenI v
    obtain ⟨st, fl'⟩ := fl.step Store.okI hf hi vl o' v fr
    have hlt : (i : Int) < xs.length := by omega
    have h0 : (0 : Int) ≤ i := by omega
    rw [loop_run]
    conv in (codeF _ _ r170L0 _) => unfold r170L0
    simp only [run0, run1, run2, run3, run4, noSlot, memN, RO.dst, lk, drop, forget, number, Nat.reduceBEq, cut?, splice?, builds, List.length_cons, List.length_nil, List.drop_succ_cons, List.drop_zero, List.take_succ_cons, List.take_zero, List.cons_append, List.nil_append, List.append_nil, List.drop_nil, List.take_nil, Nat.reduceAdd, Nat.reduceLeDiff, Nat.zero_add, Nat.add_zero, ↓reduceIte, Bool.not_true, Bool.not_false, decide_true, decide_false, eq_self, bne_self_eq_false, List.getElem?_cons_zero, List.getElem?_cons_succ, decide_eq_true_eq, Bool.false_eq_true, Bool.true_eq_false, reduceCtorEq, Nat.le_refl, w.len, hlt, w.idx hi, hld, l1, l2, e, h0, and_self, Int.toNat_natCast, vl, st, wrapS i (by omega)]
    exact ⟨_, ⟨_, _, _, rfl, fl'⟩, rfl⟩) (s := ⟨[(0, .c x), (3, .c (.sl 18 h.next 0 xs.length)), (4, .c (.int .i64 (0 : Nat)))], [], [], h.push (List.replicate xs.length Store.zeroC)⟩) ⟨_, _, _, rfl, Filled.start h Store.zeroC xs⟩
  subst hs'
  simp only [show ((0 : Nat) : Int) = 0 from rfl, Store.zeroC] at l1
  rw [l1, loop_run]
  conv in (codeF _ _ r170L0 _) => unfold r170L0
  have hlt : ¬ (xs.length : Int) < xs.length := by omega
  simp only [run0, run1, run2, run3, run4, noSlot, memN, RO.dst, lk, drop, forget, number, Nat.reduceBEq, cut?, splice?, builds, List.length_cons, List.length_nil, List.drop_succ_cons, List.drop_zero, List.take_succ_cons, List.take_zero, List.cons_append, List.nil_append, List.append_nil, List.drop_nil, List.take_nil, Nat.reduceAdd, Nat.reduceLeDiff, Nat.zero_add, Nat.add_zero, ↓reduceIte, Bool.not_true, Bool.not_false, decide_true, decide_false, eq_self, bne_self_eq_false, List.getElem?_cons_zero, List.getElem?_cons_succ, decide_eq_true_eq, Bool.false_eq_true, Bool.true_eq_false, reduceCtorEq, Nat.le_refl, w.len, hlt]
  obtain ⟨o, v, f⟩ := fl.all hn 18
  exact ⟨_, _, _, rfl, o, v, f⟩
theorem eqStoreS_r (hLStore : Has F tLStore) (hLShard : Has F tLShard) (hLBook : Has F tLBook) (hLAccount : Has F tLAccount) (hLFin : Has F tLFin) (w : SlR 18 Store.RI h x xs fp) (v : SlR 18 Store.RI h y ys fq) : call F Z 173 [.c x, .c y] h = some (.c (.bool (decide (xs = ys))), h) := by
  have hw := w.le2
  have hv := v.le2
  rw [call_run F Z (hLStore.lk (g := 173) rfl) _ _ rfl]
  simp only [run0, run1, run2, run3, run4, noSlot, memN, RO.dst, lk, drop, forget, number, Nat.reduceBEq, cut?, splice?, builds, List.length_cons, List.length_nil, List.drop_succ_cons, List.drop_zero, List.take_succ_cons, List.take_zero, List.cons_append, List.nil_append, List.append_nil, List.drop_nil, List.take_nil, Nat.reduceAdd, Nat.reduceLeDiff, Nat.zero_add, Nat.add_zero, ↓reduceIte, Bool.not_true, Bool.not_false, decide_true, decide_false, eq_self, bne_self_eq_false, List.getElem?_cons_zero, List.getElem?_cons_succ, decide_eq_true_eq, Bool.false_eq_true, Bool.true_eq_false, reduceCtorEq, Nat.le_refl, w.len, v.len]
  rw [condC_if]
  split
  · rename_i hne
    have : xs ≠ ys := by rintro rfl; simp at hne
    simp only [run0, run1, run2, run3, run4, noSlot, memN, RO.dst, lk, drop, forget, number, Nat.reduceBEq, cut?, splice?, builds, List.length_cons, List.length_nil, List.drop_succ_cons, List.drop_zero, List.take_succ_cons, List.take_zero, List.cons_append, List.nil_append, List.append_nil, List.drop_nil, List.take_nil, Nat.reduceAdd, Nat.reduceLeDiff, Nat.zero_add, Nat.add_zero, ↓reduceIte, Bool.not_true, Bool.not_false, decide_true, decide_false, eq_self, bne_self_eq_false, List.getElem?_cons_zero, List.getElem?_cons_succ, decide_eq_true_eq, Bool.false_eq_true, Bool.true_eq_false, reduceCtorEq, Nat.le_refl, this]
  · rename_i he
    have he : xs.length = ys.length := by simp at he; omega
    simp only [run0, run1, run2, run3, run4, noSlot, memN, RO.dst, lk, drop, forget, number, Nat.reduceBEq, cut?, splice?, builds, List.length_cons, List.length_nil, List.drop_succ_cons, List.drop_zero, List.take_succ_cons, List.take_zero, List.cons_append, List.nil_append, List.append_nil, List.drop_nil, List.take_nil, Nat.reduceAdd, Nat.reduceLeDiff, Nat.zero_add, Nat.add_zero, ↓reduceIte, Bool.not_true, Bool.not_false, decide_true, decide_false, eq_self, bne_self_eq_false, List.getElem?_cons_zero, List.getElem?_cons_succ, decide_eq_true_eq, Bool.false_eq_true, Bool.true_eq_false, reduceCtorEq, Nat.le_refl]
    have key := loop_allN (F := F) (Z := Z) (live := [0, 1, 5]) (b := r173L0) xs.length (fun i => ⟨[(0, .c x), (1, .c y), (5, .c (.int .i64 (i : Nat)))], [], [], h⟩) (fun i => decide (xs[i]? = ys[i]?)) (fun s => lk s.env 4 = some (.c (.bool false)) ∧ s.hp = h) fun i hi => by
      have hi' : i < ys.length := by omega
      have hlt : (i : Int) < xs.length := by omega
      obtain ⟨r, f, hld, hr, _⟩ := w.one hi
      obtain ⟨r', f', hld', hr', _⟩ := v.one hi'
      obtain ⟨l1, l2, l3⟩ := Store.lenI hr
      obtain ⟨l1', l2', l3'⟩ := Store.lenI hr'
      have e := eqStore_r (Z := Z) (h := ⟨h.next, h.next, h.get⟩) hLStore hLShard hLBook hLAccount hLFin (Store.okI.up hr _) (Store.okI.up hr' _)
      rw [loop_run]
      conv in (codeF _ _ r173L0 _) => unfold r173L0
      simp only [run0, run1, run2, run3, run4, noSlot, memN, RO.dst, lk, drop, forget, number, Nat.reduceBEq, cut?, splice?, builds, List.length_cons, List.length_nil, List.drop_succ_cons, List.drop_zero, List.take_succ_cons, List.take_zero, List.cons_append, List.nil_append, List.append_nil, List.drop_nil, List.take_nil, Nat.reduceAdd, Nat.reduceLeDiff, Nat.zero_add, Nat.add_zero, ↓reduceIte, Bool.not_true, Bool.not_false, decide_true, decide_false, eq_self, bne_self_eq_false, List.getElem?_cons_zero, List.getElem?_cons_succ, decide_eq_true_eq, Bool.false_eq_true, Bool.true_eq_false, reduceCtorEq, Nat.le_refl, w.len, hlt, w.idx hi, v.idx hi', hld, hld', l1, l2, l1', l2', e, wrapS i (by omega)]
      rw [List.getElem?_eq_getElem hi, List.getElem?_eq_getElem hi']
      clear e hld hld' hr hr' l1 l2 l3 l1' l2' l3'
      (repeat' ((first | (rw [gF_if]; split) | (rw [condC_if]; split) | (rw [pickR_if]; split)) <;> (rename_i hh; (try simp only [Bool.not_eq_true, decide_eq_true_eq] at hh); simp only [hh, run0, run1, run2, run3, run4, noSlot, memN, RO.dst, lk, drop, forget, number, Nat.reduceBEq, cut?, splice?, builds, List.length_cons, List.length_nil, List.drop_succ_cons, List.drop_zero, List.take_succ_cons, List.take_zero, List.cons_append, List.nil_append, List.append_nil, List.drop_nil, List.take_nil, Nat.reduceAdd, Nat.reduceLeDiff, Nat.zero_add, Nat.add_zero, ↓reduceIte, Bool.not_true, Bool.not_false, decide_true, decide_false, eq_self, bne_self_eq_false, List.getElem?_cons_zero, List.getElem?_cons_succ, decide_eq_true_eq, Bool.false_eq_true, Bool.true_eq_false, reduceCtorEq, Nat.le_refl, wrapS i (by omega)])))
      · exact .inr ⟨by simp_all, _, rfl, rfl, rfl⟩
      · exact .inl ⟨by simp_all, rfl⟩
    rw [all_same he] at key
    rcases key with ⟨k1, k2⟩ | ⟨k1, s, k2, k3, k4⟩
    · simp only [show ((0 : Nat) : Int) = 0 from rfl] at k2
      rw [k2, loop_run]
      conv in (codeF _ _ r173L0 _) => unfold r173L0
      have hlt : ¬ (xs.length : Int) < xs.length := by omega
      simp only [run0, run1, run2, run3, run4, noSlot, memN, RO.dst, lk, drop, forget, number, Nat.reduceBEq, cut?, splice?, builds, List.length_cons, List.length_nil, List.drop_succ_cons, List.drop_zero, List.take_succ_cons, List.take_zero, List.cons_append, List.nil_append, List.append_nil, List.drop_nil, List.take_nil, Nat.reduceAdd, Nat.reduceLeDiff, Nat.zero_add, Nat.add_zero, ↓reduceIte, Bool.not_true, Bool.not_false, decide_true, decide_false, eq_self, bne_self_eq_false, List.getElem?_cons_zero, List.getElem?_cons_succ, decide_eq_true_eq, Bool.false_eq_true, Bool.true_eq_false, reduceCtorEq, Nat.le_refl, w.len, hlt, k1]
    · simp only [show ((0 : Nat) : Int) = 0 from rfl] at k2
      rw [k2]
      simp only [run0, run1, run2, run3, run4, noSlot, memN, RO.dst, lk, drop, forget, number, Nat.reduceBEq, cut?, splice?, builds, List.length_cons, List.length_nil, List.drop_succ_cons, List.drop_zero, List.take_succ_cons, List.take_zero, List.cons_append, List.nil_append, List.append_nil, List.drop_nil, List.take_nil, Nat.reduceAdd, Nat.reduceLeDiff, Nat.zero_add, Nat.add_zero, ↓reduceIte, Bool.not_true, Bool.not_false, decide_true, decide_false, eq_self, bne_self_eq_false, List.getElem?_cons_zero, List.getElem?_cons_succ, decide_eq_true_eq, Bool.false_eq_true, Bool.true_eq_false, reduceCtorEq, Nat.le_refl, k3, k4, k1]
end
end Go.Proofs.Ytlfepembgjjejaa.A
/- Shards and stores with memory of their own: marks that are held; stores marked, one by one. -/
namespace Go.Proofs.Ytlfepembgjjejaa.A
open Go
set_option linter.unusedSimpArgs false
set_option linter.unusedVariables false
theorem Shard.marksS_at : ∀ (xs : List Shard) (k : Int) (i : Nat) (hi : i < xs.length) (h : i < (Shard.marksS xs k).length), (Shard.marksS xs k)[i] = xs[i].mark1 (k + sumI Shard.wt1 (xs.take i))
  | [], k, i, hi, h => by simp at hi
  | t :: r, k, 0, hi, h => by simp [Shard.marksS, sumI]
  | t :: r, k, i + 1, hi, h => by
    simp only [Shard.marksS, List.getElem_cons_succ, List.take_succ_cons, sumI]
    rw [Shard.marksS_at r _ i (by simpa using hi)]
    simp [Int.add_assoc]
theorem Shard.sum_nn : ∀ xs : List Shard, 0 ≤ sumI Shard.wt1 xs
  | [] => by simp [sumI]
  | a :: r => by have := a.wt1_nn; have := Shard.sum_nn r; simp only [sumI]; omega
theorem Shard.sum_pre (xs : List Shard) (i : Nat) : sumI Shard.wt1 (xs.take i) ≤ sumI Shard.wt1 xs := by
  have e := sumI_app Shard.wt1 (xs.take i) (xs.drop i)
  rw [List.take_append_drop] at e
  have := Shard.sum_nn (xs.drop i)
  omega
section
variable {F : Nat → Option RF} {Z : CallF} {h : Heap} {x : Cell} {xs : List Shard} {fp : List Nat}
set_option maxHeartbeats 2000000 in
theorem heldShardS_r (hLShard : Has F tLShard) (hLAccount : Has F tLAccount) (hLFin : Has F tLFin) {k : Int} (w : SlR 16 Shard.RI h x (Shard.marksS xs k) fp) (h1 : 0 ≤ k) (h2 : k + sumI Shard.wt1 xs ≤ 9200000000000000000) :
    call F Z 322 [.c x, .c (.int .i64 k)] h = some (.c (.int .i64 (k + sumI Shard.wt1 xs)), h) := by
  have hle := w.le2
  have hl := w.len
  rw [Shard.marksS_len] at hl hle
  rw [call_run F Z (hLShard.lk (g := 322) rfl) _ _ rfl]
  simp only [run0, run1, run2, run3, run4, noSlot, memN, RO.dst, lk, drop, forget, number, Nat.reduceBEq, cut?, splice?, builds, List.length_cons, List.length_nil, List.drop_succ_cons, List.drop_zero, List.take_succ_cons, List.take_zero, List.cons_append, List.nil_append, List.append_nil, List.drop_nil, List.take_nil, Nat.reduceAdd, Nat.reduceLeDiff, Nat.zero_add, Nat.add_zero, ↓reduceIte, Bool.not_true, Bool.not_false, decide_true, decide_false, eq_self, bne_self_eq_false, List.getElem?_cons_zero, List.getElem?_cons_succ, decide_eq_true_eq, Bool.false_eq_true, Bool.true_eq_false, reduceCtorEq, Nat.le_refl]
  obtain ⟨s', hs, l1⟩ := loop_goes (F := F) (Z := Z) (live := [0, 1, 5]) (b := r322L0) xs.length (fun i s => s = ⟨[(0, .c x), (1, .c (.int .i64 (k + sumI Shard.wt1 (xs.take i)))), (5, .c (.int .i64 (i : Nat)))], [], [], h⟩) (fun i s hi hs => by
    subst hs
    refine ⟨_, rfl, ?_⟩
    have hi' : i < (Shard.marksS xs k).length := by rw [Shard.marksS_len]; exact hi
    have hst := sumI_take Shard.wt1 xs hi
    have hp := Shard.sum_pre xs (i + 1)
    have h0 := Shard.sum_nn (xs.take i)
    have hlt : (i : Int) < xs.length := by omega
    have hws := wrapS i (by omega)
    have hxi := w.idx hi'
    obtain ⟨r, f, l4, hR, _⟩ := w.one hi'
    rw [Shard.marksS_at xs k i hi] at hR
    rw [hst]
    generalize xs[i] = a at *
    generalize hkk : k + sumI Shard.wt1 (xs.take i) = q at *
    rw [show k + (sumI Shard.wt1 (xs.take i) + a.wt1) = q + a.wt1 from by omega]
    have hq0 : 0 ≤ q := by omega
    have hq1 : q + a.wt1 ≤ 9200000000000000000 := by omega
    simp only [Shard.wt1] at hq1 ⊢
    obtain ⟨x1, p1, x2, p2, rfl, rfl, w1, w2⟩ := hR
    have e5 := heldAccountS_run (Z := Z) hLAccount (n := a.book.list.length) (k := q + 4) w1 (by omega) (by omega)
    have e6 := heldFinS_run (Z := Z) hLFin (n := a.finished.length) (k := q + 4 + 5 * (a.book.list.length : Nat)) w2 (by omega) (by omega)
    have hw1 := wrapI1 q (by omega) (by omega)
    have hw2 : IntKind.i64.wrap (q + 1 + 1) = q + 2 := by rw [wrapI _ (by omega) (by omega)]; omega
    have hw3 : IntKind.i64.wrap (q + 2 + 1) = q + 3 := by rw [wrapI _ (by omega) (by omega)]; omega
    have hw4 : IntKind.i64.wrap (q + 3 + 1) = q + 4 := by rw [wrapI _ (by omega) (by omega)]; omega
    have hu1 := wrapU1 q (by omega) (by omega)
    have hu2 := wrapU1 (q + 1) (by omega) (by omega)
    have n0 : ¬ q + 4 + 5 * ((a.book.list.length : Nat) : Int) < 0 := by omega
    have n1 : ¬ q + 4 + 5 * ((a.book.list.length : Nat) : Int) + 2 * ((a.finished.length : Nat) : Int) < 0 := by omega
    rw [loop_run]
    conv in (codeF _ _ r322L0 _) => unfold r322L0
    simp only [Shard.mark1] at l4
    simp only [run0, run1, run2, run3, run4, noSlot, memN, RO.dst, lk, drop, forget, number, Nat.reduceBEq, cut?, splice?, builds, List.length_cons, List.length_nil, List.drop_succ_cons, List.drop_zero, List.take_succ_cons, List.take_zero, List.cons_append, List.nil_append, List.append_nil, List.drop_nil, List.take_nil, Nat.reduceAdd, Nat.reduceLeDiff, Nat.zero_add, Nat.add_zero, ↓reduceIte, Bool.not_true, Bool.not_false, decide_true, decide_false, eq_self, bne_self_eq_false, List.getElem?_cons_zero, List.getElem?_cons_succ, decide_eq_true_eq, Bool.false_eq_true, Bool.true_eq_false, reduceCtorEq, Nat.le_refl, hl, hlt, hxi, l4, hw1, hw2, hw3, hw4, hu1, hu2, e5, e6, n0, n1, hws]
    rw [show q + (4 + 5 * ((a.book.list.length : Nat) : Int) + 2 * ((a.finished.length : Nat) : Int)) = q + 4 + 5 * (a.book.list.length : Nat) + 2 * (a.finished.length : Nat) from by omega]) (s := ⟨[(0, .c x), (1, .c (.int .i64 k)), (5, .c (.int .i64 (0 : Nat)))], [], [], h⟩) (by simp [sumI])
  subst hs
  simp only [show ((0 : Nat) : Int) = 0 from rfl, List.take_length] at l1
  rw [l1, loop_run]
  conv in (codeF _ _ r322L0 _) => unfold r322L0
  have hlt : ¬ (xs.length : Int) < xs.length := by omega
  simp only [run0, run1, run2, run3, run4, noSlot, memN, RO.dst, lk, drop, forget, number, Nat.reduceBEq, cut?, splice?, builds, List.length_cons, List.length_nil, List.drop_succ_cons, List.drop_zero, List.take_succ_cons, List.take_zero, List.cons_append, List.nil_append, List.append_nil, List.drop_nil, List.take_nil, Nat.reduceAdd, Nat.reduceLeDiff, Nat.zero_add, Nat.add_zero, ↓reduceIte, Bool.not_true, Bool.not_false, decide_true, decide_false, eq_self, bne_self_eq_false, List.getElem?_cons_zero, List.getElem?_cons_succ, decide_eq_true_eq, Bool.false_eq_true, Bool.true_eq_false, reduceCtorEq, Nat.le_refl, hl, hlt]
end
section
variable {F : Nat → Option RF} {Z : CallF} {h : Heap} {cs : List Cell} {t : Store} {fp : List Nat}
theorem heldStore_r (hLStore : Has F tLStore) (hLShard : Has F tLShard) (hLBook : Has F tLBook) (hLAccount : Has F tLAccount) (hLFin : Has F tLFin) {k : Int} (v : Store.RI h cs (t.marked k) fp) (h1 : 0 ≤ k) (h2 : k + t.wt ≤ 9200000000000000000) :
    call F Z 292 [.agg cs, .c (.int .i64 k)] h = some (.c (.int .i64 (k + t.wt)), h) := by
  obtain ⟨x, p, rfl, rfl, w⟩ := v
  have e := heldShardS_r (Z := Z) hLShard hLAccount hLFin (xs := t.shards) w h1 h2
  have hn := t.wt_nn
  rw [call_run F Z (hLStore.lk (g := 292) rfl) _ _ rfl]
  have he : sumI Shard.wt1 t.shards = t.wt := rfl
  rw [he] at e
  have hk : ¬ k + t.wt < 0 := by omega
  simp only [run0, run1, run2, run3, run4, noSlot, memN, RO.dst, lk, drop, forget, number, Nat.reduceBEq, cut?, splice?, builds, List.length_cons, List.length_nil, List.drop_succ_cons, List.drop_zero, List.take_succ_cons, List.take_zero, List.cons_append, List.nil_append, List.append_nil, List.drop_nil, List.take_nil, Nat.reduceAdd, Nat.reduceLeDiff, Nat.zero_add, Nat.add_zero, ↓reduceIte, Bool.not_true, Bool.not_false, decide_true, decide_false, eq_self, bne_self_eq_false, List.getElem?_cons_zero, List.getElem?_cons_succ, decide_eq_true_eq, Bool.false_eq_true, Bool.true_eq_false, reduceCtorEq, Nat.le_refl, e, hk]
end
def Store.mark1 (t : Store) (k : Int) : Store := ⟨k, k + 1, Shard.marksS t.shards (k + 2)⟩
def Store.wt1 (t : Store) : Int := 2 + sumI Shard.wt1 t.shards
def Store.wtS (xs : List Store) : Int := sumI Store.wt1 xs
def Store.marksS : List Store → Int → List Store
  | [], _ => []
  | t :: r, k => t.mark1 k :: Store.marksS r (k + t.wt1)
theorem Store.wt1_nn (t : Store) : 0 ≤ t.wt1 := by have := Shard.sum_nn t.shards; simp only [wt1]; omega
theorem Store.sum_nn : ∀ xs : List Store, 0 ≤ sumI Store.wt1 xs
  | [] => by simp [sumI]
  | a :: r => by have := a.wt1_nn; have := Store.sum_nn r; simp only [sumI]; omega
theorem Store.wtS_nn (xs : List Store) : 0 ≤ Store.wtS xs := Store.sum_nn xs
theorem Store.sum_pre (xs : List Store) (i : Nat) : sumI Store.wt1 (xs.take i) ≤ sumI Store.wt1 xs := by
  have e := sumI_app Store.wt1 (xs.take i) (xs.drop i)
  rw [List.take_append_drop] at e
  have := Store.sum_nn (xs.drop i)
  omega
theorem Store.marksS_len : ∀ (xs : List Store) (k : Int), (Store.marksS xs k).length = xs.length
  | [], _ => rfl
  | t :: r, k => by simp only [Store.marksS, List.length_cons, Store.marksS_len r]
theorem Store.marksS_app : ∀ (xs ys : List Store) (k : Int), Store.marksS (xs ++ ys) k = Store.marksS xs k ++ Store.marksS ys (k + sumI Store.wt1 xs)
  | [], ys, k => by simp [Store.marksS, sumI]
  | t :: r, ys, k => by
    simp only [List.cons_append, Store.marksS, Store.marksS_app r ys, sumI, Int.add_assoc]
theorem Store.mark_step {xs : List Store} {i : Nat} (hi : i < xs.length) (k : Int) :
    (Store.marksS (xs.take i) k ++ xs.drop i).set i (xs[i].mark1 (k + sumI Store.wt1 (xs.take i))) = Store.marksS (xs.take (i + 1)) k ++ xs.drop (i + 1) := by
  have hl : (Store.marksS (xs.take i) k).length = i := by rw [Store.marksS_len, List.length_take]; omega
  rw [List.set_append_right _ _ (by omega), hl, Nat.sub_self, List.drop_eq_getElem_cons hi, List.set_cons_zero, List.take_add_one, List.getElem?_eq_getElem hi, Store.marksS_app]
  simp [Store.marksS]
theorem Store.mark_at {xs : List Store} {i : Nat} (hi : i < xs.length) (k : Int) (h : i < (Store.marksS (xs.take i) k ++ xs.drop i).length) : (Store.marksS (xs.take i) k ++ xs.drop i)[i] = xs[i] := by
  have hl : (Store.marksS (xs.take i) k).length = i := by rw [Store.marksS_len, List.length_take]; omega
  rw [List.getElem_append_right (by omega)]
  simp [hl]
section
variable {F : Nat → Option RF} {Z : CallF} {h : Heap} {x : Cell} {xs : List Store} {fp : List Nat}
set_option maxHeartbeats 2000000 in
theorem markStoreS_turn (hLStore : Has F tLStore) (hLShard : Has F tLShard) (hLAccount : Has F tLAccount) (hLFin : Has F tLFin) {ys : List Store} {g : Heap} (w : SlR 18 Store.RI g x ys fp) (nd : fp.Nodup) (hlo : ∀ id, id ∈ fp → g.floor ≤ id) {i : Nat} (hi : i < ys.length) (k : Int) (h1 : 0 ≤ k) (h2 : k + ys[i].wt1 ≤ 9200000000000000000) :
    ∃ g', loop F Z [0, 1, 5] r286L0 ⟨[(0, .c x), (1, .c (.int .i64 k)), (5, .c (.int .i64 (i : Nat)))], [], [], g⟩ = loop F Z [0, 1, 5] r286L0 ⟨[(0, .c x), (1, .c (.int .i64 (k + ys[i].wt1))), (5, .c (.int .i64 ((i + 1 : Nat) : Int)))], [], [], g'⟩ ∧
      Mk g g' fp ∧ SlR 18 Store.RI g' x (ys.set i (ys[i].mark1 k)) fp := by
  have hle := w.le2
  have hlt : (i : Int) < ys.length := by omega
  have hws := wrapS i (by omega)
  have hwl := w.len
  have hxi := w.idx hi
  obtain ⟨r, f, rows, hR, hin, nf, hs, hns, hsl, hg, hr, hir, fin⟩ := w.turn Store.okI nd hi
  have hput := storeP_put (h := g) (hlo _ hs) hir
  have he := put_row hg hr
  have hnn := Shard.sum_nn ys[i].shards
  simp only [Store.wt1] at h2 ⊢
  clear w
  generalize ys[i] = a at *
  obtain ⟨x1, p1, rfl, rfl, w1⟩ := hR
  generalize hg4 : g.put x.sid (rows.set i [.int .i64 k, .int .i64 (k + 1), x1]) = g4
  have m4 : Mk g g4 [x.sid] := by rw [← hg4]; exact Mk.put _ _ _
  have l4 : ∀ j n, loadP g4 x.sid i j n = cut? [.int .i64 k, .int .i64 (k + 1), x1] j n := by rw [← hg4]; exact loadP_put hir _
  have s1 : ∀ id, id ∈ f → id ∉ [x.sid] := fun id hid hc => hns (by rw [List.mem_singleton] at hc; rw [← hc]; exact hid)
  have w1' := w1.mk Shard.okI m4 s1
  obtain ⟨g5, e5, m5, u1⟩ := markShardS_r (Z := Z) hLShard hLAccount hLFin w1' nf (fun id hid => by rw [m4.fl]; exact hlo id (hin id hid)) (k + 2) (by omega) (by omega)
  have get5 : g5.get x.sid = g4.get x.sid := m5.get _ fun hc => hns hc
  refine ⟨g5, ?_, ⟨by rw [m5.next, m4.next], by rw [m5.fl, m4.fl], fun id hid => ?_⟩, ?_⟩
  · rw [loop_run]
    conv in (codeF _ _ r286L0 _) => unfold r286L0
    rw [← he]
    have hw1 := wrapI1 k (by omega) (by omega)
    have hw2 : IntKind.i64.wrap (k + 1 + 1) = k + 2 := by rw [wrapI _ (by omega) (by omega)]; omega
    simp only [run0, run1, run2, run3, run4, noSlot, memN, RO.dst, lk, drop, forget, number, Nat.reduceBEq, cut?, splice?, builds, List.length_cons, List.length_nil, List.drop_succ_cons, List.drop_zero, List.take_succ_cons, List.take_zero, List.cons_append, List.nil_append, List.append_nil, List.drop_nil, List.take_nil, Nat.reduceAdd, Nat.reduceLeDiff, Nat.zero_add, Nat.add_zero, ↓reduceIte, Bool.not_true, Bool.not_false, decide_true, decide_false, eq_self, bne_self_eq_false, List.getElem?_cons_zero, List.getElem?_cons_succ, decide_eq_true_eq, Bool.false_eq_true, Bool.true_eq_false, reduceCtorEq, Nat.le_refl, hwl, hlt, hxi, hput, putM_s, hw1, hw2, hg4, l4, e5, hws]
    rw [show k + (2 + sumI Shard.wt1 a.shards) = k + 2 + sumI Shard.wt1 a.shards from by omega]
  · rw [m5.get id (fun hc => hid (hin id hc)), m4.get id (fun hc => hid (by rw [List.mem_singleton] at hc; rw [hc]; exact hs))]
  · refine fin g5 [.int .i64 k, .int .i64 (k + 1), x1] _ (by rw [m5.next, m4.next]; exact Nat.le_refl _) (fun id hid h3 h4 => ?_) (by rw [get5, ← hg4]; simp [Heap.put]) ⟨x1, f, rfl, rfl, u1⟩
    rw [m5.get id (fun hc => h4 hc), m4.get id (by simpa using h3)]
theorem markStoreS_r (hLStore : Has F tLStore) (hLShard : Has F tLShard) (hLBook : Has F tLBook) (hLAccount : Has F tLAccount) (hLFin : Has F tLFin) (w : SlR 18 Store.RI h x xs fp) (nd : fp.Nodup) (hlo : ∀ id, id ∈ fp → h.floor ≤ id) (k : Int) (h1 : 0 ≤ k) (h2 : k + Store.wtS xs ≤ 9200000000000000000) :
    ∃ h', call F Z 286 [.c x, .c (.int .i64 k)] h = some (.c (.int .i64 (k + Store.wtS xs)), h') ∧ Mk h h' fp ∧ SlR 18 Store.RI h' x (Store.marksS xs k) fp := by
  have hle := w.le2
  have hnn : ∀ i, 0 ≤ sumI Store.wt1 (xs.take i) := fun i => Store.sum_nn _
  have hpre : ∀ i, sumI Store.wt1 (xs.take i) ≤ sumI Store.wt1 xs := fun i => Store.sum_pre xs i
  simp only [Store.wtS] at h2 ⊢
  rw [call_run F Z (hLStore.lk (g := 286) rfl) _ _ rfl]
  simp only [run0, run1, run2, run3, run4, noSlot, memN, RO.dst, lk, drop, forget, number, Nat.reduceBEq, cut?, splice?, builds, List.length_cons, List.length_nil, List.drop_succ_cons, List.drop_zero, List.take_succ_cons, List.take_zero, List.cons_append, List.nil_append, List.append_nil, List.drop_nil, List.take_nil, Nat.reduceAdd, Nat.reduceLeDiff, Nat.zero_add, Nat.add_zero, ↓reduceIte, Bool.not_true, Bool.not_false, decide_true, decide_false, eq_self, bne_self_eq_false, List.getElem?_cons_zero, List.getElem?_cons_succ, decide_eq_true_eq, Bool.false_eq_true, Bool.true_eq_false, reduceCtorEq, Nat.le_refl]
  obtain ⟨s', ⟨g, hs, m, u⟩, l1⟩ := loop_goes (F := F) (Z := Z) (live := [0, 1, 5]) (b := r286L0) xs.length (fun i s => ∃ g, s = ⟨[(0, .c x), (1, .c (.int .i64 (k + sumI Store.wt1 (xs.take i)))), (5, .c (.int .i64 (i : Nat)))], [], [], g⟩ ∧ Mk h g fp ∧ SlR 18 Store.RI g x (Store.marksS (xs.take i) k ++ xs.drop i) fp) (fun i s hi ⟨g, hs, m, u⟩ => by
    subst hs
    have hi' : i < (Store.marksS (xs.take i) k ++ xs.drop i).length := by rw [List.length_append, Store.marksS_len, List.length_take, List.length_drop]; omega
    have e := Store.mark_at hi k hi'
    have hst := sumI_take Store.wt1 xs hi
    have hp := hpre (i + 1)
    have h0 := hnn i
    obtain ⟨g', e1, m1, u1⟩ := markStoreS_turn (Z := Z) hLStore hLShard hLAccount hLFin u nd (fun id hid => by rw [m.fl]; exact hlo id hid) hi' (k + sumI Store.wt1 (xs.take i)) (by omega) (by rw [e]; omega)
    rw [e, Store.mark_step hi] at u1
    rw [e] at e1
    refine ⟨_, ⟨g', rfl, ⟨m1.next.trans m.next, m1.fl.trans m.fl, fun id hid => (m1.get id hid).trans (m.get id hid)⟩, u1⟩, ?_⟩
    rw [e1, hst, Int.add_assoc]) (s := ⟨[(0, .c x), (1, .c (.int .i64 k)), (5, .c (.int .i64 (0 : Nat)))], [], [], h⟩) ⟨h, by simp [sumI], Mk.refl _ _, by simpa [Store.marksS] using w⟩
  subst hs
  simp only [show ((0 : Nat) : Int) = 0 from rfl, List.take_length] at l1
  simp only [List.take_length, List.drop_length, List.append_nil] at u
  rw [l1, loop_run]
  conv in (codeF _ _ r286L0 _) => unfold r286L0
  have hlt : ¬ (xs.length : Int) < xs.length := by omega
  have hl := u.len
  rw [Store.marksS_len] at hl
  simp only [run0, run1, run2, run3, run4, noSlot, memN, RO.dst, lk, drop, forget, number, Nat.reduceBEq, cut?, splice?, builds, List.length_cons, List.length_nil, List.drop_succ_cons, List.drop_zero, List.take_succ_cons, List.take_zero, List.cons_append, List.nil_append, List.append_nil, List.drop_nil, List.take_nil, Nat.reduceAdd, Nat.reduceLeDiff, Nat.zero_add, Nat.add_zero, ↓reduceIte, Bool.not_true, Bool.not_false, decide_true, decide_false, eq_self, bne_self_eq_false, List.getElem?_cons_zero, List.getElem?_cons_succ, decide_eq_true_eq, Bool.false_eq_true, Bool.true_eq_false, reduceCtorEq, Nat.le_refl, hl, hlt]
  exact ⟨g, rfl, m, u⟩
end
end Go.Proofs.Ytlfepembgjjejaa.A
