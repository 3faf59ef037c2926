/- The functions that the statement reaches, part 3: bodies and what they compute. No condition. -/
import Derived.Test.YtlbagejkjkfkjaaHCExactLiveTotal2
/- Has a store a message of a hand-over had? -/
namespace Go.Proofs.Ytlbagejkjkfkjaa.A
open Go
set_option linter.unusedSimpArgs false
set_option linter.unusedVariables false
def Shard.cells (t : Shard) (x y : Cell) : List Cell := [.int .u64 t.lo, .int .u64 t.hi, .int .i64 t.state, .int .i64 t.epoch, x, y]
/-- The shard in a state that begins with an id has an epoch. -/
def Store.atE (s : Store) (lo st epoch : Int) : Bool := decide (0 ≤ findAt s.shards lo st) && ((Shard.at_ s.shards (findAt s.shards lo st).toNat).epoch == epoch)
def handHas (s : Store) (m : HandMsg) : Bool := s.good && ((m.to == s.group) && (bif m.step == 1 then s.atE m.lo 0 m.epoch else bif m.step == 2 then decide (findId s.shards m.lo < 0) && decide (m.epoch ≤ s.seen) else bif m.step == 0 then s.atE m.lo 1 m.epoch else false))
section
variable {F : Nat → Option RF} {Z : CallF} {h : Heap} {x : Cell} {xs : List Shard} {fp fq : List Nat} {cs ms : List Cell} {s : Store} {m : HandMsg}
theorem SlR.found (w : SlR 16 Shard.RI h x xs fp) (p : Shard → Bool) : findI p xs = -1 ∨ ∃ i : Nat, findI p xs = (i : Int) ∧ i < xs.length ∧ p (Shard.at_ xs i) = true ∧ idxR 16 (some x) (some (i : Int)) = some (.ptr x.sid i 0) ∧
    ∃ y z, ∀ j n, loadP h x.sid i j n = cut? ((Shard.at_ xs i).cells y z) j n := by
  by_cases h0 : 0 ≤ findI p xs
  · obtain ⟨i, e, hi, hp⟩ := findI_at h0
    obtain ⟨r, f, hl, hR, _⟩ := w.one hi
    rw [← Shard.at_get hi] at hR hp
    obtain ⟨x1, p1, x2, p2, rfl, _⟩ := hR
    exact .inr ⟨i, e, hi, hp, w.idx hi, x1, x2, hl⟩
  · exact .inl (findI_no (by omega))
set_option maxHeartbeats 4000000 in
theorem HandHas_run (k : KI F) (hI15 : Has F tI15) (hL : Has F tLibslicesIndexFuncimplShardimplShard) (v : Store.RI h cs s fp) (u : HandMsg.RI h ms m fq) (ok : s.Ok) :
    ∃ h', call F Z 167 [.agg cs, .agg ms] h = some (.c (.bool (handHas s m)), h') ∧ On h h' := by
  obtain ⟨h1, e1, o1⟩ := isStore_run (Z := Z) k v ok
  have v1 := Store.okI.on v o1
  have e2 := shardWith_run (Z := Z) k.i13 hL v1 m.lo
  have e3 := fun st => shardAt_run (Z := Z) k.i13 hL v1 m.lo st
  have hdef : handHas s m = (s.good && ((m.to == s.group) && (bif m.step == 1 then s.atE m.lo 0 m.epoch else bif m.step == 2 then decide (findId s.shards m.lo < 0) && decide (m.epoch ≤ s.seen) else bif m.step == 0 then s.atE m.lo 1 m.epoch else false))) := rfl
  obtain ⟨y1, q1, y2, q2, rfl, rfl, _, _⟩ := u
  obtain ⟨x, p, rfl, rfl, w⟩ := v1
  have fd := fun st => (w.on Shard.okI ((On.push h1 [[.int .u64 m.lo]]).trans (On.push _ [[.int .i64 st]]))).found (fun t => (t.lo == m.lo) && (t.state == st))
  change ∀ st, findAt s.shards m.lo st = -1 ∨ ∃ i : Nat, findAt s.shards m.lo st = (i : Int) ∧ _ at fd
  clear v w
  rw [call_run F Z (hI15.lk (g := 167) rfl) _ _ rfl]
  generalize s.good = gd at *
  cases gd with
  | false =>
    simp only [run0, run1, run2, run3, run4, noSlot, memN, RO.dst, lk, drop, forget, number, Nat.reduceBEq, cut?, splice?, builds, List.length_cons, List.length_nil, List.drop_succ_cons, List.drop_zero, List.take_succ_cons, List.take_zero, List.cons_append, List.nil_append, List.append_nil, List.drop_nil, List.take_nil, Nat.reduceAdd, Nat.reduceLeDiff, Nat.zero_add, Nat.add_zero, ↓reduceIte, Bool.not_true, Bool.not_false, decide_true, decide_false, eq_self, bne_self_eq_false, List.getElem?_cons_zero, List.getElem?_cons_succ, decide_eq_true_eq, Bool.false_eq_true, Bool.true_eq_false, reduceCtorEq, Nat.le_refl, e1]
    exact ⟨_, by rw [hdef]; rfl, o1⟩
  | true =>
    by_cases ht : m.to = s.group
    · have ht' : ¬ (m.to != s.group) = true := by simp [ht]
      by_cases c1 : m.step = 1
      · simp only [run0, run1, run2, run3, run4, noSlot, memN, RO.dst, lk, drop, forget, number, Nat.reduceBEq, cut?, splice?, builds, List.length_cons, List.length_nil, List.drop_succ_cons, List.drop_zero, List.take_succ_cons, List.take_zero, List.cons_append, List.nil_append, List.append_nil, List.drop_nil, List.take_nil, Nat.reduceAdd, Nat.reduceLeDiff, Nat.zero_add, Nat.add_zero, ↓reduceIte, Bool.not_true, Bool.not_false, decide_true, decide_false, eq_self, bne_self_eq_false, List.getElem?_cons_zero, List.getElem?_cons_succ, decide_eq_true_eq, Bool.false_eq_true, Bool.true_eq_false, reduceCtorEq, Nat.le_refl, e1, ht, bne_self_eq_false, c1, e3, Int.reduceBEq, beq_self_eq_true]
        have hd : handHas s m = s.atE m.lo 0 m.epoch := by rw [hdef]; simp [ht, c1]
        rw [hd]
        rcases fd 0 with e | ⟨i, e, hi, _, hx, z1, z2, hl⟩
        · rw [e]
          have g0 : ¬ (-1 : Int) ≥ 0 := by omega
          simp only [run0, run1, run2, run3, run4, noSlot, memN, RO.dst, lk, drop, forget, number, Nat.reduceBEq, cut?, splice?, builds, List.length_cons, List.length_nil, List.drop_succ_cons, List.drop_zero, List.take_succ_cons, List.take_zero, List.cons_append, List.nil_append, List.append_nil, List.drop_nil, List.take_nil, Nat.reduceAdd, Nat.reduceLeDiff, Nat.zero_add, Nat.add_zero, ↓reduceIte, Bool.not_true, Bool.not_false, decide_true, decide_false, eq_self, bne_self_eq_false, List.getElem?_cons_zero, List.getElem?_cons_succ, decide_eq_true_eq, Bool.false_eq_true, Bool.true_eq_false, reduceCtorEq, Nat.le_refl, g0]
          refine ⟨_, ?_, o1.trans ((On.push h1 [[.int .u64 m.lo]]).trans (On.push _ [[.int .i64 0]]))⟩; simp [Store.atE, e]
        · rw [e]
          have g0 : (i : Int) ≥ 0 := by omega
          simp only [run0, run1, run2, run3, run4, noSlot, memN, RO.dst, lk, drop, forget, number, Nat.reduceBEq, cut?, splice?, builds, List.length_cons, List.length_nil, List.drop_succ_cons, List.drop_zero, List.take_succ_cons, List.take_zero, List.cons_append, List.nil_append, List.append_nil, List.drop_nil, List.take_nil, Nat.reduceAdd, Nat.reduceLeDiff, Nat.zero_add, Nat.add_zero, ↓reduceIte, Bool.not_true, Bool.not_false, decide_true, decide_false, eq_self, bne_self_eq_false, List.getElem?_cons_zero, List.getElem?_cons_succ, decide_eq_true_eq, Bool.false_eq_true, Bool.true_eq_false, reduceCtorEq, Nat.le_refl, g0, hx, hl, Shard.cells]
          refine ⟨_, ?_, o1.trans ((On.push h1 [[.int .u64 m.lo]]).trans (On.push _ [[.int .i64 0]]))⟩; simp [Store.atE, e]
      · by_cases c2 : m.step = 2
        · have hd : handHas s m = (decide (findId s.shards m.lo < 0) && decide (m.epoch ≤ s.seen)) := by rw [hdef]; simp [ht, c2]
          rw [hd]
          simp only [run0, run1, run2, run3, run4, noSlot, memN, RO.dst, lk, drop, forget, number, Nat.reduceBEq, cut?, splice?, builds, List.length_cons, List.length_nil, List.drop_succ_cons, List.drop_zero, List.take_succ_cons, List.take_zero, List.cons_append, List.nil_append, List.append_nil, List.drop_nil, List.take_nil, Nat.reduceAdd, Nat.reduceLeDiff, Nat.zero_add, Nat.add_zero, ↓reduceIte, Bool.not_true, Bool.not_false, decide_true, decide_false, eq_self, bne_self_eq_false, List.getElem?_cons_zero, List.getElem?_cons_succ, decide_eq_true_eq, Bool.false_eq_true, Bool.true_eq_false, reduceCtorEq, Nat.le_refl, e1, ht, bne_self_eq_false, c2, e2, Int.reduceBEq, beq_self_eq_true]
          (repeat' ((first | (rw [gF_if]; split) | (rw [condC_if]; split) | (rw [pickR_if]; split)) <;> (rename_i hh; (try simp only [Bool.not_eq_true, decide_eq_true_eq] at hh); simp only [hh, run0, run1, run2, run3, run4, noSlot, memN, RO.dst, lk, drop, forget, number, Nat.reduceBEq, cut?, splice?, builds, List.length_cons, List.length_nil, List.drop_succ_cons, List.drop_zero, List.take_succ_cons, List.take_zero, List.cons_append, List.nil_append, List.append_nil, List.drop_nil, List.take_nil, Nat.reduceAdd, Nat.reduceLeDiff, Nat.zero_add, Nat.add_zero, ↓reduceIte, Bool.not_true, Bool.not_false, decide_true, decide_false, eq_self, bne_self_eq_false, List.getElem?_cons_zero, List.getElem?_cons_succ, decide_eq_true_eq, Bool.false_eq_true, Bool.true_eq_false, reduceCtorEq, Nat.le_refl, e1]))) <;> (refine ⟨_, ?_, o1.trans (On.push h1 [[.int .u64 m.lo]])⟩; clear fd; simp_all)
        · by_cases c3 : m.step = 0
          · simp only [run0, run1, run2, run3, run4, noSlot, memN, RO.dst, lk, drop, forget, number, Nat.reduceBEq, cut?, splice?, builds, List.length_cons, List.length_nil, List.drop_succ_cons, List.drop_zero, List.take_succ_cons, List.take_zero, List.cons_append, List.nil_append, List.append_nil, List.drop_nil, List.take_nil, Nat.reduceAdd, Nat.reduceLeDiff, Nat.zero_add, Nat.add_zero, ↓reduceIte, Bool.not_true, Bool.not_false, decide_true, decide_false, eq_self, bne_self_eq_false, List.getElem?_cons_zero, List.getElem?_cons_succ, decide_eq_true_eq, Bool.false_eq_true, Bool.true_eq_false, reduceCtorEq, Nat.le_refl, e1, ht, bne_self_eq_false, c3, e3, Int.reduceBEq, beq_self_eq_true]
            have hd : handHas s m = s.atE m.lo 1 m.epoch := by rw [hdef]; simp [ht, c3]
            rw [hd]
            rcases fd 1 with e | ⟨i, e, hi, _, hx, z1, z2, hl⟩
            · rw [e]
              have g0 : ¬ (-1 : Int) ≥ 0 := by omega
              simp only [run0, run1, run2, run3, run4, noSlot, memN, RO.dst, lk, drop, forget, number, Nat.reduceBEq, cut?, splice?, builds, List.length_cons, List.length_nil, List.drop_succ_cons, List.drop_zero, List.take_succ_cons, List.take_zero, List.cons_append, List.nil_append, List.append_nil, List.drop_nil, List.take_nil, Nat.reduceAdd, Nat.reduceLeDiff, Nat.zero_add, Nat.add_zero, ↓reduceIte, Bool.not_true, Bool.not_false, decide_true, decide_false, eq_self, bne_self_eq_false, List.getElem?_cons_zero, List.getElem?_cons_succ, decide_eq_true_eq, Bool.false_eq_true, Bool.true_eq_false, reduceCtorEq, Nat.le_refl, g0]
              refine ⟨_, ?_, o1.trans ((On.push h1 [[.int .u64 m.lo]]).trans (On.push _ [[.int .i64 1]]))⟩; simp [Store.atE, e]
            · rw [e]
              have g0 : (i : Int) ≥ 0 := by omega
              simp only [run0, run1, run2, run3, run4, noSlot, memN, RO.dst, lk, drop, forget, number, Nat.reduceBEq, cut?, splice?, builds, List.length_cons, List.length_nil, List.drop_succ_cons, List.drop_zero, List.take_succ_cons, List.take_zero, List.cons_append, List.nil_append, List.append_nil, List.drop_nil, List.take_nil, Nat.reduceAdd, Nat.reduceLeDiff, Nat.zero_add, Nat.add_zero, ↓reduceIte, Bool.not_true, Bool.not_false, decide_true, decide_false, eq_self, bne_self_eq_false, List.getElem?_cons_zero, List.getElem?_cons_succ, decide_eq_true_eq, Bool.false_eq_true, Bool.true_eq_false, reduceCtorEq, Nat.le_refl, g0, hx, hl, Shard.cells]
              refine ⟨_, ?_, o1.trans ((On.push h1 [[.int .u64 m.lo]]).trans (On.push _ [[.int .i64 1]]))⟩; simp [Store.atE, e]
          · have hd : handHas s m = false := by rw [hdef]; simp [ht, c1, c2, c3]
            have d1 : (m.step == 1) = false := by simpa using c1
            have d2 : (m.step == 2) = false := by simpa using c2
            have d3 : (m.step == 0) = false := by simpa using c3
            rw [hd]
            simp only [run0, run1, run2, run3, run4, noSlot, memN, RO.dst, lk, drop, forget, number, Nat.reduceBEq, cut?, splice?, builds, List.length_cons, List.length_nil, List.drop_succ_cons, List.drop_zero, List.take_succ_cons, List.take_zero, List.cons_append, List.nil_append, List.append_nil, List.drop_nil, List.take_nil, Nat.reduceAdd, Nat.reduceLeDiff, Nat.zero_add, Nat.add_zero, ↓reduceIte, Bool.not_true, Bool.not_false, decide_true, decide_false, eq_self, bne_self_eq_false, List.getElem?_cons_zero, List.getElem?_cons_succ, decide_eq_true_eq, Bool.false_eq_true, Bool.true_eq_false, reduceCtorEq, Nat.le_refl, e1, ht, bne_self_eq_false, d1, d2, d3]
            exact ⟨_, rfl, o1⟩
    · have ht' : (m.to != s.group) = true := by simp [ht]
      simp only [run0, run1, run2, run3, run4, noSlot, memN, RO.dst, lk, drop, forget, number, Nat.reduceBEq, cut?, splice?, builds, List.length_cons, List.length_nil, List.drop_succ_cons, List.drop_zero, List.take_succ_cons, List.take_zero, List.cons_append, List.nil_append, List.append_nil, List.drop_nil, List.take_nil, Nat.reduceAdd, Nat.reduceLeDiff, Nat.zero_add, Nat.add_zero, ↓reduceIte, Bool.not_true, Bool.not_false, decide_true, decide_false, eq_self, bne_self_eq_false, List.getElem?_cons_zero, List.getElem?_cons_succ, decide_eq_true_eq, Bool.false_eq_true, Bool.true_eq_false, reduceCtorEq, Nat.le_refl, e1, ht']
      exact ⟨_, by rw [hdef]; simp [ht], o1⟩
set_option maxHeartbeats 4000000 in
theorem sHandHas_run (k : KS F) (hS15 : Has F tS15) (v : Store.RI h cs s fp) (u : HandMsg.RI h ms m fq) (ok : s.Ok) :
    call F Z 166 [.agg cs, .agg ms] h = some (.c (.bool (handHas s m)), h) := by
  have e1 := sStoreOk_run (Z := Z) k v ok
  have e2 := l13Find_run (Z := Z) k.s13 v m.lo
  have e3 := fun st => l13At_run (Z := Z) k.s13 (Store.okI.up v h.next) m.lo st
  have hdef : handHas s m = (s.good && ((m.to == s.group) && (bif m.step == 1 then s.atE m.lo 0 m.epoch else bif m.step == 2 then decide (findId s.shards m.lo < 0) && decide (m.epoch ≤ s.seen) else bif m.step == 0 then s.atE m.lo 1 m.epoch else false))) := rfl
  obtain ⟨y1, q1, y2, q2, rfl, rfl, _, _⟩ := u
  obtain ⟨x, p, rfl, rfl, w⟩ := v
  have fd := fun st => w.found (fun t => (t.lo == m.lo) && (t.state == st))
  change ∀ st, findAt s.shards m.lo st = -1 ∨ ∃ i : Nat, findAt s.shards m.lo st = (i : Int) ∧ _ at fd
  clear w
  rw [call_run F Z (hS15.lk (g := 166) rfl) _ _ rfl]
  generalize s.good = gd at *
  cases gd with
  | false =>
    simp only [run0, run1, run2, run3, run4, noSlot, memN, RO.dst, lk, drop, forget, number, Nat.reduceBEq, cut?, splice?, builds, List.length_cons, List.length_nil, List.drop_succ_cons, List.drop_zero, List.take_succ_cons, List.take_zero, List.cons_append, List.nil_append, List.append_nil, List.drop_nil, List.take_nil, Nat.reduceAdd, Nat.reduceLeDiff, Nat.zero_add, Nat.add_zero, ↓reduceIte, Bool.not_true, Bool.not_false, decide_true, decide_false, eq_self, bne_self_eq_false, List.getElem?_cons_zero, List.getElem?_cons_succ, decide_eq_true_eq, Bool.false_eq_true, Bool.true_eq_false, reduceCtorEq, Nat.le_refl, e1]
    rw [hdef]; rfl
  | true =>
    by_cases ht : m.to = s.group
    · by_cases c1 : m.step = 1
      · simp only [run0, run1, run2, run3, run4, noSlot, memN, RO.dst, lk, drop, forget, number, Nat.reduceBEq, cut?, splice?, builds, List.length_cons, List.length_nil, List.drop_succ_cons, List.drop_zero, List.take_succ_cons, List.take_zero, List.cons_append, List.nil_append, List.append_nil, List.drop_nil, List.take_nil, Nat.reduceAdd, Nat.reduceLeDiff, Nat.zero_add, Nat.add_zero, ↓reduceIte, Bool.not_true, Bool.not_false, decide_true, decide_false, eq_self, bne_self_eq_false, List.getElem?_cons_zero, List.getElem?_cons_succ, decide_eq_true_eq, Bool.false_eq_true, Bool.true_eq_false, reduceCtorEq, Nat.le_refl, e1, ht, bne_self_eq_false, c1, e3, Int.reduceBEq, beq_self_eq_true]
        have hd : handHas s m = s.atE m.lo 0 m.epoch := by rw [hdef]; simp [ht, c1]
        rw [hd]
        rcases fd 0 with e | ⟨i, e, hi, _, hx, z1, z2, hl⟩
        · rw [e]
          have g0 : ¬ (-1 : Int) ≥ 0 := by omega
          simp only [run0, run1, run2, run3, run4, noSlot, memN, RO.dst, lk, drop, forget, number, Nat.reduceBEq, cut?, splice?, builds, List.length_cons, List.length_nil, List.drop_succ_cons, List.drop_zero, List.take_succ_cons, List.take_zero, List.cons_append, List.nil_append, List.append_nil, List.drop_nil, List.take_nil, Nat.reduceAdd, Nat.reduceLeDiff, Nat.zero_add, Nat.add_zero, ↓reduceIte, Bool.not_true, Bool.not_false, decide_true, decide_false, eq_self, bne_self_eq_false, List.getElem?_cons_zero, List.getElem?_cons_succ, decide_eq_true_eq, Bool.false_eq_true, Bool.true_eq_false, reduceCtorEq, Nat.le_refl, g0]
          simp [Store.atE, e]
        · rw [e]
          have g0 : (i : Int) ≥ 0 := by omega
          simp only [run0, run1, run2, run3, run4, noSlot, memN, RO.dst, lk, drop, forget, number, Nat.reduceBEq, cut?, splice?, builds, List.length_cons, List.length_nil, List.drop_succ_cons, List.drop_zero, List.take_succ_cons, List.take_zero, List.cons_append, List.nil_append, List.append_nil, List.drop_nil, List.take_nil, Nat.reduceAdd, Nat.reduceLeDiff, Nat.zero_add, Nat.add_zero, ↓reduceIte, Bool.not_true, Bool.not_false, decide_true, decide_false, eq_self, bne_self_eq_false, List.getElem?_cons_zero, List.getElem?_cons_succ, decide_eq_true_eq, Bool.false_eq_true, Bool.true_eq_false, reduceCtorEq, Nat.le_refl, g0, hx, hl, Shard.cells]
          simp [Store.atE, e]
      · by_cases c2 : m.step = 2
        · have hd : handHas s m = (decide (findId s.shards m.lo < 0) && decide (m.epoch ≤ s.seen)) := by rw [hdef]; simp [ht, c2]
          rw [hd]
          simp only [run0, run1, run2, run3, run4, noSlot, memN, RO.dst, lk, drop, forget, number, Nat.reduceBEq, cut?, splice?, builds, List.length_cons, List.length_nil, List.drop_succ_cons, List.drop_zero, List.take_succ_cons, List.take_zero, List.cons_append, List.nil_append, List.append_nil, List.drop_nil, List.take_nil, Nat.reduceAdd, Nat.reduceLeDiff, Nat.zero_add, Nat.add_zero, ↓reduceIte, Bool.not_true, Bool.not_false, decide_true, decide_false, eq_self, bne_self_eq_false, List.getElem?_cons_zero, List.getElem?_cons_succ, decide_eq_true_eq, Bool.false_eq_true, Bool.true_eq_false, reduceCtorEq, Nat.le_refl, e1, ht, bne_self_eq_false, c2, e2, e3, Int.reduceBEq, beq_self_eq_true]
          (repeat' ((first | (rw [gF_if]; split) | (rw [condC_if]; split) | (rw [pickR_if]; split)) <;> (rename_i hh; (try simp only [Bool.not_eq_true, decide_eq_true_eq] at hh); simp only [hh, run0, run1, run2, run3, run4, noSlot, memN, RO.dst, lk, drop, forget, number, Nat.reduceBEq, cut?, splice?, builds, List.length_cons, List.length_nil, List.drop_succ_cons, List.drop_zero, List.take_succ_cons, List.take_zero, List.cons_append, List.nil_append, List.append_nil, List.drop_nil, List.take_nil, Nat.reduceAdd, Nat.reduceLeDiff, Nat.zero_add, Nat.add_zero, ↓reduceIte, Bool.not_true, Bool.not_false, decide_true, decide_false, eq_self, bne_self_eq_false, List.getElem?_cons_zero, List.getElem?_cons_succ, decide_eq_true_eq, Bool.false_eq_true, Bool.true_eq_false, reduceCtorEq, Nat.le_refl, e1]))) <;> (clear fd; simp_all)
        · by_cases c3 : m.step = 0
          · simp only [run0, run1, run2, run3, run4, noSlot, memN, RO.dst, lk, drop, forget, number, Nat.reduceBEq, cut?, splice?, builds, List.length_cons, List.length_nil, List.drop_succ_cons, List.drop_zero, List.take_succ_cons, List.take_zero, List.cons_append, List.nil_append, List.append_nil, List.drop_nil, List.take_nil, Nat.reduceAdd, Nat.reduceLeDiff, Nat.zero_add, Nat.add_zero, ↓reduceIte, Bool.not_true, Bool.not_false, decide_true, decide_false, eq_self, bne_self_eq_false, List.getElem?_cons_zero, List.getElem?_cons_succ, decide_eq_true_eq, Bool.false_eq_true, Bool.true_eq_false, reduceCtorEq, Nat.le_refl, e1, ht, bne_self_eq_false, c3, e3, Int.reduceBEq, beq_self_eq_true]
            have hd : handHas s m = s.atE m.lo 1 m.epoch := by rw [hdef]; simp [ht, c3]
            rw [hd]
            rcases fd 1 with e | ⟨i, e, hi, _, hx, z1, z2, hl⟩
            · rw [e]
              have g0 : ¬ (-1 : Int) ≥ 0 := by omega
              simp only [run0, run1, run2, run3, run4, noSlot, memN, RO.dst, lk, drop, forget, number, Nat.reduceBEq, cut?, splice?, builds, List.length_cons, List.length_nil, List.drop_succ_cons, List.drop_zero, List.take_succ_cons, List.take_zero, List.cons_append, List.nil_append, List.append_nil, List.drop_nil, List.take_nil, Nat.reduceAdd, Nat.reduceLeDiff, Nat.zero_add, Nat.add_zero, ↓reduceIte, Bool.not_true, Bool.not_false, decide_true, decide_false, eq_self, bne_self_eq_false, List.getElem?_cons_zero, List.getElem?_cons_succ, decide_eq_true_eq, Bool.false_eq_true, Bool.true_eq_false, reduceCtorEq, Nat.le_refl, g0]
              simp [Store.atE, e]
            · rw [e]
              have g0 : (i : Int) ≥ 0 := by omega
              simp only [run0, run1, run2, run3, run4, noSlot, memN, RO.dst, lk, drop, forget, number, Nat.reduceBEq, cut?, splice?, builds, List.length_cons, List.length_nil, List.drop_succ_cons, List.drop_zero, List.take_succ_cons, List.take_zero, List.cons_append, List.nil_append, List.append_nil, List.drop_nil, List.take_nil, Nat.reduceAdd, Nat.reduceLeDiff, Nat.zero_add, Nat.add_zero, ↓reduceIte, Bool.not_true, Bool.not_false, decide_true, decide_false, eq_self, bne_self_eq_false, List.getElem?_cons_zero, List.getElem?_cons_succ, decide_eq_true_eq, Bool.false_eq_true, Bool.true_eq_false, reduceCtorEq, Nat.le_refl, g0, hx, hl, Shard.cells]
              simp [Store.atE, e]
          · have hd : handHas s m = false := by rw [hdef]; simp [ht, c1, c2, c3]
            have d1 : (m.step == 1) = false := by simpa using c1
            have d2 : (m.step == 2) = false := by simpa using c2
            have d3 : (m.step == 0) = false := by simpa using c3
            rw [hd]
            simp only [run0, run1, run2, run3, run4, noSlot, memN, RO.dst, lk, drop, forget, number, Nat.reduceBEq, cut?, splice?, builds, List.length_cons, List.length_nil, List.drop_succ_cons, List.drop_zero, List.take_succ_cons, List.take_zero, List.cons_append, List.nil_append, List.append_nil, List.drop_nil, List.take_nil, Nat.reduceAdd, Nat.reduceLeDiff, Nat.zero_add, Nat.add_zero, ↓reduceIte, Bool.not_true, Bool.not_false, decide_true, decide_false, eq_self, bne_self_eq_false, List.getElem?_cons_zero, List.getElem?_cons_succ, decide_eq_true_eq, Bool.false_eq_true, Bool.true_eq_false, reduceCtorEq, Nat.le_refl, e1, ht, bne_self_eq_false, d1, d2, d3, e3]
    · have ht' : (s.group != m.to) = true := by simp; exact fun e => ht e.symm
      simp only [run0, run1, run2, run3, run4, noSlot, memN, RO.dst, lk, drop, forget, number, Nat.reduceBEq, cut?, splice?, builds, List.length_cons, List.length_nil, List.drop_succ_cons, List.drop_zero, List.take_succ_cons, List.take_zero, List.cons_append, List.nil_append, List.append_nil, List.drop_nil, List.take_nil, Nat.reduceAdd, Nat.reduceLeDiff, Nat.zero_add, Nat.add_zero, ↓reduceIte, Bool.not_true, Bool.not_false, decide_true, decide_false, eq_self, bne_self_eq_false, List.getElem?_cons_zero, List.getElem?_cons_succ, decide_eq_true_eq, Bool.false_eq_true, Bool.true_eq_false, reduceCtorEq, Nat.le_refl, e1, ht']
      rw [hdef]; simp [ht]
theorem HandHas_c (k : KI F) (hI15 : Has F tI15) (hL : Has F tLibslicesIndexFuncimplShardimplShard) (hf : h.floor ≤ h.next) (v : Store.RI h cs s fp) (u : HandMsg.RI h ms m fq) (ok : s.Ok) :
    ∃ h', call F Z 167 [.agg cs, .agg ms] h = some (.c (.bool (handHas s m)), h') ∧ On h h' := HandHas_run k hI15 hL v u ok
theorem sHandHas_c (k : KS F) (hS15 : Has F tS15) (hf : h.floor ≤ h.next) (v : Store.RI h cs s fp) (u : HandMsg.RI h ms m fq) (ok : s.Ok) :
    ∃ h', call F Z 166 [.agg cs, .agg ms] h = some (.c (.bool (handHas s m)), h') ∧ On h h' := ⟨h, sHandHas_run k hS15 v u ok, On.refl h⟩
end
end Go.Proofs.Ytlbagejkjkfkjaa.A
/- What the converters of slices of Store compute. -/
namespace Go.Proofs.Ytlbagejkjkfkjaa.A
open Go
set_option linter.unusedSimpArgs false
set_option linter.unusedVariables false
def Store.zeroC : List Cell := [.int .i64 0, .int .i64 0, .nil]
theorem Wf.isStoreS' {h : Heap} {n : Nat} {a : List Cell} (w : Wf h (n + 8) shStoreS a) : ∃ x xs fp, a = [x] ∧ SlR 17 Store.RL h x xs fp ∧ ∀ t, t ∈ xs → t.Ok := by
  have hx : ∃ x, a = [x] := by rcases w with w | ⟨_, _, w, _⟩ <;> exact ⟨_, w⟩
  obtain ⟨x, rfl⟩ := hx
  obtain ⟨xs, fp, v, ok⟩ := SlR.ofWf (R := Store.RL) (A := fun t => t.Ok) (fun r hr => by obtain ⟨t, fp, v, ok⟩ := Wf.isStore hr.2; exact ⟨t, fp, v, ok⟩) w
  exact ⟨x, xs, fp, rfl, v, ok⟩
section
variable {F : Nat → Option RF} {Z : CallF} {h : Heap} {x y : Cell} {xs ys : List Store} {fp fq : List Nat}
theorem szStoreS_c (hLStore : Has F tLStore) (hLShard : Has F tLShard) (hLBook : Has F tLBook) (hLAccount : Has F tLAccount) (hLFin : Has F tLFin) (w : SlR 17 Store.RL h x xs fp) (left : Int) (h1 : 0 ≤ left) (h2 : left ≤ 1048576) : ∃ r, call F Z 169 [.c x, .c (.int .i64 left)] h = some (.c (.int .i64 r), h) ∧ r ≤ left ∧ (0 ≤ r → xs.length ≤ 1048576 ∧ ∀ a, a ∈ xs → a.Small) := by
  have hle := w.le2
  rw [call_run F Z (hLStore.lk (g := 169) rfl) _ _ rfl]
  simp only [run0, run1, run2, run3, run4, noSlot, memN, RO.dst, lk, drop, forget, number, Nat.reduceBEq, cut?, splice?, builds, List.length_cons, List.length_nil, List.drop_succ_cons, List.drop_zero, List.take_succ_cons, List.take_zero, List.cons_append, List.nil_append, List.append_nil, List.drop_nil, List.take_nil, Nat.reduceAdd, Nat.reduceLeDiff, Nat.zero_add, Nat.add_zero, ↓reduceIte, Bool.not_true, Bool.not_false, decide_true, decide_false, eq_self, bne_self_eq_false, List.getElem?_cons_zero, List.getElem?_cons_succ, decide_eq_true_eq, Bool.false_eq_true, Bool.true_eq_false, reduceCtorEq, Nat.le_refl, w.len, wrapI (left - xs.length) (by omega) (by omega)]
  by_cases n0 : left - xs.length < 0
  · simp only [run0, run1, run2, run3, run4, noSlot, memN, RO.dst, lk, drop, forget, number, Nat.reduceBEq, cut?, splice?, builds, List.length_cons, List.length_nil, List.drop_succ_cons, List.drop_zero, List.take_succ_cons, List.take_zero, List.cons_append, List.nil_append, List.append_nil, List.drop_nil, List.take_nil, Nat.reduceAdd, Nat.reduceLeDiff, Nat.zero_add, Nat.add_zero, ↓reduceIte, Bool.not_true, Bool.not_false, decide_true, decide_false, eq_self, bne_self_eq_false, List.getElem?_cons_zero, List.getElem?_cons_succ, decide_eq_true_eq, Bool.false_eq_true, Bool.true_eq_false, reduceCtorEq, Nat.le_refl, n0]
    exact ⟨_, rfl, by omega, by omega⟩
  simp only [run0, run1, run2, run3, run4, noSlot, memN, RO.dst, lk, drop, forget, number, Nat.reduceBEq, cut?, splice?, builds, List.length_cons, List.length_nil, List.drop_succ_cons, List.drop_zero, List.take_succ_cons, List.take_zero, List.cons_append, List.nil_append, List.append_nil, List.drop_nil, List.take_nil, Nat.reduceAdd, Nat.reduceLeDiff, Nat.zero_add, Nat.add_zero, ↓reduceIte, Bool.not_true, Bool.not_false, decide_true, decide_false, eq_self, bne_self_eq_false, List.getElem?_cons_zero, List.getElem?_cons_succ, decide_eq_true_eq, Bool.false_eq_true, Bool.true_eq_false, reduceCtorEq, Nat.le_refl, n0]
  rcases loop_rel (F := F) (Z := Z) (live := [0, 1, 5]) (b := r169L0) xs.length (fun i s => ∃ l, s = ⟨[(0, .c x), (1, .c (.int .i64 l)), (5, .c (.int .i64 (i : Nat)))], [], [], h⟩ ∧ 0 ≤ l ∧ l ≤ left ∧ ∀ a, a ∈ xs.take i → a.Small) (fun s => lk s.env 4 = some (.c (.int .i64 (-1))) ∧ s.hp = h) (fun i s hi ⟨l, hs, q1, q2, q3⟩ => by
    subst hs
    obtain ⟨r, f, hld, hr, _⟩ := w.one hi
    obtain ⟨l1, l2, l3⟩ := Store.lenL hr
    obtain ⟨l', e, k1, k2⟩ := szStore_c (Z := Z) hLStore hLShard hLBook hLAccount hLFin hr l q1 (by omega)
    have hlt : (i : Int) < xs.length := by omega
    rw [loop_run]
    conv in (codeF _ _ r169L0 _) => unfold r169L0
    simp only [run0, run1, run2, run3, run4, noSlot, memN, RO.dst, lk, drop, forget, number, Nat.reduceBEq, cut?, splice?, builds, List.length_cons, List.length_nil, List.drop_succ_cons, List.drop_zero, List.take_succ_cons, List.take_zero, List.cons_append, List.nil_append, List.append_nil, List.drop_nil, List.take_nil, Nat.reduceAdd, Nat.reduceLeDiff, Nat.zero_add, Nat.add_zero, ↓reduceIte, Bool.not_true, Bool.not_false, decide_true, decide_false, eq_self, bne_self_eq_false, List.getElem?_cons_zero, List.getElem?_cons_succ, decide_eq_true_eq, Bool.false_eq_true, Bool.true_eq_false, reduceCtorEq, Nat.le_refl, w.len, hlt, w.idx hi, hld, l1, l2, e]
    by_cases n1 : l' < 0
    · simp only [run0, run1, run2, run3, run4, noSlot, memN, RO.dst, lk, drop, forget, number, Nat.reduceBEq, cut?, splice?, builds, List.length_cons, List.length_nil, List.drop_succ_cons, List.drop_zero, List.take_succ_cons, List.take_zero, List.cons_append, List.nil_append, List.append_nil, List.drop_nil, List.take_nil, Nat.reduceAdd, Nat.reduceLeDiff, Nat.zero_add, Nat.add_zero, ↓reduceIte, Bool.not_true, Bool.not_false, decide_true, decide_false, eq_self, bne_self_eq_false, List.getElem?_cons_zero, List.getElem?_cons_succ, decide_eq_true_eq, Bool.false_eq_true, Bool.true_eq_false, reduceCtorEq, Nat.le_refl, n1]
      exact Or.inr ⟨_, rfl, rfl, rfl⟩
    · simp only [run0, run1, run2, run3, run4, noSlot, memN, RO.dst, lk, drop, forget, number, Nat.reduceBEq, cut?, splice?, builds, List.length_cons, List.length_nil, List.drop_succ_cons, List.drop_zero, List.take_succ_cons, List.take_zero, List.cons_append, List.nil_append, List.append_nil, List.drop_nil, List.take_nil, Nat.reduceAdd, Nat.reduceLeDiff, Nat.zero_add, Nat.add_zero, ↓reduceIte, Bool.not_true, Bool.not_false, decide_true, decide_false, eq_self, bne_self_eq_false, List.getElem?_cons_zero, List.getElem?_cons_succ, decide_eq_true_eq, Bool.false_eq_true, Bool.true_eq_false, reduceCtorEq, Nat.le_refl, n1, wrapS i (by omega)]
      refine Or.inl ⟨_, ⟨l', rfl, by omega, by omega, fun a ha => ?_⟩, rfl⟩
      rw [List.take_add_one, List.getElem?_eq_getElem hi] at ha
      rcases List.mem_append.1 ha with ha | ha
      · exact q3 a ha
      · simp at ha; subst ha; exact k2 (by omega)) (s := ⟨[(0, .c x), (1, .c (.int .i64 (left - xs.length))), (5, .c (.int .i64 (0 : Nat)))], [], [], h⟩) ⟨_, rfl, by omega, by omega, fun a ha => by simp at ha⟩ with ⟨s', ⟨l, hs', q1, q2, q3⟩, l1⟩ | ⟨s', l1, q1, q2⟩
  · subst hs'
    simp only [show ((0 : Nat) : Int) = 0 from rfl] at l1
    rw [l1, loop_run]
    conv in (codeF _ _ r169L0 _) => unfold r169L0
    have hlt : ¬ (xs.length : Int) < xs.length := by omega
    simp only [run0, run1, run2, run3, run4, noSlot, memN, RO.dst, lk, drop, forget, number, Nat.reduceBEq, cut?, splice?, builds, List.length_cons, List.length_nil, List.drop_succ_cons, List.drop_zero, List.take_succ_cons, List.take_zero, List.cons_append, List.nil_append, List.append_nil, List.drop_nil, List.take_nil, Nat.reduceAdd, Nat.reduceLeDiff, Nat.zero_add, Nat.add_zero, ↓reduceIte, Bool.not_true, Bool.not_false, decide_true, decide_false, eq_self, bne_self_eq_false, List.getElem?_cons_zero, List.getElem?_cons_succ, decide_eq_true_eq, Bool.false_eq_true, Bool.true_eq_false, reduceCtorEq, Nat.le_refl, w.len, hlt]
    rw [List.take_length] at q3
    exact ⟨_, rfl, by omega, fun _ => ⟨by omega, q3⟩⟩
  · simp only [show ((0 : Nat) : Int) = 0 from rfl] at l1
    rw [l1]
    simp only [run0, run1, run2, run3, run4, noSlot, memN, RO.dst, lk, drop, forget, number, Nat.reduceBEq, cut?, splice?, builds, List.length_cons, List.length_nil, List.drop_succ_cons, List.drop_zero, List.take_succ_cons, List.take_zero, List.cons_append, List.nil_append, List.append_nil, List.drop_nil, List.take_nil, Nat.reduceAdd, Nat.reduceLeDiff, Nat.zero_add, Nat.add_zero, ↓reduceIte, Bool.not_true, Bool.not_false, decide_true, decide_false, eq_self, bne_self_eq_false, List.getElem?_cons_zero, List.getElem?_cons_succ, decide_eq_true_eq, Bool.false_eq_true, Bool.true_eq_false, reduceCtorEq, Nat.le_refl, q1, q2]
    exact ⟨_, rfl, by omega, by omega⟩
theorem toStoreS_c (hLStore : Has F tLStore) (hLShard : Has F tLShard) (hLBook : Has F tLBook) (hLAccount : Has F tLAccount) (hLFin : Has F tLFin) (hf : h.floor ≤ h.next) (w : SlR 17 Store.RL h x xs fp) (sm : xs.length ≤ 1048576 ∧ ∀ a, a ∈ xs → a.Small) : ∃ y h' fq, call F Z 170 [.c x] h = some (.c y, h') ∧ On h h' ∧ SlR 18 Store.RI h' y xs fq ∧ Fre h fq := by
  obtain ⟨hn, sm⟩ := sm
  rw [call_run F Z (hLStore.lk (g := 170) rfl) _ _ rfl]
  simp only [run0, run1, run2, run3, run4, noSlot, memN, RO.dst, lk, drop, forget, number, Nat.reduceBEq, cut?, splice?, builds, List.length_cons, List.length_nil, List.drop_succ_cons, List.drop_zero, List.take_succ_cons, List.take_zero, List.cons_append, List.nil_append, List.append_nil, List.drop_nil, List.take_nil, Nat.reduceAdd, Nat.reduceLeDiff, Nat.zero_add, Nat.add_zero, ↓reduceIte, Bool.not_true, Bool.not_false, decide_true, decide_false, eq_self, bne_self_eq_false, List.getElem?_cons_zero, List.getElem?_cons_succ, decide_eq_true_eq, Bool.false_eq_true, Bool.true_eq_false, reduceCtorEq, Nat.le_refl, w.len]
  rw [if_pos (by omega)]
  simp only [run0, run1, run2, run3, run4, noSlot, memN, RO.dst, lk, drop, forget, number, Nat.reduceBEq, cut?, splice?, builds, List.length_cons, List.length_nil, List.drop_succ_cons, List.drop_zero, List.take_succ_cons, List.take_zero, List.cons_append, List.nil_append, List.append_nil, List.drop_nil, List.take_nil, Nat.reduceAdd, Nat.reduceLeDiff, Nat.zero_add, Nat.add_zero, ↓reduceIte, Bool.not_true, Bool.not_false, decide_true, decide_false, eq_self, bne_self_eq_false, List.getElem?_cons_zero, List.getElem?_cons_succ, decide_eq_true_eq, Bool.false_eq_true, Bool.true_eq_false, reduceCtorEq, Nat.le_refl, Int.toNat_natCast]
  obtain ⟨s', ⟨g, rows, fps, hs', fl⟩, l1⟩ := loop_goes (F := F) (Z := Z) (live := [0, 3, 4]) (b := r170L0) xs.length (fun i s => ∃ g rows fps, s = ⟨[(0, .c x), (3, .c (.sl 18 h.next 0 xs.length)), (4, .c (.int .i64 (i : Nat)))], [], [], g⟩ ∧ Filled Store.RI h g h.next Store.zeroC xs i rows fps) (fun i s hi ⟨g, rows, fps, hs, fl⟩ => by
    subst hs
    have wg := w.mono Store.okL fl.on.ext
    obtain ⟨r, f, hld, hr, _⟩ := wg.one hi
    obtain ⟨l1, l2, l3⟩ := Store.lenL hr
    obtain ⟨cs', g', fq, e, o', v, fr⟩ := toStore_c (Z := Z) hLStore hLShard hLBook hLAccount hLFin (fl.on.le hf) hr (sm _ (List.getElem_mem hi))
    obtain ⟨vl, _, _⟩ := Store.lenI v
    obtain ⟨st, fl'⟩ := fl.step Store.okI hf hi vl o' v fr
    have hlt : (i : Int) < xs.length := by omega
    have h0 : (0 : Int) ≤ i := by omega
    rw [loop_run]
    conv in (codeF _ _ r170L0 _) => unfold r170L0
    simp only [run0, run1, run2, run3, run4, noSlot, memN, RO.dst, lk, drop, forget, number, Nat.reduceBEq, cut?, splice?, builds, List.length_cons, List.length_nil, List.drop_succ_cons, List.drop_zero, List.take_succ_cons, List.take_zero, List.cons_append, List.nil_append, List.append_nil, List.drop_nil, List.take_nil, Nat.reduceAdd, Nat.reduceLeDiff, Nat.zero_add, Nat.add_zero, ↓reduceIte, Bool.not_true, Bool.not_false, decide_true, decide_false, eq_self, bne_self_eq_false, List.getElem?_cons_zero, List.getElem?_cons_succ, decide_eq_true_eq, Bool.false_eq_true, Bool.true_eq_false, reduceCtorEq, Nat.le_refl, w.len, hlt, w.idx hi, hld, l1, l2, e, h0, and_self, Int.toNat_natCast, vl, st, wrapS i (by omega)]
    exact ⟨_, ⟨_, _, _, rfl, fl'⟩, rfl⟩) (s := ⟨[(0, .c x), (3, .c (.sl 18 h.next 0 xs.length)), (4, .c (.int .i64 (0 : Nat)))], [], [], h.push (List.replicate xs.length Store.zeroC)⟩) ⟨_, _, _, rfl, Filled.start h Store.zeroC xs⟩
  subst hs'
  simp only [show ((0 : Nat) : Int) = 0 from rfl, Store.zeroC] at l1
  rw [l1, loop_run]
  conv in (codeF _ _ r170L0 _) => unfold r170L0
  have hlt : ¬ (xs.length : Int) < xs.length := by omega
  simp only [run0, run1, run2, run3, run4, noSlot, memN, RO.dst, lk, drop, forget, number, Nat.reduceBEq, cut?, splice?, builds, List.length_cons, List.length_nil, List.drop_succ_cons, List.drop_zero, List.take_succ_cons, List.take_zero, List.cons_append, List.nil_append, List.append_nil, List.drop_nil, List.take_nil, Nat.reduceAdd, Nat.reduceLeDiff, Nat.zero_add, Nat.add_zero, ↓reduceIte, Bool.not_true, Bool.not_false, decide_true, decide_false, eq_self, bne_self_eq_false, List.getElem?_cons_zero, List.getElem?_cons_succ, decide_eq_true_eq, Bool.false_eq_true, Bool.true_eq_false, reduceCtorEq, Nat.le_refl, w.len, hlt]
  obtain ⟨o, v, f⟩ := fl.all hn 18
  exact ⟨_, _, _, rfl, o, v, f⟩
theorem eqStoreS_r (hLStore : Has F tLStore) (hLShard : Has F tLShard) (hLBook : Has F tLBook) (hLAccount : Has F tLAccount) (hLFin : Has F tLFin) (w : SlR 18 Store.RI h x xs fp) (v : SlR 18 Store.RI h y ys fq) : call F Z 173 [.c x, .c y] h = some (.c (.bool (decide (xs = ys))), h) := by
  have hw := w.le2
  have hv := v.le2
  rw [call_run F Z (hLStore.lk (g := 173) rfl) _ _ rfl]
  simp only [run0, run1, run2, run3, run4, noSlot, memN, RO.dst, lk, drop, forget, number, Nat.reduceBEq, cut?, splice?, builds, List.length_cons, List.length_nil, List.drop_succ_cons, List.drop_zero, List.take_succ_cons, List.take_zero, List.cons_append, List.nil_append, List.append_nil, List.drop_nil, List.take_nil, Nat.reduceAdd, Nat.reduceLeDiff, Nat.zero_add, Nat.add_zero, ↓reduceIte, Bool.not_true, Bool.not_false, decide_true, decide_false, eq_self, bne_self_eq_false, List.getElem?_cons_zero, List.getElem?_cons_succ, decide_eq_true_eq, Bool.false_eq_true, Bool.true_eq_false, reduceCtorEq, Nat.le_refl, w.len, v.len]
  rw [condC_if]
  split
  · rename_i hne
    have : xs ≠ ys := by rintro rfl; simp at hne
    simp only [run0, run1, run2, run3, run4, noSlot, memN, RO.dst, lk, drop, forget, number, Nat.reduceBEq, cut?, splice?, builds, List.length_cons, List.length_nil, List.drop_succ_cons, List.drop_zero, List.take_succ_cons, List.take_zero, List.cons_append, List.nil_append, List.append_nil, List.drop_nil, List.take_nil, Nat.reduceAdd, Nat.reduceLeDiff, Nat.zero_add, Nat.add_zero, ↓reduceIte, Bool.not_true, Bool.not_false, decide_true, decide_false, eq_self, bne_self_eq_false, List.getElem?_cons_zero, List.getElem?_cons_succ, decide_eq_true_eq, Bool.false_eq_true, Bool.true_eq_false, reduceCtorEq, Nat.le_refl, this]
  · rename_i he
    have he : xs.length = ys.length := by simp at he; omega
    simp only [run0, run1, run2, run3, run4, noSlot, memN, RO.dst, lk, drop, forget, number, Nat.reduceBEq, cut?, splice?, builds, List.length_cons, List.length_nil, List.drop_succ_cons, List.drop_zero, List.take_succ_cons, List.take_zero, List.cons_append, List.nil_append, List.append_nil, List.drop_nil, List.take_nil, Nat.reduceAdd, Nat.reduceLeDiff, Nat.zero_add, Nat.add_zero, ↓reduceIte, Bool.not_true, Bool.not_false, decide_true, decide_false, eq_self, bne_self_eq_false, List.getElem?_cons_zero, List.getElem?_cons_succ, decide_eq_true_eq, Bool.false_eq_true, Bool.true_eq_false, reduceCtorEq, Nat.le_refl]
    have key := loop_allN (F := F) (Z := Z) (live := [0, 1, 5]) (b := r173L0) xs.length (fun i => ⟨[(0, .c x), (1, .c y), (5, .c (.int .i64 (i : Nat)))], [], [], h⟩) (fun i => decide (xs[i]? = ys[i]?)) (fun s => lk s.env 4 = some (.c (.bool false)) ∧ s.hp = h) fun i hi => by
      have hi' : i < ys.length := by omega
      have hlt : (i : Int) < xs.length := by omega
      obtain ⟨r, f, hld, hr, _⟩ := w.one hi
      obtain ⟨r', f', hld', hr', _⟩ := v.one hi'
      obtain ⟨l1, l2, l3⟩ := Store.lenI hr
      obtain ⟨l1', l2', l3'⟩ := Store.lenI hr'
      have e := eqStore_r (Z := Z) (h := ⟨h.next, h.next, h.get⟩) hLStore hLShard hLBook hLAccount hLFin (Store.okI.up hr _) (Store.okI.up hr' _)
      rw [loop_run]
      conv in (codeF _ _ r173L0 _) => unfold r173L0
      simp only [run0, run1, run2, run3, run4, noSlot, memN, RO.dst, lk, drop, forget, number, Nat.reduceBEq, cut?, splice?, builds, List.length_cons, List.length_nil, List.drop_succ_cons, List.drop_zero, List.take_succ_cons, List.take_zero, List.cons_append, List.nil_append, List.append_nil, List.drop_nil, List.take_nil, Nat.reduceAdd, Nat.reduceLeDiff, Nat.zero_add, Nat.add_zero, ↓reduceIte, Bool.not_true, Bool.not_false, decide_true, decide_false, eq_self, bne_self_eq_false, List.getElem?_cons_zero, List.getElem?_cons_succ, decide_eq_true_eq, Bool.false_eq_true, Bool.true_eq_false, reduceCtorEq, Nat.le_refl, w.len, hlt, w.idx hi, v.idx hi', hld, hld', l1, l2, l1', l2', e, wrapS i (by omega)]
      rw [List.getElem?_eq_getElem hi, List.getElem?_eq_getElem hi']
      clear e hld hld' hr hr' l1 l2 l3 l1' l2' l3'
      (repeat' ((first | (rw [gF_if]; split) | (rw [condC_if]; split) | (rw [pickR_if]; split)) <;> (rename_i hh; (try simp only [Bool.not_eq_true, decide_eq_true_eq] at hh); simp only [hh, run0, run1, run2, run3, run4, noSlot, memN, RO.dst, lk, drop, forget, number, Nat.reduceBEq, cut?, splice?, builds, List.length_cons, List.length_nil, List.drop_succ_cons, List.drop_zero, List.take_succ_cons, List.take_zero, List.cons_append, List.nil_append, List.append_nil, List.drop_nil, List.take_nil, Nat.reduceAdd, Nat.reduceLeDiff, Nat.zero_add, Nat.add_zero, ↓reduceIte, Bool.not_true, Bool.not_false, decide_true, decide_false, eq_self, bne_self_eq_false, List.getElem?_cons_zero, List.getElem?_cons_succ, decide_eq_true_eq, Bool.false_eq_true, Bool.true_eq_false, reduceCtorEq, Nat.le_refl, wrapS i (by omega)])))
      · exact .inr ⟨by simp_all, _, rfl, rfl, rfl⟩
      · exact .inl ⟨by simp_all, rfl⟩
    rw [all_same he] at key
    rcases key with ⟨k1, k2⟩ | ⟨k1, s, k2, k3, k4⟩
    · simp only [show ((0 : Nat) : Int) = 0 from rfl] at k2
      rw [k2, loop_run]
      conv in (codeF _ _ r173L0 _) => unfold r173L0
      have hlt : ¬ (xs.length : Int) < xs.length := by omega
      simp only [run0, run1, run2, run3, run4, noSlot, memN, RO.dst, lk, drop, forget, number, Nat.reduceBEq, cut?, splice?, builds, List.length_cons, List.length_nil, List.drop_succ_cons, List.drop_zero, List.take_succ_cons, List.take_zero, List.cons_append, List.nil_append, List.append_nil, List.drop_nil, List.take_nil, Nat.reduceAdd, Nat.reduceLeDiff, Nat.zero_add, Nat.add_zero, ↓reduceIte, Bool.not_true, Bool.not_false, decide_true, decide_false, eq_self, bne_self_eq_false, List.getElem?_cons_zero, List.getElem?_cons_succ, decide_eq_true_eq, Bool.false_eq_true, Bool.true_eq_false, reduceCtorEq, Nat.le_refl, w.len, hlt, k1]
    · simp only [show ((0 : Nat) : Int) = 0 from rfl] at k2
      rw [k2]
      simp only [run0, run1, run2, run3, run4, noSlot, memN, RO.dst, lk, drop, forget, number, Nat.reduceBEq, cut?, splice?, builds, List.length_cons, List.length_nil, List.drop_succ_cons, List.drop_zero, List.take_succ_cons, List.take_zero, List.cons_append, List.nil_append, List.append_nil, List.drop_nil, List.take_nil, Nat.reduceAdd, Nat.reduceLeDiff, Nat.zero_add, Nat.add_zero, ↓reduceIte, Bool.not_true, Bool.not_false, decide_true, decide_false, eq_self, bne_self_eq_false, List.getElem?_cons_zero, List.getElem?_cons_succ, decide_eq_true_eq, Bool.false_eq_true, Bool.true_eq_false, reduceCtorEq, Nat.le_refl, k3, k4, k1]
end
end Go.Proofs.Ytlbagejkjkfkjaa.A
/- Stores that are right, all of them; the sum of what is live. -/
namespace Go.Proofs.Ytlbagejkjkfkjaa.A
open Go
set_option linter.unusedSimpArgs false
set_option linter.unusedVariables false
/-- The functions that hand-overs reach, beyond shards'. -/
structure KH (F : Nat → Option RF) : Prop where
  i15 : Has F tI15
  ls : Has F tLibslicesIndexFuncimplShardimplShard
  lcs : Has F tLibslicesContainsFuncimplShardimplShard
  lt : Has F tLibslicesIndexFuncimplStoreimplStore
  lct : Has F tLibslicesContainsFuncimplStoreimplStore
def areStores (l : List Store) : Bool := decide ((l.length : Int) ≤ 40) && l.all Store.good
/-- Has y a later epoch than x, and an id in common? -/
def Shard.newer (x y : Shard) : Bool := decide (y.epoch > x.epoch) && (decide (y.lo ≤ x.hi) && decide (x.lo ≤ y.hi))
def liveOf (all : List Shard) (x : Shard) : Int := bif all.any x.newer then 0 else x.money
def liveTotal (l : List Store) : Int × Int := bif areStores l then (wHi (sumI (liveOf (l.flatMap Store.shards)) (l.flatMap Store.shards)), wLo (sumI (liveOf (l.flatMap Store.shards)) (l.flatMap Store.shards))) else (0, 0)
section
variable {F : Nat → Option RF} {Z : CallF} {h : Heap} {x y : Cell} {l : List Store} {xs : List Shard} {fp fq : List Nat} {cs : List Cell}
theorem indexStore_run (k : KI F) (q : KH F) (w : SlR 18 Store.RI h x l fp) (ok : ∀ a, a ∈ l → a.Ok) : ∃ h', call F Z 268 [.c x, .c (.fn 250 [])] h = some (.c (.int .i64 (findI (fun s => !s.good) l)), h') ∧ On h h' := by
  have hle := w.le2
  rw [call_run F Z (q.lt.lk (g := 268) rfl) _ _ rfl]
  simp only [run0, run1, run2, run3, run4, noSlot, memN, RO.dst, lk, drop, forget, number, Nat.reduceBEq, cut?, splice?, builds, List.length_cons, List.length_nil, List.drop_succ_cons, List.drop_zero, List.take_succ_cons, List.take_zero, List.cons_append, List.nil_append, List.append_nil, List.drop_nil, List.take_nil, Nat.reduceAdd, Nat.reduceLeDiff, Nat.zero_add, Nat.add_zero, ↓reduceIte, Bool.not_true, Bool.not_false, decide_true, decide_false, eq_self, bne_self_eq_false, List.getElem?_cons_zero, List.getElem?_cons_succ, decide_eq_true_eq, Bool.false_eq_true, Bool.true_eq_false, reduceCtorEq, Nat.le_refl, w.len]
  have key := loop_findO (F := F) (Z := Z) (live := [0, 1, 7, 8]) (b := r268L0) l (fun s => !s.good) (fun i g => ⟨[(0, .c x), (1, .c (.fn 250 [])), (7, .c (.int .i64 (l.length : Nat))), (8, .c (.int .i64 (i : Nat)))], [], [], g⟩) h (fun i s => lk s.env 4 = some (.c (.int .i64 (i : Nat)))) fun i hi g og => by
    have hlt : (i : Int) < l.length := by omega
    have hws := wrapS i (by omega)
    have wg := w.on Store.okI og
    obtain ⟨r, f, hld, hR, _⟩ := wg.one hi
    obtain ⟨r1, r2, r3⟩ := Store.lenI hR
    have hxi := w.idx hi
    obtain ⟨g', e, o'⟩ := isStore_run (Z := Z) k hR (ok _ (List.getElem_mem hi))
    have hc : call F Z 250 [.agg r] g = some (.c (.bool (!l[i].good)), g') := by
      rw [call_run F Z (q.i15.lk (g := 250) rfl) _ _ rfl]
      simp only [run0, run1, run2, run3, run4, noSlot, memN, RO.dst, lk, drop, forget, number, Nat.reduceBEq, cut?, splice?, builds, List.length_cons, List.length_nil, List.drop_succ_cons, List.drop_zero, List.take_succ_cons, List.take_zero, List.cons_append, List.nil_append, List.append_nil, List.drop_nil, List.take_nil, Nat.reduceAdd, Nat.reduceLeDiff, Nat.zero_add, Nat.add_zero, ↓reduceIte, Bool.not_true, Bool.not_false, decide_true, decide_false, eq_self, bne_self_eq_false, List.getElem?_cons_zero, List.getElem?_cons_succ, decide_eq_true_eq, Bool.false_eq_true, Bool.true_eq_false, reduceCtorEq, Nat.le_refl, r1, r2, e]
    clear wg hR w e
    rw [loop_run]
    conv in (codeF _ _ r268L0 _) => unfold r268L0
    simp only [run0, run1, run2, run3, run4, noSlot, memN, RO.dst, lk, drop, forget, number, Nat.reduceBEq, cut?, splice?, builds, List.length_cons, List.length_nil, List.drop_succ_cons, List.drop_zero, List.take_succ_cons, List.take_zero, List.cons_append, List.nil_append, List.append_nil, List.drop_nil, List.take_nil, Nat.reduceAdd, Nat.reduceLeDiff, Nat.zero_add, Nat.add_zero, ↓reduceIte, Bool.not_true, Bool.not_false, decide_true, decide_false, eq_self, bne_self_eq_false, List.getElem?_cons_zero, List.getElem?_cons_succ, decide_eq_true_eq, Bool.false_eq_true, Bool.true_eq_false, reduceCtorEq, Nat.le_refl, hlt, hxi, hld, r1, r2, r3, capV, List.map_nil, hc]
    generalize l[i].good = gd at *
    cases gd with
    | false => exact .inr ⟨rfl, _, rfl, o', rfl⟩
    | true =>
      simp only [run0, run1, run2, run3, run4, noSlot, memN, RO.dst, lk, drop, forget, number, Nat.reduceBEq, cut?, splice?, builds, List.length_cons, List.length_nil, List.drop_succ_cons, List.drop_zero, List.take_succ_cons, List.take_zero, List.cons_append, List.nil_append, List.append_nil, List.drop_nil, List.take_nil, Nat.reduceAdd, Nat.reduceLeDiff, Nat.zero_add, Nat.add_zero, ↓reduceIte, Bool.not_true, Bool.not_false, decide_true, decide_false, eq_self, bne_self_eq_false, List.getElem?_cons_zero, List.getElem?_cons_succ, decide_eq_true_eq, Bool.false_eq_true, Bool.true_eq_false, reduceCtorEq, Nat.le_refl, hws]
      exact .inl ⟨rfl, _, o', rfl⟩
  have hlt : ¬ (l.length : Int) < l.length := by omega
  simp only [show ((0 : Nat) : Int) = 0 from rfl] at key
  rcases key with ⟨k1, g, og, k2⟩ | ⟨i, k1, hi, s, k2, os, k3⟩
  · rw [k2, loop_run]
    conv in (codeF _ _ r268L0 _) => unfold r268L0
    simp only [run0, run1, run2, run3, run4, noSlot, memN, RO.dst, lk, drop, forget, number, Nat.reduceBEq, cut?, splice?, builds, List.length_cons, List.length_nil, List.drop_succ_cons, List.drop_zero, List.take_succ_cons, List.take_zero, List.cons_append, List.nil_append, List.append_nil, List.drop_nil, List.take_nil, Nat.reduceAdd, Nat.reduceLeDiff, Nat.zero_add, Nat.add_zero, ↓reduceIte, Bool.not_true, Bool.not_false, decide_true, decide_false, eq_self, bne_self_eq_false, List.getElem?_cons_zero, List.getElem?_cons_succ, decide_eq_true_eq, Bool.false_eq_true, Bool.true_eq_false, reduceCtorEq, Nat.le_refl, hlt, findI, k1]
    exact ⟨_, rfl, og⟩
  · rw [k2]
    simp only [run0, run1, run2, run3, run4, noSlot, memN, RO.dst, lk, drop, forget, number, Nat.reduceBEq, cut?, splice?, builds, List.length_cons, List.length_nil, List.drop_succ_cons, List.drop_zero, List.take_succ_cons, List.take_zero, List.cons_append, List.nil_append, List.append_nil, List.drop_nil, List.take_nil, Nat.reduceAdd, Nat.reduceLeDiff, Nat.zero_add, Nat.add_zero, ↓reduceIte, Bool.not_true, Bool.not_false, decide_true, decide_false, eq_self, bne_self_eq_false, List.getElem?_cons_zero, List.getElem?_cons_succ, decide_eq_true_eq, Bool.false_eq_true, Bool.true_eq_false, reduceCtorEq, Nat.le_refl, k3, findI, k1]
    exact ⟨_, rfl, os⟩
theorem areStores_run (k : KI F) (q : KH F) (w : SlR 18 Store.RI h x l fp) (ok : ∀ a, a ∈ l → a.Ok) : ∃ h', call F Z 216 [.c x] h = some (.c (.bool (areStores l)), h') ∧ On h h' := by
  have hwl := w.len
  rw [call_run F Z (q.i15.lk (g := 216) rfl) _ _ rfl]
  by_cases hl : (l.length : Int) ≤ 40
  · obtain ⟨h', e, o⟩ := indexStore_run (Z := Z) k q w ok
    have hc : call F Z 251 [.c x, .c (.fn 250 [])] h = some (.c (.bool (l.any fun s => !s.good)), h') := by
      rw [call_run F Z (q.lct.lk (g := 251) rfl) _ _ rfl]
      simp only [run0, run1, run2, run3, run4, noSlot, memN, RO.dst, lk, drop, forget, number, Nat.reduceBEq, cut?, splice?, builds, List.length_cons, List.length_nil, List.drop_succ_cons, List.drop_zero, List.take_succ_cons, List.take_zero, List.cons_append, List.nil_append, List.append_nil, List.drop_nil, List.take_nil, Nat.reduceAdd, Nat.reduceLeDiff, Nat.zero_add, Nat.add_zero, ↓reduceIte, Bool.not_true, Bool.not_false, decide_true, decide_false, eq_self, bne_self_eq_false, List.getElem?_cons_zero, List.getElem?_cons_succ, decide_eq_true_eq, Bool.false_eq_true, Bool.true_eq_false, reduceCtorEq, Nat.le_refl, e, findI_any]
    have ha : areStores l = !(l.any fun s => !s.good) := by
      simp only [areStores, hl, decide_true, Bool.true_and, List.not_any_eq_all_not, Bool.not_not]
    simp only [run0, run1, run2, run3, run4, noSlot, memN, RO.dst, lk, drop, forget, number, Nat.reduceBEq, cut?, splice?, builds, List.length_cons, List.length_nil, List.drop_succ_cons, List.drop_zero, List.take_succ_cons, List.take_zero, List.cons_append, List.nil_append, List.append_nil, List.drop_nil, List.take_nil, Nat.reduceAdd, Nat.reduceLeDiff, Nat.zero_add, Nat.add_zero, ↓reduceIte, Bool.not_true, Bool.not_false, decide_true, decide_false, eq_self, bne_self_eq_false, List.getElem?_cons_zero, List.getElem?_cons_succ, decide_eq_true_eq, Bool.false_eq_true, Bool.true_eq_false, reduceCtorEq, Nat.le_refl, hwl, hl, hc]
    exact ⟨_, by rw [ha], o⟩
  · have ha : areStores l = false := by simp [areStores, hl]
    simp only [run0, run1, run2, run3, run4, noSlot, memN, RO.dst, lk, drop, forget, number, Nat.reduceBEq, cut?, splice?, builds, List.length_cons, List.length_nil, List.drop_succ_cons, List.drop_zero, List.take_succ_cons, List.take_zero, List.cons_append, List.nil_append, List.append_nil, List.drop_nil, List.take_nil, Nat.reduceAdd, Nat.reduceLeDiff, Nat.zero_add, Nat.add_zero, ↓reduceIte, Bool.not_true, Bool.not_false, decide_true, decide_false, eq_self, bne_self_eq_false, List.getElem?_cons_zero, List.getElem?_cons_succ, decide_eq_true_eq, Bool.false_eq_true, Bool.true_eq_false, reduceCtorEq, Nat.le_refl, hwl, hl]
    exact ⟨_, by rw [ha], On.refl h⟩
theorem areStores_all (h : areStores l = true) : l.length ≤ 40 ∧ ∀ s, s ∈ l → s.good = true := by
  simp only [areStores, Bool.and_eq_true, decide_eq_true_eq, List.all_eq_true] at h
  exact ⟨by omega, h.2⟩
theorem flatMap_take {α β : Type} (f : α → List β) (l : List α) {i : Nat} (hi : i < l.length) : (l.take (i + 1)).flatMap f = (l.take i).flatMap f ++ f l[i] := by
  rw [List.take_add_one, List.getElem?_eq_getElem hi, List.flatMap_append]; simp
theorem flatMap_len {α β : Type} (f : α → List β) (m : Nat) : ∀ (l : List α), (∀ a, a ∈ l → (f a).length ≤ m) → (l.flatMap f).length ≤ m * l.length
  | [], _ => by simp
  | a :: r, h => by
    have h1 := h a (by simp)
    have h2 := flatMap_len f m r fun b hb => h b (by simp [hb])
    rw [List.flatMap_cons, List.length_append, List.length_cons, Nat.mul_succ]
    omega
/-- All shards of right stores. -/
theorem allShards_ok (ha : areStores l = true) (ok : ∀ a, a ∈ l → a.Ok) : (l.flatMap Store.shards).length ≤ 320 ∧ (∀ t, t ∈ l.flatMap Store.shards → t.Ok ∧ t.good = true) := by
  obtain ⟨h1, h2⟩ := areStores_all ha
  have h3 := flatMap_len Store.shards 8 l fun a ha => (Store.good_all (h2 a ha)).1
  refine ⟨by omega, fun t ht => ?_⟩
  obtain ⟨s, hs, hts⟩ := List.mem_flatMap.1 ht
  exact ⟨(ok s hs).shards t hts, (Store.good_all (h2 s hs)).2 t hts⟩
theorem liveOf_le {all : List Shard} {t : Shard} (ok : t.Ok) (gd : t.good = true) : 0 ≤ liveOf all t ∧ liveOf all t ≤ 737869762948382064600 := by
  have := Shard.money_le ok gd
  unfold liveOf
  cases all.any t.newer <;> simp <;> omega
set_option maxHeartbeats 1000000 in
theorem LiveTotal_all (hf : h.floor ≤ h.next) (w : SlR 18 Store.RI h x l fp) (hl : l.length ≤ 40) (hg : ∀ s, s ∈ l → s.good = true) {h' : Heap} {y0 : Cell} (a0 : Acc 16 h h' y0 []) :
    ∃ y g rows fps, loop F Z [4, 19, 20, 21] r172L1 ⟨[(4, .c y0), (19, .c x), (20, .c (.int .i64 (l.length : Nat))), (21, .c (.int .i64 (0 : Nat)))], [], [], h'⟩ = loop F Z [4, 19, 20, 21] r172L1 ⟨[(4, .c y), (19, .c x), (20, .c (.int .i64 (l.length : Nat))), (21, .c (.int .i64 (l.length : Nat)))], [], [], g⟩ ∧
      Acc 16 h g y rows ∧ AllR Shard.RI h rows (l.flatMap Store.shards) fps := by
  obtain ⟨s', ⟨y, g, rows, fps, hs, a, v⟩, l1⟩ := loop_goes (F := F) (Z := Z) (live := [4, 19, 20, 21]) (b := r172L1) l.length (fun i s => ∃ y g rows fps, s = ⟨[(4, .c y), (19, .c x), (20, .c (.int .i64 (l.length : Nat))), (21, .c (.int .i64 (i : Nat)))], [], [], g⟩ ∧ Acc 16 h g y rows ∧ AllR Shard.RI h rows ((l.take i).flatMap Store.shards) fps) (fun i s hi ⟨y, g, rows, fps, hs, a, v⟩ => by
    subst hs
    have hle := w.le2
    have hlt : (i : Int) < l.length := by omega
    have hws := wrapS i (by omega)
    obtain ⟨r, f, hld, hR, _⟩ := w.one hi
    have hldg : ∀ j n, loadP g x.sid i j n = cut? r j n := fun j n => by
      rw [← hld]
      have := a.on.ext.2 x.sid (by rcases w with ⟨_, ⟨_, h2, _⟩ | ⟨id, _, _, rfl, _, q, _⟩⟩; (rw [h2] at hi; exact absurd hi (Nat.not_lt_zero _)); exact q)
      simp only [loadP, rowOf, this]
    obtain ⟨z, q, rfl, rfl, u⟩ := hR
    obtain ⟨rz, fz, h1, h2⟩ := u.rowsM
    have ug := u.on Shard.okI a.on
    obtain ⟨rz', fz', h1', h2'⟩ := ug.rowsM
    have hrr : rowsOf g z = some rz := by
      rcases u with ⟨_, ⟨rfl, _, _⟩ | ⟨id, rr, ff, rfl, q1, q2, _, _⟩⟩
      · rw [← h1]; rfl
      · rw [← h1]; simp only [rowsOf, a.on.ext.2 id q2]
    have b1 := flatMap_len Store.shards 8 (l.take i) fun s hs => (Store.good_all (hg s (List.mem_of_mem_take hs))).1
    have b2 := (Store.good_all (hg _ (List.getElem_mem hi))).1
    have b3 := v.len
    have b4 := h2.len
    have b5 : (l.take i).length ≤ 40 := by rw [List.length_take]; omega
    have ce := a.cat_eq (bytes := 80) (y := z) (new := rz) hf u.isTag hrr (by omega)
    have ac := a.cat (new := rz) hf (by omega)
    have hxi := w.idx hi
    rw [loop_run]
    conv in (codeF _ _ r172L1 _) => unfold r172L1
    simp only [run0, run1, run2, run3, run4, noSlot, memN, RO.dst, lk, drop, forget, number, Nat.reduceBEq, cut?, splice?, builds, List.length_cons, List.length_nil, List.drop_succ_cons, List.drop_zero, List.take_succ_cons, List.take_zero, List.cons_append, List.nil_append, List.append_nil, List.drop_nil, List.take_nil, Nat.reduceAdd, Nat.reduceLeDiff, Nat.zero_add, Nat.add_zero, ↓reduceIte, Bool.not_true, Bool.not_false, decide_true, decide_false, eq_self, bne_self_eq_false, List.getElem?_cons_zero, List.getElem?_cons_succ, decide_eq_true_eq, Bool.false_eq_true, Bool.true_eq_false, reduceCtorEq, Nat.le_refl, hlt, hxi, hldg, ce, hws]
    exact ⟨_, ⟨_, _, _, _, rfl, ac, by rw [flatMap_take _ _ hi]; exact v.app h2⟩, rfl⟩) (s := ⟨[(4, .c y0), (19, .c x), (20, .c (.int .i64 (l.length : Nat))), (21, .c (.int .i64 (0 : Nat)))], [], [], h'⟩) ⟨y0, h', [], [], rfl, a0, by simp; trivial⟩
  subst hs
  rw [List.take_length] at v
  exact ⟨y, g, rows, fps, l1, a, v⟩
end
end Go.Proofs.Ytlbagejkjkfkjaa.A
/- The sum of what is live, by the program. -/
namespace Go.Proofs.Ytlbagejkjkfkjaa.A
open Go
set_option linter.unusedSimpArgs false
set_option linter.unusedVariables false
section
variable {F : Nat → Option RF} {Z : CallF} {h : Heap} {x y : Cell} {l : List Store} {xs : List Shard} {fp fq : List Nat} {cs : List Cell}
set_option maxHeartbeats 1000000 in
theorem newer_run (q : KH F) (w : SlR 16 Shard.RI h x xs fp) (hf : h.floor ≤ h.next) (a : Shard) (u z : Cell) :
    call F Z 218 [.c x, .c (.fn 217 [(h.next, 0, 0)])] (h.push [a.cells u z]) = some (.c (.bool (xs.any a.newer)), h.push [a.cells u z]) := by
  have w' := w.on Shard.okI (On.push h [a.cells u z])
  have hl : ∀ j n, loadP (h.push [a.cells u z]) h.next 0 j n = cut? (a.cells u z) j n := fun j n => by simp [loadP, rowOf, push_get]
  generalize h.push [a.cells u z] = g at *
  simp only [Shard.cells] at hl
  have hr := indexShard_run (Z := Z) q.ls w' 217 [(h.next, 0, 0)] a.newer fun r t q' hR => by
    obtain ⟨x1, p1, x2, p2, rfl, _⟩ := hR
    simp only [run0, run1, run2, run3, run4, noSlot, memN, RO.dst, lk, drop, forget, number, Nat.reduceBEq, cut?, splice?, builds, List.length_cons, List.length_nil, List.drop_succ_cons, List.drop_zero, List.take_succ_cons, List.take_zero, List.cons_append, List.nil_append, List.append_nil, List.drop_nil, List.take_nil, Nat.reduceAdd, Nat.reduceLeDiff, Nat.zero_add, Nat.add_zero, ↓reduceIte, Bool.not_true, Bool.not_false, decide_true, decide_false, eq_self, bne_self_eq_false, List.getElem?_cons_zero, List.getElem?_cons_succ, decide_eq_true_eq, Bool.false_eq_true, Bool.true_eq_false, reduceCtorEq, Nat.le_refl, capV_cons]
    rw [call_run F Z (q.i15.lk (g := 217) rfl) _ _ rfl]
    simp only [run0, run1, run2, run3, run4, noSlot, memN, RO.dst, lk, drop, forget, number, Nat.reduceBEq, cut?, splice?, builds, List.length_cons, List.length_nil, List.drop_succ_cons, List.drop_zero, List.take_succ_cons, List.take_zero, List.cons_append, List.nil_append, List.append_nil, List.drop_nil, List.take_nil, Nat.reduceAdd, Nat.reduceLeDiff, Nat.zero_add, Nat.add_zero, ↓reduceIte, Bool.not_true, Bool.not_false, decide_true, decide_false, eq_self, bne_self_eq_false, List.getElem?_cons_zero, List.getElem?_cons_succ, decide_eq_true_eq, Bool.false_eq_true, Bool.true_eq_false, reduceCtorEq, Nat.le_refl, hl]
    have hd : a.newer t = (decide (t.epoch > a.epoch) && (decide (t.lo ≤ a.hi) && decide (a.lo ≤ t.hi))) := rfl
    (repeat' ((first | (rw [gF_if]; split) | (rw [condC_if]; split) | (rw [pickR_if]; split)) <;> (rename_i hh; (try simp only [Bool.not_eq_true, decide_eq_true_eq] at hh); simp only [hh, run0, run1, run2, run3, run4, noSlot, memN, RO.dst, lk, drop, forget, number, Nat.reduceBEq, cut?, splice?, builds, List.length_cons, List.length_nil, List.drop_succ_cons, List.drop_zero, List.take_succ_cons, List.take_zero, List.cons_append, List.nil_append, List.append_nil, List.drop_nil, List.take_nil, Nat.reduceAdd, Nat.reduceLeDiff, Nat.zero_add, Nat.add_zero, ↓reduceIte, Bool.not_true, Bool.not_false, decide_true, decide_false, eq_self, bne_self_eq_false, List.getElem?_cons_zero, List.getElem?_cons_succ, decide_eq_true_eq, Bool.false_eq_true, Bool.true_eq_false, reduceCtorEq, Nat.le_refl, hl]))) <;> (clear hl w w'; simp_all)
  rw [call_run F Z (q.lcs.lk (g := 218) rfl) _ _ rfl]
  simp only [run0, run1, run2, run3, run4, noSlot, memN, RO.dst, lk, drop, forget, number, Nat.reduceBEq, cut?, splice?, builds, List.length_cons, List.length_nil, List.drop_succ_cons, List.drop_zero, List.take_succ_cons, List.take_zero, List.cons_append, List.nil_append, List.append_nil, List.drop_nil, List.take_nil, Nat.reduceAdd, Nat.reduceLeDiff, Nat.zero_add, Nat.add_zero, ↓reduceIte, Bool.not_true, Bool.not_false, decide_true, decide_false, eq_self, bne_self_eq_false, List.getElem?_cons_zero, List.getElem?_cons_succ, decide_eq_true_eq, Bool.false_eq_true, Bool.true_eq_false, reduceCtorEq, Nat.le_refl, hr, findI_any]
set_option maxHeartbeats 2000000 in
theorem LiveTotal_turn (k : KI F) (q : KH F) (w : SlR 16 Shard.RI h y xs fp) (hf : h.floor ≤ h.next) (ok : ∀ t, t ∈ xs → t.Ok ∧ t.good = true) (hn : xs.length ≤ 320) (i : Nat) (hi : i < xs.length) :
    ∃ g, loop F Z [4, 7, 8, 30, 31, 32] r172L0 ⟨[(4, .c y), (7, .c (.int .u64 (wHi (sumI (liveOf xs) (xs.take i))))), (8, .c (.int .u64 (wLo (sumI (liveOf xs) (xs.take i))))), (30, .c y), (31, .c (.int .i64 (xs.length : Nat))), (32, .c (.int .i64 (i : Nat)))], [], [], h⟩
      = loop F Z [4, 7, 8, 30, 31, 32] r172L0 ⟨[(4, .c y), (7, .c (.int .u64 (wHi (sumI (liveOf xs) (xs.take (i + 1)))))), (8, .c (.int .u64 (wLo (sumI (liveOf xs) (xs.take (i + 1)))))), (30, .c y), (31, .c (.int .i64 (xs.length : Nat))), (32, .c (.int .i64 ((i + 1 : Nat) : Int)))], [], [], g⟩ ∧ On h g := by
  have hle := w.le2
  have hlt : (i : Int) < xs.length := by omega
  have hws := wrapS i (by omega)
  have hxi := w.idx hi
  obtain ⟨aok, agd⟩ := ok _ (List.getElem_mem hi)
  obtain ⟨r, f, hld, hR, _⟩ := w.one hi
  obtain ⟨x1, p1, x2, p2, rfl, rfl, w1, w2⟩ := hR
  have hnw := newer_run (Z := Z) q w hf xs[i] x1 x2
  have st : storeP (h.push [[.int .u64 0, .int .u64 0, .int .i64 0, .int .i64 0, .nil, .nil]]) h.next 0 0 (xs[i].cells x1 x2) = some (h.push [xs[i].cells x1 x2]) := storeP_push (rows := [[.int .u64 0, .int .u64 0, .int .i64 0, .int .i64 0, .nil, .nil]]) (i := 0) hf rfl rfl
  have hl : ∀ j n, loadP (h.push [xs[i].cells x1 x2]) h.next 0 j n = cut? (xs[i].cells x1 x2) j n := fun j n => by simp [loadP, rowOf, push_get]
  have ht : sumI (liveOf xs) (xs.take (i + 1)) = sumI (liveOf xs) (xs.take i) + liveOf xs xs[i] := sumI_take _ xs hi
  have hT := sumI_take_le (liveOf xs) (m := 737869762948382064600) (by omega) xs (fun a ha => liveOf_le (ok a ha).1 (ok a ha).2) i
  refine ⟨h.push [xs[i].cells x1 x2], ?_, On.push _ _⟩
  rw [ht]
  have hdef : liveOf xs xs[i] = bif xs.any xs[i].newer then 0 else xs[i].money := rfl
  generalize hnn : xs.any xs[i].newer = nn at *
  cases nn with
  | true =>
    have h0 : liveOf xs xs[i] = 0 := hdef
    rw [h0, Int.add_zero]
    simp only [Shard.cells] at hnw st hl
    clear w w1 w2 aok agd ok ht hT h0 hdef
    generalize xs[i] = a at *
    rw [loop_run]
    conv in (codeF _ _ r172L0 _) => unfold r172L0
    simp only [run0, run1, run2, run3, run4, noSlot, memN, RO.dst, lk, drop, forget, number, Nat.reduceBEq, cut?, splice?, builds, List.length_cons, List.length_nil, List.drop_succ_cons, List.drop_zero, List.take_succ_cons, List.take_zero, List.cons_append, List.nil_append, List.append_nil, List.drop_nil, List.take_nil, Nat.reduceAdd, Nat.reduceLeDiff, Nat.zero_add, Nat.add_zero, ↓reduceIte, Bool.not_true, Bool.not_false, decide_true, decide_false, eq_self, bne_self_eq_false, List.getElem?_cons_zero, List.getElem?_cons_succ, decide_eq_true_eq, Bool.false_eq_true, Bool.true_eq_false, reduceCtorEq, Nat.le_refl, hlt, hxi, hld, st, hnw, hws, evPtrs, Shard.cells]
  | false =>
    have h0 : liveOf xs xs[i] = xs[i].money := hdef
    rw [h0]
    have ml := Shard.money_le aok agd
    obtain ⟨b1, b2⟩ := Account.money_ok aok.book.list (Shard.good_book agd)
    have hc := totalOf_run (Z := Z) k.i10 (w1.on (Fl.ok _) (On.push h [xs[i].cells x1 x2])) aok.book.list b1 b2
    change _ = some (V.tup [.c (.int .u64 (wHi xs[i].money)), .c (.int .u64 (wLo xs[i].money))], _) at hc
    simp only [Shard.cells] at hnw st hl hc
    clear w w1 w2 b1 b2 agd aok ok ht h0 hdef
    generalize sumI (liveOf xs) (xs.take i) = T at *
    generalize xs[i] = a at *
    generalize a.money = M at *
    have e1 : (wLo T + wLo M + 0) % 18446744073709551616 = wLo (T + M) := by simp only [wLo]; omega
    have e2 : IntKind.u64.wrap (wHi T + IntKind.u64.wrap (wHi M + (wLo T + wLo M + 0) / 18446744073709551616)) = wHi (T + M) := by
      simp only [wHi, wLo]
      rw [wrapU (M / 18446744073709551616 + _) (by omega) (by omega), wrapU _ (by omega) (by omega)]; omega
    have c1 : 0 ≤ wLo T := by simp only [wLo]; omega
    have c2 : 0 ≤ wLo M := by simp only [wLo]; omega
    have c3 : (0 : Int) ≤ 1 := by omega
    rw [loop_run]
    conv in (codeF _ _ r172L0 _) => unfold r172L0
    simp only [run0, run1, run2, run3, run4, noSlot, memN, RO.dst, lk, drop, forget, number, Nat.reduceBEq, cut?, splice?, builds, List.length_cons, List.length_nil, List.drop_succ_cons, List.drop_zero, List.take_succ_cons, List.take_zero, List.cons_append, List.nil_append, List.append_nil, List.drop_nil, List.take_nil, Nat.reduceAdd, Nat.reduceLeDiff, Nat.zero_add, Nat.add_zero, ↓reduceIte, Bool.not_true, Bool.not_false, decide_true, decide_false, eq_self, bne_self_eq_false, List.getElem?_cons_zero, List.getElem?_cons_succ, decide_eq_true_eq, Bool.false_eq_true, Bool.true_eq_false, reduceCtorEq, Nat.le_refl, hlt, hxi, hld, st, hnw, evPtrs, hl, hc, e1, e2, c1, c2, c3, Int.le_refl, and_self, hws, Shard.cells]
theorem LiveTotal_c (k : KI F) (q : KH F) (hf : h.floor ≤ h.next) (w : SlR 18 Store.RI h x l fp) (ok : ∀ a, a ∈ l → a.Ok) :
    ∃ h', call F Z 172 [.c x] h = some (.tup [.c (.int .u64 (liveTotal l).1), .c (.int .u64 (liveTotal l).2)], h') ∧ On h h' := by
  obtain ⟨h1, e1, o1⟩ := areStores_run (Z := Z) k q w ok
  have hf1 := o1.le hf
  have w1 := w.on Store.okI o1
  rw [call_run F Z (q.i15.lk (g := 172) rfl) _ _ rfl]
  have hdef : liveTotal l = bif areStores l then (wHi (sumI (liveOf (l.flatMap Store.shards)) (l.flatMap Store.shards)), wLo (sumI (liveOf (l.flatMap Store.shards)) (l.flatMap Store.shards))) else (0, 0) := rfl
  cases ha : areStores l with
  | false =>
    rw [ha] at e1
    simp only [run0, run1, run2, run3, run4, noSlot, memN, RO.dst, lk, drop, forget, number, Nat.reduceBEq, cut?, splice?, builds, List.length_cons, List.length_nil, List.drop_succ_cons, List.drop_zero, List.take_succ_cons, List.take_zero, List.cons_append, List.nil_append, List.append_nil, List.drop_nil, List.take_nil, Nat.reduceAdd, Nat.reduceLeDiff, Nat.zero_add, Nat.add_zero, ↓reduceIte, Bool.not_true, Bool.not_false, decide_true, decide_false, eq_self, bne_self_eq_false, List.getElem?_cons_zero, List.getElem?_cons_succ, decide_eq_true_eq, Bool.false_eq_true, Bool.true_eq_false, reduceCtorEq, Nat.le_refl, e1]
    exact ⟨_, by rw [hdef, ha]; rfl, o1⟩
  | true =>
    rw [ha] at e1
    obtain ⟨hl, hg⟩ := areStores_all ha
    obtain ⟨hn, hok⟩ := allShards_ok ha ok
    obtain ⟨y, g, rows, fps, lp, a, v⟩ := LiveTotal_all (F := F) (Z := Z) hf1 w1 hl hg (Acc.lit0 (tag := 16) (On.refl h1))
    obtain ⟨fy, wy⟩ := a.shows Shard.okI v
    have hfg := a.on.le hf1
    rw [hdef, ha]
    generalize l.flatMap Store.shards = xs at *
    obtain ⟨s', ⟨g', hs, og⟩, l2⟩ := loop_goes (F := F) (Z := Z) (live := [4, 7, 8, 30, 31, 32]) (b := r172L0) xs.length (fun i s => ∃ g', s = ⟨[(4, .c y), (7, .c (.int .u64 (wHi (sumI (liveOf xs) (xs.take i))))), (8, .c (.int .u64 (wLo (sumI (liveOf xs) (xs.take i))))), (30, .c y), (31, .c (.int .i64 (xs.length : Nat))), (32, .c (.int .i64 (i : Nat)))], [], [], g'⟩ ∧ On g g') (fun i s hi ⟨g', hs, og⟩ => by
      subst hs
      obtain ⟨g2, e2, o2⟩ := LiveTotal_turn (Z := Z) k q (wy.on Shard.okI og) (og.le hfg) hok hn i hi
      exact ⟨_, ⟨g2, rfl, og.trans o2⟩, e2⟩) (s := ⟨[(4, .c y), (7, .c (.int .u64 0)), (8, .c (.int .u64 0)), (30, .c y), (31, .c (.int .i64 (xs.length : Nat))), (32, .c (.int .i64 (0 : Nat)))], [], [], g⟩) ⟨g, rfl, On.refl g⟩
    subst hs
    simp only [show ((0 : Nat) : Int) = 0 from rfl, List.take_length] at l2 lp
    have hlt : ¬ (l.length : Int) < l.length := by omega
    have hlt2 : ¬ (xs.length : Int) < xs.length := by omega
    have hwl := w.len
    have hyl := wy.len
    simp only [run0, run1, run2, run3, run4, noSlot, memN, RO.dst, lk, drop, forget, number, Nat.reduceBEq, cut?, splice?, builds, List.length_cons, List.length_nil, List.drop_succ_cons, List.drop_zero, List.take_succ_cons, List.take_zero, List.cons_append, List.nil_append, List.append_nil, List.drop_nil, List.take_nil, Nat.reduceAdd, Nat.reduceLeDiff, Nat.zero_add, Nat.add_zero, ↓reduceIte, Bool.not_true, Bool.not_false, decide_true, decide_false, eq_self, bne_self_eq_false, List.getElem?_cons_zero, List.getElem?_cons_succ, decide_eq_true_eq, Bool.false_eq_true, Bool.true_eq_false, reduceCtorEq, Nat.le_refl, e1, List.replicate_zero, fills, hwl, lp]
    rw [loop_run]
    conv in (codeF _ _ r172L1 _) => unfold r172L1
    simp only [run0, run1, run2, run3, run4, noSlot, memN, RO.dst, lk, drop, forget, number, Nat.reduceBEq, cut?, splice?, builds, List.length_cons, List.length_nil, List.drop_succ_cons, List.drop_zero, List.take_succ_cons, List.take_zero, List.cons_append, List.nil_append, List.append_nil, List.drop_nil, List.take_nil, Nat.reduceAdd, Nat.reduceLeDiff, Nat.zero_add, Nat.add_zero, ↓reduceIte, Bool.not_true, Bool.not_false, decide_true, decide_false, eq_self, bne_self_eq_false, List.getElem?_cons_zero, List.getElem?_cons_succ, decide_eq_true_eq, Bool.false_eq_true, Bool.true_eq_false, reduceCtorEq, Nat.le_refl, hlt, hyl, l2]
    rw [loop_run]
    conv in (codeF _ _ r172L0 _) => unfold r172L0
    simp only [run0, run1, run2, run3, run4, noSlot, memN, RO.dst, lk, drop, forget, number, Nat.reduceBEq, cut?, splice?, builds, List.length_cons, List.length_nil, List.drop_succ_cons, List.drop_zero, List.take_succ_cons, List.take_zero, List.cons_append, List.nil_append, List.append_nil, List.drop_nil, List.take_nil, Nat.reduceAdd, Nat.reduceLeDiff, Nat.zero_add, Nat.add_zero, ↓reduceIte, Bool.not_true, Bool.not_false, decide_true, decide_false, eq_self, bne_self_eq_false, List.getElem?_cons_zero, List.getElem?_cons_succ, decide_eq_true_eq, Bool.false_eq_true, Bool.true_eq_false, reduceCtorEq, Nat.le_refl, hlt2]
    exact ⟨_, rfl, (o1.trans a.on).trans og⟩
end
end Go.Proofs.Ytlbagejkjkfkjaa.A
/- The sum of what is live, by the reference. -/
namespace Go.Proofs.Ytlbagejkjkfkjaa.A
open Go
set_option linter.unusedSimpArgs false
set_option linter.unusedVariables false
section
variable {F : Nat → Option RF} {Z : CallF} {h : Heap} {x y : Cell} {l : List Store} {xs : List Shard} {fp fq : List Nat} {cs : List Cell}
theorem l15All_run (k : KS F) (hS15 : Has F tS15) (w : SlR 18 Store.RI h x l fp) (ok : ∀ a, a ∈ l → a.Ok) : call F Z 214 [.c x] h = some (.c (.bool (areStores l)), h) := by
  have hle := w.le2
  have hwl := w.len
  rw [call_run F Z (hS15.lk (g := 214) rfl) _ _ rfl]
  simp only [run0, run1, run2, run3, run4, noSlot, memN, RO.dst, lk, drop, forget, number, Nat.reduceBEq, cut?, splice?, builds, List.length_cons, List.length_nil, List.drop_succ_cons, List.drop_zero, List.take_succ_cons, List.take_zero, List.cons_append, List.nil_append, List.append_nil, List.drop_nil, List.take_nil, Nat.reduceAdd, Nat.reduceLeDiff, Nat.zero_add, Nat.add_zero, ↓reduceIte, Bool.not_true, Bool.not_false, decide_true, decide_false, eq_self, bne_self_eq_false, List.getElem?_cons_zero, List.getElem?_cons_succ, decide_eq_true_eq, Bool.false_eq_true, Bool.true_eq_false, reduceCtorEq, Nat.le_refl]
  by_cases hl : (l.length : Int) ≤ 40
  · have key := loop_all (F := F) (Z := Z) (live := [0, 3]) (b := r214L0) l (fun i => ⟨[(0, .c x), (3, .c (.int .i64 (i : Nat)))], [], [], h⟩) Store.good (fun s => lk s.env 2 = some (.c (.bool false)) ∧ s.hp = h) fun i hi => by
      have hlt : (i : Int) < l.length := by omega
      have hws := wrapS i (by omega)
      obtain ⟨r, f, hld, hR, _⟩ := w.one hi
      obtain ⟨r1, r2, r3⟩ := Store.lenI hR
      have hxi := w.idx hi
      have e := sStoreOk_run (Z := Z) k hR (ok _ (List.getElem_mem hi))
      clear hR w
      rw [loop_run]
      conv in (codeF _ _ r214L0 _) => unfold r214L0
      simp only [run0, run1, run2, run3, run4, noSlot, memN, RO.dst, lk, drop, forget, number, Nat.reduceBEq, cut?, splice?, builds, List.length_cons, List.length_nil, List.drop_succ_cons, List.drop_zero, List.take_succ_cons, List.take_zero, List.cons_append, List.nil_append, List.append_nil, List.drop_nil, List.take_nil, Nat.reduceAdd, Nat.reduceLeDiff, Nat.zero_add, Nat.add_zero, ↓reduceIte, Bool.not_true, Bool.not_false, decide_true, decide_false, eq_self, bne_self_eq_false, List.getElem?_cons_zero, List.getElem?_cons_succ, decide_eq_true_eq, Bool.false_eq_true, Bool.true_eq_false, reduceCtorEq, Nat.le_refl, hwl, hlt, hl, hxi, hld, r1, r2, r3, e]
      generalize l[i].good = gd at *
      cases gd with
      | false => exact .inr ⟨rfl, _, rfl, rfl, rfl⟩
      | true =>
        simp only [run0, run1, run2, run3, run4, noSlot, memN, RO.dst, lk, drop, forget, number, Nat.reduceBEq, cut?, splice?, builds, List.length_cons, List.length_nil, List.drop_succ_cons, List.drop_zero, List.take_succ_cons, List.take_zero, List.cons_append, List.nil_append, List.append_nil, List.drop_nil, List.take_nil, Nat.reduceAdd, Nat.reduceLeDiff, Nat.zero_add, Nat.add_zero, ↓reduceIte, Bool.not_true, Bool.not_false, decide_true, decide_false, eq_self, bne_self_eq_false, List.getElem?_cons_zero, List.getElem?_cons_succ, decide_eq_true_eq, Bool.false_eq_true, Bool.true_eq_false, reduceCtorEq, Nat.le_refl, hws]
        exact .inl ⟨rfl, rfl⟩
    have hlt : ¬ (l.length : Int) < l.length := by omega
    have ha : areStores l = l.all Store.good := by simp only [areStores, hl, decide_true, Bool.true_and]
    rw [ha]
    simp only [show ((0 : Nat) : Int) = 0 from rfl] at key
    rcases key with ⟨k1, k2⟩ | ⟨k1, s, k2, k3, k4⟩
    · rw [k2, loop_run]
      conv in (codeF _ _ r214L0 _) => unfold r214L0
      simp only [run0, run1, run2, run3, run4, noSlot, memN, RO.dst, lk, drop, forget, number, Nat.reduceBEq, cut?, splice?, builds, List.length_cons, List.length_nil, List.drop_succ_cons, List.drop_zero, List.take_succ_cons, List.take_zero, List.cons_append, List.nil_append, List.append_nil, List.drop_nil, List.take_nil, Nat.reduceAdd, Nat.reduceLeDiff, Nat.zero_add, Nat.add_zero, ↓reduceIte, Bool.not_true, Bool.not_false, decide_true, decide_false, eq_self, bne_self_eq_false, List.getElem?_cons_zero, List.getElem?_cons_succ, decide_eq_true_eq, Bool.false_eq_true, Bool.true_eq_false, reduceCtorEq, Nat.le_refl, hwl, hlt, hl, k1]
    · rw [k2]
      simp only [run0, run1, run2, run3, run4, noSlot, memN, RO.dst, lk, drop, forget, number, Nat.reduceBEq, cut?, splice?, builds, List.length_cons, List.length_nil, List.drop_succ_cons, List.drop_zero, List.take_succ_cons, List.take_zero, List.cons_append, List.nil_append, List.append_nil, List.drop_nil, List.take_nil, Nat.reduceAdd, Nat.reduceLeDiff, Nat.zero_add, Nat.add_zero, ↓reduceIte, Bool.not_true, Bool.not_false, decide_true, decide_false, eq_self, bne_self_eq_false, List.getElem?_cons_zero, List.getElem?_cons_succ, decide_eq_true_eq, Bool.false_eq_true, Bool.true_eq_false, reduceCtorEq, Nat.le_refl, k3, k4, k1]
  · have ha : areStores l = false := by simp [areStores, hl]
    rw [loop_run]
    conv in (codeF _ _ r214L0 _) => unfold r214L0
    simp only [run0, run1, run2, run3, run4, noSlot, memN, RO.dst, lk, drop, forget, number, Nat.reduceBEq, cut?, splice?, builds, List.length_cons, List.length_nil, List.drop_succ_cons, List.drop_zero, List.take_succ_cons, List.take_zero, List.cons_append, List.nil_append, List.append_nil, List.drop_nil, List.take_nil, Nat.reduceAdd, Nat.reduceLeDiff, Nat.zero_add, Nat.add_zero, ↓reduceIte, Bool.not_true, Bool.not_false, decide_true, decide_false, eq_self, bne_self_eq_false, List.getElem?_cons_zero, List.getElem?_cons_succ, decide_eq_true_eq, Bool.false_eq_true, Bool.true_eq_false, reduceCtorEq, Nat.le_refl, hwl, hl]
    by_cases c : (0 : Int) < l.length
    · simp only [run0, run1, run2, run3, run4, noSlot, memN, RO.dst, lk, drop, forget, number, Nat.reduceBEq, cut?, splice?, builds, List.length_cons, List.length_nil, List.drop_succ_cons, List.drop_zero, List.take_succ_cons, List.take_zero, List.cons_append, List.nil_append, List.append_nil, List.drop_nil, List.take_nil, Nat.reduceAdd, Nat.reduceLeDiff, Nat.zero_add, Nat.add_zero, ↓reduceIte, Bool.not_true, Bool.not_false, decide_true, decide_false, eq_self, bne_self_eq_false, List.getElem?_cons_zero, List.getElem?_cons_succ, decide_eq_true_eq, Bool.false_eq_true, Bool.true_eq_false, reduceCtorEq, Nat.le_refl, c, hwl, hl, ha]
    · exfalso; omega
/-- Where a store lies in a list of them, and its shards. -/
theorem SlR.storeAt (w : SlR 18 Store.RI h x l fp) {i : Nat} (hi : i < l.length) : ∃ z fz, (∀ j n, loadP h x.sid i j n = cut? [.int .i64 l[i].group, .int .i64 l[i].seen, z] j n) ∧ SlR 16 Shard.RI h z l[i].shards fz := by
  obtain ⟨r, f, hld, hR, _⟩ := w.one hi
  obtain ⟨z, p, rfl, rfl, u⟩ := hR
  exact ⟨z, _, hld, u⟩
set_option maxHeartbeats 1000000 in
theorem l15Newest_in (w : SlR 18 Store.RI h x l fp) {i : Nat} (hi : i < l.length) (a : Shard) (u v : Cell) :
    Turn (loop F Z [0, 3, 5, 6] r215L0 ⟨[(0, .c x), (5, .c (.int .i64 (i : Nat))), (6, .c (.int .i64 (0 : Nat)))], [(3, 3, 0)], [(3, a.cells u v)], h⟩)
      (loop F Z [0, 3, 5, 6] r215L0 ⟨[(0, .c x), (5, .c (.int .i64 (i : Nat))), (6, .c (.int .i64 (l[i].shards.length : Nat)))], [(3, 3, 0)], [(3, a.cells u v)], h⟩) (l[i].shards.all fun y => !a.newer y) (fun s => lk s.env 4 = some (.c (.bool false)) ∧ s.hp = h) := by
  obtain ⟨z, fz, hld, wz⟩ := w.storeAt hi
  have hxi := w.idx hi
  have hzl := wz.len
  refine loop_all (F := F) (Z := Z) (live := [0, 3, 5, 6]) (b := r215L0) l[i].shards (fun j => ⟨[(0, .c x), (5, .c (.int .i64 (i : Nat))), (6, .c (.int .i64 (j : Nat)))], [(3, 3, 0)], [(3, a.cells u v)], h⟩) (fun y => !a.newer y) _ fun j hj => ?_
  have hle := wz.le2
  have hlt : (j : Int) < l[i].shards.length := by omega
  have hws := wrapS j (by omega)
  have hzj := wz.idx hj
  obtain ⟨r, f, hl2, hR, _⟩ := wz.one hj
  obtain ⟨x1, p1, x2, p2, rfl, _⟩ := hR
  have hd : a.newer l[i].shards[j] = (decide (l[i].shards[j].epoch > a.epoch) && (decide (l[i].shards[j].lo ≤ a.hi) && decide (a.lo ≤ l[i].shards[j].hi))) := rfl
  clear w wz
  generalize a.newer l[i].shards[j] = nw at *
  generalize l[i].shards[j] = b at *
  simp only [Shard.cells]
  rw [loop_run]
  conv in (codeF _ _ r215L0 _) => unfold r215L0
  simp only [run0, run1, run2, run3, run4, noSlot, memN, RO.dst, lk, drop, forget, number, Nat.reduceBEq, cut?, splice?, builds, List.length_cons, List.length_nil, List.drop_succ_cons, List.drop_zero, List.take_succ_cons, List.take_zero, List.cons_append, List.nil_append, List.append_nil, List.drop_nil, List.take_nil, Nat.reduceAdd, Nat.reduceLeDiff, Nat.zero_add, Nat.add_zero, ↓reduceIte, Bool.not_true, Bool.not_false, decide_true, decide_false, eq_self, bne_self_eq_false, List.getElem?_cons_zero, List.getElem?_cons_succ, decide_eq_true_eq, Bool.false_eq_true, Bool.true_eq_false, reduceCtorEq, Nat.le_refl, hxi, hld, hzl, hlt, hzj, hl2]
  clear hxi hld hzj hl2 hzl
  (repeat' ((first | (rw [gF_if]; split) | (rw [condC_if]; split) | (rw [pickR_if]; split)) <;> (rename_i hh; (try simp only [Bool.not_eq_true, decide_eq_true_eq] at hh); simp only [hh, run0, run1, run2, run3, run4, noSlot, memN, RO.dst, lk, drop, forget, number, Nat.reduceBEq, cut?, splice?, builds, List.length_cons, List.length_nil, List.drop_succ_cons, List.drop_zero, List.take_succ_cons, List.take_zero, List.cons_append, List.nil_append, List.append_nil, List.drop_nil, List.take_nil, Nat.reduceAdd, Nat.reduceLeDiff, Nat.zero_add, Nat.add_zero, ↓reduceIte, Bool.not_true, Bool.not_false, decide_true, decide_false, eq_self, bne_self_eq_false, List.getElem?_cons_zero, List.getElem?_cons_succ, decide_eq_true_eq, Bool.false_eq_true, Bool.true_eq_false, reduceCtorEq, Nat.le_refl, hws]))) <;> first
    | exact .inl ⟨by simp_all, rfl⟩
    | exact .inr ⟨by simp_all, _, rfl, rfl, rfl⟩
theorem l15Newest_run (hS15 : Has F tS15) (w : SlR 18 Store.RI h x l fp) (a : Shard) (u v : Cell) :
    call F Z 215 [.c x, .agg (a.cells u v)] h = some (.c (.bool (!(l.flatMap Store.shards).any a.newer)), h) := by
  have hle := w.le2
  have hwl := w.len
  have hall : (!(l.flatMap Store.shards).any a.newer) = l.all fun s => s.shards.all fun y => !a.newer y := by
    rw [List.any_flatMap, List.not_any_eq_all_not]
    congr 1; funext s; rw [List.not_any_eq_all_not]
  rw [hall]
  have key := loop_all (F := F) (Z := Z) (live := [0, 3, 5]) (b := r215L1) l (fun i => ⟨[(0, .c x), (5, .c (.int .i64 (i : Nat)))], [(3, 3, 0)], [(3, a.cells u v)], h⟩) (fun s => s.shards.all fun y => !a.newer y) (fun s => lk s.env 4 = some (.c (.bool false)) ∧ s.hp = h) fun i hi => by
    have hlt : (i : Int) < l.length := by omega
    have hws := wrapS i (by omega)
    have ki := l15Newest_in (F := F) (Z := Z) w hi a u v
    obtain ⟨z, fz, hld, wz⟩ := w.storeAt hi
    have hxi := w.idx hi
    have hzl := wz.len
    have hlt2 : ¬ (l[i].shards.length : Int) < l[i].shards.length := by omega
    clear w wz
    simp only [show ((0 : Nat) : Int) = 0 from rfl, Shard.cells] at ki ⊢
    rw [loop_run]
    conv in (codeF _ _ r215L1 _) => unfold r215L1
    simp only [run0, run1, run2, run3, run4, noSlot, memN, RO.dst, lk, drop, forget, number, Nat.reduceBEq, cut?, splice?, builds, List.length_cons, List.length_nil, List.drop_succ_cons, List.drop_zero, List.take_succ_cons, List.take_zero, List.cons_append, List.nil_append, List.append_nil, List.drop_nil, List.take_nil, Nat.reduceAdd, Nat.reduceLeDiff, Nat.zero_add, Nat.add_zero, ↓reduceIte, Bool.not_true, Bool.not_false, decide_true, decide_false, eq_self, bne_self_eq_false, List.getElem?_cons_zero, List.getElem?_cons_succ, decide_eq_true_eq, Bool.false_eq_true, Bool.true_eq_false, reduceCtorEq, Nat.le_refl, hwl, hlt]
    rcases ki with ⟨k1, k2⟩ | ⟨k1, s, k2, k3, k4⟩
    · rw [k2, loop_run]
      conv in (codeF _ _ r215L0 _) => unfold r215L0
      simp only [run0, run1, run2, run3, run4, noSlot, memN, RO.dst, lk, drop, forget, number, Nat.reduceBEq, cut?, splice?, builds, List.length_cons, List.length_nil, List.drop_succ_cons, List.drop_zero, List.take_succ_cons, List.take_zero, List.cons_append, List.nil_append, List.append_nil, List.drop_nil, List.take_nil, Nat.reduceAdd, Nat.reduceLeDiff, Nat.zero_add, Nat.add_zero, ↓reduceIte, Bool.not_true, Bool.not_false, decide_true, decide_false, eq_self, bne_self_eq_false, List.getElem?_cons_zero, List.getElem?_cons_succ, decide_eq_true_eq, Bool.false_eq_true, Bool.true_eq_false, reduceCtorEq, Nat.le_refl, hxi, hld, hzl, hlt2, hws]
      exact .inl ⟨k1, rfl⟩
    · rw [k2]
      simp only [run0, run1, run2, run3, run4, noSlot, memN, RO.dst, lk, drop, forget, number, Nat.reduceBEq, cut?, splice?, builds, List.length_cons, List.length_nil, List.drop_succ_cons, List.drop_zero, List.take_succ_cons, List.take_zero, List.cons_append, List.nil_append, List.append_nil, List.drop_nil, List.take_nil, Nat.reduceAdd, Nat.reduceLeDiff, Nat.zero_add, Nat.add_zero, ↓reduceIte, Bool.not_true, Bool.not_false, decide_true, decide_false, eq_self, bne_self_eq_false, List.getElem?_cons_zero, List.getElem?_cons_succ, decide_eq_true_eq, Bool.false_eq_true, Bool.true_eq_false, reduceCtorEq, Nat.le_refl]
      exact .inr ⟨k1, _, rfl, k3, k4⟩
  rw [call_run F Z (hS15.lk (g := 215) rfl) _ _ rfl]
  simp only [show ((0 : Nat) : Int) = 0 from rfl, Shard.cells] at key ⊢
  simp only [run0, run1, run2, run3, run4, noSlot, memN, RO.dst, lk, drop, forget, number, Nat.reduceBEq, cut?, splice?, builds, List.length_cons, List.length_nil, List.drop_succ_cons, List.drop_zero, List.take_succ_cons, List.take_zero, List.cons_append, List.nil_append, List.append_nil, List.drop_nil, List.take_nil, Nat.reduceAdd, Nat.reduceLeDiff, Nat.zero_add, Nat.add_zero, ↓reduceIte, Bool.not_true, Bool.not_false, decide_true, decide_false, eq_self, bne_self_eq_false, List.getElem?_cons_zero, List.getElem?_cons_succ, decide_eq_true_eq, Bool.false_eq_true, Bool.true_eq_false, reduceCtorEq, Nat.le_refl]
  have hlt : ¬ (l.length : Int) < l.length := by omega
  rcases key with ⟨k1, k2⟩ | ⟨k1, s, k2, k3, k4⟩
  · rw [k2, loop_run]
    conv in (codeF _ _ r215L1 _) => unfold r215L1
    simp only [run0, run1, run2, run3, run4, noSlot, memN, RO.dst, lk, drop, forget, number, Nat.reduceBEq, cut?, splice?, builds, List.length_cons, List.length_nil, List.drop_succ_cons, List.drop_zero, List.take_succ_cons, List.take_zero, List.cons_append, List.nil_append, List.append_nil, List.drop_nil, List.take_nil, Nat.reduceAdd, Nat.reduceLeDiff, Nat.zero_add, Nat.add_zero, ↓reduceIte, Bool.not_true, Bool.not_false, decide_true, decide_false, eq_self, bne_self_eq_false, List.getElem?_cons_zero, List.getElem?_cons_succ, decide_eq_true_eq, Bool.false_eq_true, Bool.true_eq_false, reduceCtorEq, Nat.le_refl, hwl, hlt, k1]
  · rw [k2]
    simp only [run0, run1, run2, run3, run4, noSlot, memN, RO.dst, lk, drop, forget, number, Nat.reduceBEq, cut?, splice?, builds, List.length_cons, List.length_nil, List.drop_succ_cons, List.drop_zero, List.take_succ_cons, List.take_zero, List.cons_append, List.nil_append, List.append_nil, List.drop_nil, List.take_nil, Nat.reduceAdd, Nat.reduceLeDiff, Nat.zero_add, Nat.add_zero, ↓reduceIte, Bool.not_true, Bool.not_false, decide_true, decide_false, eq_self, bne_self_eq_false, List.getElem?_cons_zero, List.getElem?_cons_succ, decide_eq_true_eq, Bool.false_eq_true, Bool.true_eq_false, reduceCtorEq, Nat.le_refl, k3, k4, k1]
/-- The sum behind so many stores, and so many shards of the next one. -/
def liveTo (l : List Store) (i j : Nat) : Int := sumI (liveOf (l.flatMap Store.shards)) ((l.take i).flatMap Store.shards ++ ((l[i]?.map Store.shards).getD []).take j)
theorem liveTo_next {l : List Store} {i j : Nat} (hi : i < l.length) (hj : j < l[i].shards.length) : liveTo l i (j + 1) = liveTo l i j + liveOf (l.flatMap Store.shards) l[i].shards[j] := by
  unfold liveTo
  rw [List.getElem?_eq_getElem hi, sumI_app, sumI_app]
  simp only [Option.map_some, Option.getD_some]
  rw [sumI_take _ _ hj]; omega
theorem liveTo_end {l : List Store} {i : Nat} (hi : i < l.length) : liveTo l i l[i].shards.length = liveTo l (i + 1) 0 := by
  unfold liveTo
  rw [List.getElem?_eq_getElem hi]
  simp only [Option.map_some, Option.getD_some, List.take_length, List.take_zero, List.append_nil]
  rw [flatMap_take _ _ hi]
theorem liveTo_all (l : List Store) : liveTo l l.length 0 = sumI (liveOf (l.flatMap Store.shards)) (l.flatMap Store.shards) := by
  unfold liveTo
  simp
theorem liveTo_le {l : List Store} (hn : (l.flatMap Store.shards).length ≤ 320) (ok : ∀ t, t ∈ l.flatMap Store.shards → t.Ok ∧ t.good = true) {i j : Nat} (hi : i < l.length) : 0 ≤ liveTo l i j ∧ liveTo l i j ≤ 236118324143482260672000 := by
  unfold liveTo
  have hsub : ∀ t, t ∈ (l.take i).flatMap Store.shards ++ ((l[i]?.map Store.shards).getD []).take j → t ∈ l.flatMap Store.shards := by
    intro t ht
    rcases List.mem_append.1 ht with ht | ht
    · obtain ⟨s, hs, hts⟩ := List.mem_flatMap.1 ht
      exact List.mem_flatMap.2 ⟨s, List.mem_of_mem_take hs, hts⟩
    · have ht := List.mem_of_mem_take ht
      rw [List.getElem?_eq_getElem hi] at ht
      exact List.mem_flatMap.2 ⟨_, List.getElem_mem hi, ht⟩
  have h1 := sumI_le (liveOf (l.flatMap Store.shards)) (m := 737869762948382064600) _ fun t ht => liveOf_le (all := l.flatMap Store.shards) (ok t (hsub t ht)).1 (ok t (hsub t ht)).2
  have h2 : ((l.take i).flatMap Store.shards ++ ((l[i]?.map Store.shards).getD []).take j).length ≤ (l.flatMap Store.shards).length := by
    have e : l.flatMap Store.shards = (l.take i).flatMap Store.shards ++ (l[i].shards ++ (l.drop (i + 1)).flatMap Store.shards) := by
      conv => lhs; rw [← List.take_append_drop i l, List.flatMap_append, List.drop_eq_getElem_cons hi, List.flatMap_cons]
    rw [List.getElem?_eq_getElem hi, e]
    simp only [Option.map_some, Option.getD_some, List.length_append, List.length_take]
    omega
  omega
set_option maxHeartbeats 2000000 in
theorem sLiveTotal_in (k : KS F) (hS15 : Has F tS15) (w : SlR 18 Store.RI h x l fp) (hn : (l.flatMap Store.shards).length ≤ 320) (ok : ∀ t, t ∈ l.flatMap Store.shards → t.Ok ∧ t.good = true) {i : Nat} (hi : i < l.length) {j : Nat} (hj : j < l[i].shards.length) :
    loop F Z [0, 4, 5, 6, 7] r171L0 ⟨[(0, .c x), (4, .c (.int .u64 (wHi (liveTo l i j)))), (5, .c (.int .u64 (wLo (liveTo l i j)))), (6, .c (.int .i64 (i : Nat))), (7, .c (.int .i64 (j : Nat)))], [], [], h⟩
      = loop F Z [0, 4, 5, 6, 7] r171L0 ⟨[(0, .c x), (4, .c (.int .u64 (wHi (liveTo l i (j + 1))))), (5, .c (.int .u64 (wLo (liveTo l i (j + 1))))), (6, .c (.int .i64 (i : Nat))), (7, .c (.int .i64 ((j + 1 : Nat) : Int)))], [], [], h⟩ := by
  obtain ⟨z, fz, hld, wz⟩ := w.storeAt hi
  have hxi := w.idx hi
  have hzl := wz.len
  have hle := wz.le2
  have hlt : (j : Int) < l[i].shards.length := by omega
  have hws := wrapS j (by omega)
  have hzj := wz.idx hj
  obtain ⟨r, f, hl2, hR, _⟩ := wz.one hj
  obtain ⟨x1, p1, x2, p2, rfl, rfl, w1, w2⟩ := hR
  have hnw := l15Newest_run (F := F) (Z := Z) hS15 w l[i].shards[j] x1 x2
  obtain ⟨aok, agd⟩ := ok l[i].shards[j] (List.mem_flatMap.2 ⟨_, List.getElem_mem hi, List.getElem_mem hj⟩)
  have hT := liveTo_le hn ok (j := j) hi
  have hadd := l13Add_run (Z := Z) (T := liveTo l i j) k w1 aok.book (Shard.good_book agd) hT.1 (by omega)
  change _ = some (V.tup [.c (.int .u64 (wHi (liveTo l i j + l[i].shards[j].money))), .c (.int .u64 (wLo (liveTo l i j + l[i].shards[j].money)))], _) at hadd
  rw [liveTo_next hi hj]
  have hdef : liveOf (l.flatMap Store.shards) l[i].shards[j] = bif (l.flatMap Store.shards).any l[i].shards[j].newer then 0 else l[i].shards[j].money := rfl
  simp only [Shard.cells] at hnw
  generalize (l.flatMap Store.shards).any l[i].shards[j].newer = nn at *
  rw [hdef]
  clear w wz w1 w2 aok agd ok hdef hT hn
  generalize liveTo l i j = T at *
  generalize l[i].shards[j] = a at *
  rw [loop_run]
  conv in (codeF _ _ r171L0 _) => unfold r171L0
  cases nn with
  | true => simp only [run0, run1, run2, run3, run4, noSlot, memN, RO.dst, lk, drop, forget, number, Nat.reduceBEq, cut?, splice?, builds, List.length_cons, List.length_nil, List.drop_succ_cons, List.drop_zero, List.take_succ_cons, List.take_zero, List.cons_append, List.nil_append, List.append_nil, List.drop_nil, List.take_nil, Nat.reduceAdd, Nat.reduceLeDiff, Nat.zero_add, Nat.add_zero, ↓reduceIte, Bool.not_true, Bool.not_false, decide_true, decide_false, eq_self, bne_self_eq_false, List.getElem?_cons_zero, List.getElem?_cons_succ, decide_eq_true_eq, Bool.false_eq_true, Bool.true_eq_false, reduceCtorEq, Nat.le_refl, hxi, hld, hzl, hlt, hzj, hl2, hnw, hws, Int.add_zero]
  | false => simp only [run0, run1, run2, run3, run4, noSlot, memN, RO.dst, lk, drop, forget, number, Nat.reduceBEq, cut?, splice?, builds, List.length_cons, List.length_nil, List.drop_succ_cons, List.drop_zero, List.take_succ_cons, List.take_zero, List.cons_append, List.nil_append, List.append_nil, List.drop_nil, List.take_nil, Nat.reduceAdd, Nat.reduceLeDiff, Nat.zero_add, Nat.add_zero, ↓reduceIte, Bool.not_true, Bool.not_false, decide_true, decide_false, eq_self, bne_self_eq_false, List.getElem?_cons_zero, List.getElem?_cons_succ, decide_eq_true_eq, Bool.false_eq_true, Bool.true_eq_false, reduceCtorEq, Nat.le_refl, hxi, hld, hzl, hlt, hzj, hl2, hnw, hadd, hws]
theorem sLiveTotal_run (k : KS F) (hS15 : Has F tS15) (w : SlR 18 Store.RI h x l fp) (ok : ∀ a, a ∈ l → a.Ok) :
    call F Z 171 [.c x] h = some (.tup [.c (.int .u64 (liveTotal l).1), .c (.int .u64 (liveTotal l).2)], h) := by
  have e1 := l15All_run (Z := Z) k hS15 w ok
  have hle := w.le2
  have hwl := w.len
  rw [call_run F Z (hS15.lk (g := 171) rfl) _ _ rfl]
  have hdef : liveTotal l = bif areStores l then (wHi (sumI (liveOf (l.flatMap Store.shards)) (l.flatMap Store.shards)), wLo (sumI (liveOf (l.flatMap Store.shards)) (l.flatMap Store.shards))) else (0, 0) := rfl
  cases ha : areStores l with
  | false =>
    rw [ha] at e1
    simp only [run0, run1, run2, run3, run4, noSlot, memN, RO.dst, lk, drop, forget, number, Nat.reduceBEq, cut?, splice?, builds, List.length_cons, List.length_nil, List.drop_succ_cons, List.drop_zero, List.take_succ_cons, List.take_zero, List.cons_append, List.nil_append, List.append_nil, List.drop_nil, List.take_nil, Nat.reduceAdd, Nat.reduceLeDiff, Nat.zero_add, Nat.add_zero, ↓reduceIte, Bool.not_true, Bool.not_false, decide_true, decide_false, eq_self, bne_self_eq_false, List.getElem?_cons_zero, List.getElem?_cons_succ, decide_eq_true_eq, Bool.false_eq_true, Bool.true_eq_false, reduceCtorEq, Nat.le_refl, e1]
    rw [hdef, ha]; rfl
  | true =>
    rw [ha] at e1
    obtain ⟨hn, hok⟩ := allShards_ok ha ok
    rw [hdef, ha, ← liveTo_all]
    have key := loop_goesF (F := F) (Z := Z) (live := [0, 4, 5, 6]) (b := r171L1) l.length (fun i => ⟨[(0, .c x), (4, .c (.int .u64 (wHi (liveTo l i 0)))), (5, .c (.int .u64 (wLo (liveTo l i 0)))), (6, .c (.int .i64 (i : Nat)))], [], [], h⟩) fun i hi => by
      have ki := loop_goesF (F := F) (Z := Z) (live := [0, 4, 5, 6, 7]) (b := r171L0) l[i].shards.length (fun j => ⟨[(0, .c x), (4, .c (.int .u64 (wHi (liveTo l i j)))), (5, .c (.int .u64 (wLo (liveTo l i j)))), (6, .c (.int .i64 (i : Nat))), (7, .c (.int .i64 (j : Nat)))], [], [], h⟩) fun j hj => sLiveTotal_in k hS15 w hn hok hi hj
      have hlt : (i : Int) < l.length := by omega
      have hws := wrapS i (by omega)
      obtain ⟨z, fz, hld, wz⟩ := w.storeAt hi
      have hxi := w.idx hi
      have hzl := wz.len
      have hlt2 : ¬ (l[i].shards.length : Int) < l[i].shards.length := by omega
      simp only [show ((0 : Nat) : Int) = 0 from rfl] at ki
      rw [loop_run]
      conv in (codeF _ _ r171L1 _) => unfold r171L1
      simp only [run0, run1, run2, run3, run4, noSlot, memN, RO.dst, lk, drop, forget, number, Nat.reduceBEq, cut?, splice?, builds, List.length_cons, List.length_nil, List.drop_succ_cons, List.drop_zero, List.take_succ_cons, List.take_zero, List.cons_append, List.nil_append, List.append_nil, List.drop_nil, List.take_nil, Nat.reduceAdd, Nat.reduceLeDiff, Nat.zero_add, Nat.add_zero, ↓reduceIte, Bool.not_true, Bool.not_false, decide_true, decide_false, eq_self, bne_self_eq_false, List.getElem?_cons_zero, List.getElem?_cons_succ, decide_eq_true_eq, Bool.false_eq_true, Bool.true_eq_false, reduceCtorEq, Nat.le_refl, hwl, hlt]
      rw [ki, loop_run]
      conv in (codeF _ _ r171L0 _) => unfold r171L0
      simp only [run0, run1, run2, run3, run4, noSlot, memN, RO.dst, lk, drop, forget, number, Nat.reduceBEq, cut?, splice?, builds, List.length_cons, List.length_nil, List.drop_succ_cons, List.drop_zero, List.take_succ_cons, List.take_zero, List.cons_append, List.nil_append, List.append_nil, List.drop_nil, List.take_nil, Nat.reduceAdd, Nat.reduceLeDiff, Nat.zero_add, Nat.add_zero, ↓reduceIte, Bool.not_true, Bool.not_false, decide_true, decide_false, eq_self, bne_self_eq_false, List.getElem?_cons_zero, List.getElem?_cons_succ, decide_eq_true_eq, Bool.false_eq_true, Bool.true_eq_false, reduceCtorEq, Nat.le_refl, hxi, hld, hzl, hlt2, hws]
      rw [liveTo_end hi]
    have z1 : wHi (liveTo l 0 0) = 0 := by simp [liveTo, sumI, wHi]
    have z2 : wLo (liveTo l 0 0) = 0 := by simp [liveTo, sumI, wLo]
    have hlt : ¬ (l.length : Int) < l.length := by omega
    simp only [show ((0 : Nat) : Int) = 0 from rfl, z1, z2] at key
    simp only [run0, run1, run2, run3, run4, noSlot, memN, RO.dst, lk, drop, forget, number, Nat.reduceBEq, cut?, splice?, builds, List.length_cons, List.length_nil, List.drop_succ_cons, List.drop_zero, List.take_succ_cons, List.take_zero, List.cons_append, List.nil_append, List.append_nil, List.drop_nil, List.take_nil, Nat.reduceAdd, Nat.reduceLeDiff, Nat.zero_add, Nat.add_zero, ↓reduceIte, Bool.not_true, Bool.not_false, decide_true, decide_false, eq_self, bne_self_eq_false, List.getElem?_cons_zero, List.getElem?_cons_succ, decide_eq_true_eq, Bool.false_eq_true, Bool.true_eq_false, reduceCtorEq, Nat.le_refl, e1, key]
    rw [loop_run]
    conv in (codeF _ _ r171L1 _) => unfold r171L1
    simp only [run0, run1, run2, run3, run4, noSlot, memN, RO.dst, lk, drop, forget, number, Nat.reduceBEq, cut?, splice?, builds, List.length_cons, List.length_nil, List.drop_succ_cons, List.drop_zero, List.take_succ_cons, List.take_zero, List.cons_append, List.nil_append, List.append_nil, List.drop_nil, List.take_nil, Nat.reduceAdd, Nat.reduceLeDiff, Nat.zero_add, Nat.add_zero, ↓reduceIte, Bool.not_true, Bool.not_false, decide_true, decide_false, eq_self, bne_self_eq_false, List.getElem?_cons_zero, List.getElem?_cons_succ, decide_eq_true_eq, Bool.false_eq_true, Bool.true_eq_false, reduceCtorEq, Nat.le_refl, hwl, hlt]
theorem sLiveTotal_c (k : KS F) (hS15 : Has F tS15) (hf : h.floor ≤ h.next) (w : SlR 18 Store.RI h x l fp) (ok : ∀ a, a ∈ l → a.Ok) :
    ∃ h', call F Z 171 [.c x] h = some (.tup [.c (.int .u64 (liveTotal l).1), .c (.int .u64 (liveTotal l).2)], h') ∧ On h h' := ⟨h, sLiveTotal_run k hS15 w ok, On.refl h⟩
end
end Go.Proofs.Ytlbagejkjkfkjaa.A
