/- The data of a HandMsg with its memory, and what its converters compute. -/
import Derived.Test.YtgogajbfiocdbaaMShard
import Derived.Test.YtgogajbfiocdbaaS2
import Derived.Test.YtgogajbfiocdbaaGLHandMsg
namespace Go.Proofs.Ytgogajbfiocdbaa.A
open Go
set_option linter.unusedSimpArgs false
set_option linter.unusedVariables false
structure HandMsg where
  step : Int
  lo : Int
  to : Int
  epoch : Int
  shard : Shard
  deriving DecidableEq
def HandMsg.RL : Rel HandMsg := fun h cs t fp => ∃ x1 p1 x2 p2, cs = [.int .i64 t.step, .int .u64 t.lo, .int .i64 t.to, .int .i64 t.epoch, .int .u64 t.shard.lo, .int .u64 t.shard.hi, .int .i64 t.shard.state, .int .i64 t.shard.epoch, x1, x2] ∧ fp = p1 ++ p2 ∧ SlR 12 (Fl Account.enc) h x1 t.shard.book.list p1 ∧ SlR 10 (Fl Fin.enc) h x2 t.shard.finished p2
theorem HandMsg.okL : RelOk HandMsg.RL where
  lt := by
    rintro h cs t fp ⟨x1, p1, x2, p2, rfl, rfl, w1, w2⟩ id hid
    simp only [List.mem_append] at hid
    rcases hid with hid | hid
    · exact w1.lt (Fl.ok _) id hid
    · exact w2.lt (Fl.ok _) id hid
  mv := by
    rintro h h' cs t fp ⟨x1, p1, x2, p2, rfl, rfl, w1, w2⟩ hn hg
    exact ⟨x1, _, x2, _, rfl, rfl, w1.mv (Fl.ok _) hn fun id hid => hg id (by simp [hid]), w2.mv (Fl.ok _) hn fun id hid => hg id (by simp [hid])⟩
def HandMsg.RI : Rel HandMsg := fun h cs t fp => ∃ x1 p1 x2 p2, cs = [.int .i64 t.step, .int .u64 t.lo, .int .i64 t.to, .int .i64 t.epoch, .int .u64 t.shard.lo, .int .u64 t.shard.hi, .int .i64 t.shard.state, .int .i64 t.shard.epoch, x1, x2] ∧ fp = p1 ++ p2 ∧ SlR 11 (Fl Account.enc) h x1 t.shard.book.list p1 ∧ SlR 9 (Fl Fin.enc) h x2 t.shard.finished p2
theorem HandMsg.okI : RelOk HandMsg.RI where
  lt := by
    rintro h cs t fp ⟨x1, p1, x2, p2, rfl, rfl, w1, w2⟩ id hid
    simp only [List.mem_append] at hid
    rcases hid with hid | hid
    · exact w1.lt (Fl.ok _) id hid
    · exact w2.lt (Fl.ok _) id hid
  mv := by
    rintro h h' cs t fp ⟨x1, p1, x2, p2, rfl, rfl, w1, w2⟩ hn hg
    exact ⟨x1, _, x2, _, rfl, rfl, w1.mv (Fl.ok _) hn fun id hid => hg id (by simp [hid]), w2.mv (Fl.ok _) hn fun id hid => hg id (by simp [hid])⟩
theorem HandMsg.lenL {h : Heap} {cs : List Cell} {t : HandMsg} {fp : List Nat} (v : HandMsg.RL h cs t fp) : cs.length = 10 ∧ cs.take 10 = cs ∧ cs.drop 10 = [] := by
  obtain ⟨x1, p1, x2, p2, rfl, _⟩ := v
  exact ⟨rfl, rfl, rfl⟩
theorem HandMsg.lenI {h : Heap} {cs : List Cell} {t : HandMsg} {fp : List Nat} (v : HandMsg.RI h cs t fp) : cs.length = 10 ∧ cs.take 10 = cs ∧ cs.drop 10 = [] := by
  obtain ⟨x1, p1, x2, p2, rfl, _⟩ := v
  exact ⟨rfl, rfl, rfl⟩
namespace HandMsg
/-- The numbers are those of the machine. -/
structure Ok (t : HandMsg) : Prop where
  step : -9223372036854775808 ≤ t.step ∧ t.step ≤ 9223372036854775807
  lo : 0 ≤ t.lo ∧ t.lo ≤ 18446744073709551615
  to : -9223372036854775808 ≤ t.to ∧ t.to ≤ 9223372036854775807
  epoch : -9223372036854775808 ≤ t.epoch ∧ t.epoch ≤ 9223372036854775807
  shard : t.shard.Ok
def Small (t : HandMsg) : Prop := t.shard.Small
end HandMsg
theorem Wf.isHandMsg {h : Heap} {n : Nat} {cs : List Cell} (w : Wf h (n + 6) shHandMsg cs) : ∃ t fp, HandMsg.RL h cs t fp ∧ t.Ok := by
  obtain ⟨_, _, rfl, _, ⟨i1, rfl, j1⟩, _, _, rfl, _, ⟨i2, rfl, j2⟩, _, _, rfl, _, ⟨i3, rfl, j3⟩, _, _, rfl, _, ⟨i4, rfl, j4⟩, _, _, rfl, _, ⟨_, _, rfl, _, ⟨i5, rfl, j5⟩, _, _, rfl, _, ⟨i6, rfl, j6⟩, _, _, rfl, _, ⟨i7, rfl, j7⟩, _, _, rfl, _, ⟨i8, rfl, j8⟩, _, _, rfl, _, ⟨_, _, rfl, _, m9, rfl⟩, _, _, rfl, _, m10, rfl⟩, rfl⟩ := w
  obtain ⟨x1, l1, p1, rfl, w1, o1⟩ := Wf.isAccountS' m9
  obtain ⟨x2, l2, p2, rfl, w2, o2⟩ := Wf.isFinS' m10
  exact ⟨⟨i1, i2, i3, i4, ⟨i5, i6, i7, i8, ⟨l1⟩, l2⟩⟩, _, ⟨x1, _, x2, _, rfl, rfl, w1, w2⟩, ⟨wfI j1, wfU j2, wfI j3, wfI j4, ⟨wfU j5, wfU j6, wfI j7, wfI j8, ⟨o1⟩, o2⟩⟩⟩
section
variable {F : Nat → Option RF} {Z : CallF} {h : Heap} {cs cs' : List Cell} {t u : HandMsg} {fp fq : List Nat}
theorem szHandMsg_c (hLHandMsg : Has F tLHandMsg) (hLShard : Has F tLShard) (hLBook : Has F tLBook) (hLAccount : Has F tLAccount) (hLFin : Has F tLFin) (v : HandMsg.RL h cs t fp) (left : Int) (h1 : 0 ≤ left) (h2 : left ≤ 1048576) : ∃ r, call F Z 82 [.agg cs, .c (.int .i64 left)] h = some (.c (.int .i64 r), h) ∧ r ≤ left ∧ (0 ≤ r → t.Small) := by
  obtain ⟨x1, p1, x2, p2, rfl, rfl, w1, w2⟩ := v
  rw [call_run F Z (hLHandMsg.lk (g := 82) rfl) _ _ rfl]
  simp only [run0, run1, run2, run3, run4, noSlot, memN, RO.dst, lk, drop, forget, number, Nat.reduceBEq, cut?, splice?, builds, List.length_cons, List.length_nil, List.drop_succ_cons, List.drop_zero, List.take_succ_cons, List.take_zero, List.cons_append, List.nil_append, List.append_nil, List.drop_nil, List.take_nil, Nat.reduceAdd, Nat.reduceLeDiff, Nat.zero_add, Nat.add_zero, ↓reduceIte, Bool.not_true, Bool.not_false, decide_true, decide_false, eq_self, bne_self_eq_false, List.getElem?_cons_zero, List.getElem?_cons_succ, decide_eq_true_eq, Bool.false_eq_true, Bool.true_eq_false, reduceCtorEq, Nat.le_refl]
  obtain ⟨l0, s0, a0, b0⟩ := szShard_c (Z := Z) hLShard hLBook hLAccount hLFin (⟨x1, _, x2, _, rfl, rfl, w1, w2⟩ : Shard.RL _ _ _ _) left (by omega) (by omega)
  simp only [run0, run1, run2, run3, run4, noSlot, memN, RO.dst, lk, drop, forget, number, Nat.reduceBEq, cut?, splice?, builds, List.length_cons, List.length_nil, List.drop_succ_cons, List.drop_zero, List.take_succ_cons, List.take_zero, List.cons_append, List.nil_append, List.append_nil, List.drop_nil, List.take_nil, Nat.reduceAdd, Nat.reduceLeDiff, Nat.zero_add, Nat.add_zero, ↓reduceIte, Bool.not_true, Bool.not_false, decide_true, decide_false, eq_self, bne_self_eq_false, List.getElem?_cons_zero, List.getElem?_cons_succ, decide_eq_true_eq, Bool.false_eq_true, Bool.true_eq_false, reduceCtorEq, Nat.le_refl, s0]
  by_cases n0 : l0 < 0
  · simp only [run0, run1, run2, run3, run4, noSlot, memN, RO.dst, lk, drop, forget, number, Nat.reduceBEq, cut?, splice?, builds, List.length_cons, List.length_nil, List.drop_succ_cons, List.drop_zero, List.take_succ_cons, List.take_zero, List.cons_append, List.nil_append, List.append_nil, List.drop_nil, List.take_nil, Nat.reduceAdd, Nat.reduceLeDiff, Nat.zero_add, Nat.add_zero, ↓reduceIte, Bool.not_true, Bool.not_false, decide_true, decide_false, eq_self, bne_self_eq_false, List.getElem?_cons_zero, List.getElem?_cons_succ, decide_eq_true_eq, Bool.false_eq_true, Bool.true_eq_false, reduceCtorEq, Nat.le_refl, n0]
    exact ⟨_, rfl, by omega, by omega⟩
  simp only [run0, run1, run2, run3, run4, noSlot, memN, RO.dst, lk, drop, forget, number, Nat.reduceBEq, cut?, splice?, builds, List.length_cons, List.length_nil, List.drop_succ_cons, List.drop_zero, List.take_succ_cons, List.take_zero, List.cons_append, List.nil_append, List.append_nil, List.drop_nil, List.take_nil, Nat.reduceAdd, Nat.reduceLeDiff, Nat.zero_add, Nat.add_zero, ↓reduceIte, Bool.not_true, Bool.not_false, decide_true, decide_false, eq_self, bne_self_eq_false, List.getElem?_cons_zero, List.getElem?_cons_succ, decide_eq_true_eq, Bool.false_eq_true, Bool.true_eq_false, reduceCtorEq, Nat.le_refl, n0]
  exact ⟨_, rfl, by omega, fun _ => b0 (by omega)⟩
theorem toHandMsg_c (hLHandMsg : Has F tLHandMsg) (hLShard : Has F tLShard) (hLBook : Has F tLBook) (hLAccount : Has F tLAccount) (hLFin : Has F tLFin) (hf : h.floor ≤ h.next) (v : HandMsg.RL h cs t fp) (sm : t.Small) : ∃ cs' h' fq, call F Z 83 [.agg cs] h = some (.agg cs', h') ∧ On h h' ∧ HandMsg.RI h' cs' t fq ∧ Fre h fq := by
  obtain ⟨x1, p1, x2, p2, rfl, rfl, w1, w2⟩ := v
  have sm0 := sm
  obtain ⟨_, g0, _, e0, o0, ⟨y1, q1, y2, q2, rfl, rfl, u1, u2⟩, r0⟩ := toShard_c (Z := Z) hLShard hLBook hLAccount hLFin hf (⟨x1, _, x2, _, rfl, rfl, w1, w2⟩ : Shard.RL _ _ _ _) sm0
  rw [call_run F Z (hLHandMsg.lk (g := 83) rfl) _ _ rfl]
  simp only [run0, run1, run2, run3, run4, noSlot, memN, RO.dst, lk, drop, forget, number, Nat.reduceBEq, cut?, splice?, builds, List.length_cons, List.length_nil, List.drop_succ_cons, List.drop_zero, List.take_succ_cons, List.take_zero, List.cons_append, List.nil_append, List.append_nil, List.drop_nil, List.take_nil, Nat.reduceAdd, Nat.reduceLeDiff, Nat.zero_add, Nat.add_zero, ↓reduceIte, Bool.not_true, Bool.not_false, decide_true, decide_false, eq_self, bne_self_eq_false, List.getElem?_cons_zero, List.getElem?_cons_succ, decide_eq_true_eq, Bool.false_eq_true, Bool.true_eq_false, reduceCtorEq, Nat.le_refl, e0]
  exact ⟨_, _, _, rfl, o0, ⟨y1, _, y2, _, rfl, rfl, u1, u2⟩, r0⟩
set_option maxHeartbeats 1000000 in
theorem eqHandMsg_r (hLHandMsg : Has F tLHandMsg) (hLShard : Has F tLShard) (hLBook : Has F tLBook) (hLAccount : Has F tLAccount) (hLFin : Has F tLFin) (v : HandMsg.RI h cs t fp) (v' : HandMsg.RI h cs' u fq) : call F Z 87 [.agg cs, .agg cs'] h = some (.c (.bool (decide (t = u))), h) := by
  obtain ⟨x1, p1, x2, p2, rfl, rfl, w1, w2⟩ := v
  obtain ⟨x1', p1', x2', p2', rfl, rfl, w1', w2'⟩ := v'
  obtain ⟨step1, lo1, to1, epoch1, shard1⟩ := t
  obtain ⟨step2, lo2, to2, epoch2, shard2⟩ := u
  have e0 := eqShard_r (Z := Z) hLShard hLBook hLAccount hLFin (⟨x1, _, x2, _, rfl, rfl, w1, w2⟩ : Shard.RI h _ shard1 _) (⟨x1', _, x2', _, rfl, rfl, w1', w2'⟩ : Shard.RI h _ shard2 _)
  clear w1 w1' w2 w2'
  rw [call_run F Z (hLHandMsg.lk (g := 87) rfl) _ _ rfl]
  simp only [run0, run1, run2, run3, run4, noSlot, memN, RO.dst, lk, drop, forget, number, Nat.reduceBEq, cut?, splice?, builds, List.length_cons, List.length_nil, List.drop_succ_cons, List.drop_zero, List.take_succ_cons, List.take_zero, List.cons_append, List.nil_append, List.append_nil, List.drop_nil, List.take_nil, Nat.reduceAdd, Nat.reduceLeDiff, Nat.zero_add, Nat.add_zero, ↓reduceIte, Bool.not_true, Bool.not_false, decide_true, decide_false, eq_self, bne_self_eq_false, List.getElem?_cons_zero, List.getElem?_cons_succ, decide_eq_true_eq, Bool.false_eq_true, Bool.true_eq_false, reduceCtorEq, Nat.le_refl, e0]
  (repeat' ((first | (rw [gF_if]; split) | (rw [condC_if]; split) | (rw [pickR_if]; split)) <;> (rename_i hh; (try simp only [Bool.not_eq_true, decide_eq_true_eq] at hh); simp only [hh, run0, run1, run2, run3, run4, noSlot, memN, RO.dst, lk, drop, forget, number, Nat.reduceBEq, cut?, splice?, builds, List.length_cons, List.length_nil, List.drop_succ_cons, List.drop_zero, List.take_succ_cons, List.take_zero, List.cons_append, List.nil_append, List.append_nil, List.drop_nil, List.take_nil, Nat.reduceAdd, Nat.reduceLeDiff, Nat.zero_add, Nat.add_zero, ↓reduceIte, Bool.not_true, Bool.not_false, decide_true, decide_false, eq_self, bne_self_eq_false, List.getElem?_cons_zero, List.getElem?_cons_succ, decide_eq_true_eq, Bool.false_eq_true, Bool.true_eq_false, reduceCtorEq, Nat.le_refl, e0]))) <;> clear e0 <;> refine fin_bool ?_ <;> simp_all <;> (try (intros; omega))
end
end Go.Proofs.Ytgogajbfiocdbaa.A
