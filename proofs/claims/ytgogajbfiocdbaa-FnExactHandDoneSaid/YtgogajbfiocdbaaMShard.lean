/- The data of a Shard with its memory, and what its converters compute. -/
import Derived.Test.YtgogajbfiocdbaaMBook
import Derived.Test.YtgogajbfiocdbaaVFin
import Derived.Test.YtgogajbfiocdbaaS2
import Derived.Test.YtgogajbfiocdbaaGLShard
namespace Go.Proofs.Ytgogajbfiocdbaa.A
open Go
set_option linter.unusedSimpArgs false
set_option linter.unusedVariables false
structure Shard where
  lo : Int
  hi : Int
  state : Int
  epoch : Int
  book : Book
  finished : List Fin
  deriving DecidableEq
def Shard.RL : Rel Shard := fun h cs t fp => ∃ x1 p1 x2 p2, cs = [.int .u64 t.lo, .int .u64 t.hi, .int .i64 t.state, .int .i64 t.epoch, x1, x2] ∧ fp = p1 ++ p2 ∧ SlR 12 (Fl Account.enc) h x1 t.book.list p1 ∧ SlR 10 (Fl Fin.enc) h x2 t.finished p2
theorem Shard.okL : RelOk Shard.RL where
  lt := by
    rintro h cs t fp ⟨x1, p1, x2, p2, rfl, rfl, w1, w2⟩ id hid
    simp only [List.mem_append] at hid
    rcases hid with hid | hid
    · exact w1.lt (Fl.ok _) id hid
    · exact w2.lt (Fl.ok _) id hid
  mv := by
    rintro h h' cs t fp ⟨x1, p1, x2, p2, rfl, rfl, w1, w2⟩ hn hg
    exact ⟨x1, _, x2, _, rfl, rfl, w1.mv (Fl.ok _) hn fun id hid => hg id (by simp [hid]), w2.mv (Fl.ok _) hn fun id hid => hg id (by simp [hid])⟩
def Shard.RI : Rel Shard := fun h cs t fp => ∃ x1 p1 x2 p2, cs = [.int .u64 t.lo, .int .u64 t.hi, .int .i64 t.state, .int .i64 t.epoch, x1, x2] ∧ fp = p1 ++ p2 ∧ SlR 11 (Fl Account.enc) h x1 t.book.list p1 ∧ SlR 9 (Fl Fin.enc) h x2 t.finished p2
theorem Shard.okI : RelOk Shard.RI where
  lt := by
    rintro h cs t fp ⟨x1, p1, x2, p2, rfl, rfl, w1, w2⟩ id hid
    simp only [List.mem_append] at hid
    rcases hid with hid | hid
    · exact w1.lt (Fl.ok _) id hid
    · exact w2.lt (Fl.ok _) id hid
  mv := by
    rintro h h' cs t fp ⟨x1, p1, x2, p2, rfl, rfl, w1, w2⟩ hn hg
    exact ⟨x1, _, x2, _, rfl, rfl, w1.mv (Fl.ok _) hn fun id hid => hg id (by simp [hid]), w2.mv (Fl.ok _) hn fun id hid => hg id (by simp [hid])⟩
theorem Shard.lenL {h : Heap} {cs : List Cell} {t : Shard} {fp : List Nat} (v : Shard.RL h cs t fp) : cs.length = 6 ∧ cs.take 6 = cs ∧ cs.drop 6 = [] := by
  obtain ⟨x1, p1, x2, p2, rfl, _⟩ := v
  exact ⟨rfl, rfl, rfl⟩
theorem Shard.lenI {h : Heap} {cs : List Cell} {t : Shard} {fp : List Nat} (v : Shard.RI h cs t fp) : cs.length = 6 ∧ cs.take 6 = cs ∧ cs.drop 6 = [] := by
  obtain ⟨x1, p1, x2, p2, rfl, _⟩ := v
  exact ⟨rfl, rfl, rfl⟩
namespace Shard
/-- The numbers are those of the machine. -/
structure Ok (t : Shard) : Prop where
  lo : 0 ≤ t.lo ∧ t.lo ≤ 18446744073709551615
  hi : 0 ≤ t.hi ∧ t.hi ≤ 18446744073709551615
  state : -9223372036854775808 ≤ t.state ∧ t.state ≤ 9223372036854775807
  epoch : -9223372036854775808 ≤ t.epoch ∧ t.epoch ≤ 9223372036854775807
  book : t.book.Ok
  finished : ∀ a, a ∈ t.finished → a.Ok
def Small (t : Shard) : Prop := t.book.Small ∧ t.finished.length ≤ 1048576
end Shard
theorem Wf.isShard {h : Heap} {n : Nat} {cs : List Cell} (w : Wf h (n + 5) shShard cs) : ∃ t fp, Shard.RL h cs t fp ∧ t.Ok := by
  obtain ⟨_, _, rfl, _, ⟨i1, rfl, j1⟩, _, _, rfl, _, ⟨i2, rfl, j2⟩, _, _, rfl, _, ⟨i3, rfl, j3⟩, _, _, rfl, _, ⟨i4, rfl, j4⟩, _, _, rfl, _, ⟨_, _, rfl, _, m5, rfl⟩, _, _, rfl, _, m6, rfl⟩ := w
  obtain ⟨x1, l1, p1, rfl, w1, o1⟩ := Wf.isAccountS' m5
  obtain ⟨x2, l2, p2, rfl, w2, o2⟩ := Wf.isFinS' m6
  exact ⟨⟨i1, i2, i3, i4, ⟨l1⟩, l2⟩, _, ⟨x1, _, x2, _, rfl, rfl, w1, w2⟩, ⟨wfU j1, wfU j2, wfI j3, wfI j4, ⟨o1⟩, o2⟩⟩
section
variable {F : Nat → Option RF} {Z : CallF} {h : Heap} {cs cs' : List Cell} {t u : Shard} {fp fq : List Nat}
theorem szShard_c (hLShard : Has F tLShard) (hLBook : Has F tLBook) (hLAccount : Has F tLAccount) (hLFin : Has F tLFin) (v : Shard.RL h cs t fp) (left : Int) (h1 : 0 ≤ left) (h2 : left ≤ 1048576) : ∃ r, call F Z 111 [.agg cs, .c (.int .i64 left)] h = some (.c (.int .i64 r), h) ∧ r ≤ left ∧ (0 ≤ r → t.Small) := by
  obtain ⟨x1, p1, x2, p2, rfl, rfl, w1, w2⟩ := v
  rw [call_run F Z (hLShard.lk (g := 111) rfl) _ _ rfl]
  simp only [run0, run1, run2, run3, run4, noSlot, memN, RO.dst, lk, drop, forget, number, Nat.reduceBEq, cut?, splice?, builds, List.length_cons, List.length_nil, List.drop_succ_cons, List.drop_zero, List.take_succ_cons, List.take_zero, List.cons_append, List.nil_append, List.append_nil, List.drop_nil, List.take_nil, Nat.reduceAdd, Nat.reduceLeDiff, Nat.zero_add, Nat.add_zero, ↓reduceIte, Bool.not_true, Bool.not_false, decide_true, decide_false, eq_self, bne_self_eq_false, List.getElem?_cons_zero, List.getElem?_cons_succ, decide_eq_true_eq, Bool.false_eq_true, Bool.true_eq_false, reduceCtorEq, Nat.le_refl]
  obtain ⟨l0, s0, a0, b0⟩ := szBook_c (Z := Z) hLBook hLAccount (⟨x1, _, rfl, rfl, w1⟩ : Book.RL _ _ _ _) left (by omega) (by omega)
  simp only [run0, run1, run2, run3, run4, noSlot, memN, RO.dst, lk, drop, forget, number, Nat.reduceBEq, cut?, splice?, builds, List.length_cons, List.length_nil, List.drop_succ_cons, List.drop_zero, List.take_succ_cons, List.take_zero, List.cons_append, List.nil_append, List.append_nil, List.drop_nil, List.take_nil, Nat.reduceAdd, Nat.reduceLeDiff, Nat.zero_add, Nat.add_zero, ↓reduceIte, Bool.not_true, Bool.not_false, decide_true, decide_false, eq_self, bne_self_eq_false, List.getElem?_cons_zero, List.getElem?_cons_succ, decide_eq_true_eq, Bool.false_eq_true, Bool.true_eq_false, reduceCtorEq, Nat.le_refl, s0]
  by_cases n0 : l0 < 0
  · simp only [run0, run1, run2, run3, run4, noSlot, memN, RO.dst, lk, drop, forget, number, Nat.reduceBEq, cut?, splice?, builds, List.length_cons, List.length_nil, List.drop_succ_cons, List.drop_zero, List.take_succ_cons, List.take_zero, List.cons_append, List.nil_append, List.append_nil, List.drop_nil, List.take_nil, Nat.reduceAdd, Nat.reduceLeDiff, Nat.zero_add, Nat.add_zero, ↓reduceIte, Bool.not_true, Bool.not_false, decide_true, decide_false, eq_self, bne_self_eq_false, List.getElem?_cons_zero, List.getElem?_cons_succ, decide_eq_true_eq, Bool.false_eq_true, Bool.true_eq_false, reduceCtorEq, Nat.le_refl, n0]
    exact ⟨_, rfl, by omega, by omega⟩
  obtain ⟨l1, s1, a1, b1⟩ := szFinS_c (Z := Z) hLFin w2 l0 (by omega) (by omega)
  simp only [run0, run1, run2, run3, run4, noSlot, memN, RO.dst, lk, drop, forget, number, Nat.reduceBEq, cut?, splice?, builds, List.length_cons, List.length_nil, List.drop_succ_cons, List.drop_zero, List.take_succ_cons, List.take_zero, List.cons_append, List.nil_append, List.append_nil, List.drop_nil, List.take_nil, Nat.reduceAdd, Nat.reduceLeDiff, Nat.zero_add, Nat.add_zero, ↓reduceIte, Bool.not_true, Bool.not_false, decide_true, decide_false, eq_self, bne_self_eq_false, List.getElem?_cons_zero, List.getElem?_cons_succ, decide_eq_true_eq, Bool.false_eq_true, Bool.true_eq_false, reduceCtorEq, Nat.le_refl, s1, n0]
  by_cases n1 : l1 < 0
  · simp only [run0, run1, run2, run3, run4, noSlot, memN, RO.dst, lk, drop, forget, number, Nat.reduceBEq, cut?, splice?, builds, List.length_cons, List.length_nil, List.drop_succ_cons, List.drop_zero, List.take_succ_cons, List.take_zero, List.cons_append, List.nil_append, List.append_nil, List.drop_nil, List.take_nil, Nat.reduceAdd, Nat.reduceLeDiff, Nat.zero_add, Nat.add_zero, ↓reduceIte, Bool.not_true, Bool.not_false, decide_true, decide_false, eq_self, bne_self_eq_false, List.getElem?_cons_zero, List.getElem?_cons_succ, decide_eq_true_eq, Bool.false_eq_true, Bool.true_eq_false, reduceCtorEq, Nat.le_refl, n1]
    exact ⟨_, rfl, by omega, by omega⟩
  simp only [run0, run1, run2, run3, run4, noSlot, memN, RO.dst, lk, drop, forget, number, Nat.reduceBEq, cut?, splice?, builds, List.length_cons, List.length_nil, List.drop_succ_cons, List.drop_zero, List.take_succ_cons, List.take_zero, List.cons_append, List.nil_append, List.append_nil, List.drop_nil, List.take_nil, Nat.reduceAdd, Nat.reduceLeDiff, Nat.zero_add, Nat.add_zero, ↓reduceIte, Bool.not_true, Bool.not_false, decide_true, decide_false, eq_self, bne_self_eq_false, List.getElem?_cons_zero, List.getElem?_cons_succ, decide_eq_true_eq, Bool.false_eq_true, Bool.true_eq_false, reduceCtorEq, Nat.le_refl, n1]
  exact ⟨_, rfl, by omega, fun _ => ⟨b0 (by omega), b1 (by omega)⟩⟩
theorem toShard_c (hLShard : Has F tLShard) (hLBook : Has F tLBook) (hLAccount : Has F tLAccount) (hLFin : Has F tLFin) (hf : h.floor ≤ h.next) (v : Shard.RL h cs t fp) (sm : t.Small) : ∃ cs' h' fq, call F Z 112 [.agg cs] h = some (.agg cs', h') ∧ On h h' ∧ Shard.RI h' cs' t fq ∧ Fre h fq := by
  obtain ⟨x1, p1, x2, p2, rfl, rfl, w1, w2⟩ := v
  obtain ⟨sm0, sm1⟩ := sm
  obtain ⟨_, g0, _, e0, o0, ⟨y1, q1, rfl, rfl, u1⟩, r0⟩ := toBook_c (Z := Z) hLBook hLAccount hf (⟨x1, _, rfl, rfl, w1⟩ : Book.RL _ _ _ _) sm0
  replace w2 := w2.on (Fl.ok _) o0
  have f0 := o0.le hf
  obtain ⟨y2, g1, q2, e1, o1, u2, r1⟩ := toFinS_c (Z := Z) hLFin f0 w2 sm1
  have v1 := u1
  replace u1 := u1.on (Fl.ok _) o1
  rw [call_run F Z (hLShard.lk (g := 112) rfl) _ _ rfl]
  simp only [run0, run1, run2, run3, run4, noSlot, memN, RO.dst, lk, drop, forget, number, Nat.reduceBEq, cut?, splice?, builds, List.length_cons, List.length_nil, List.drop_succ_cons, List.drop_zero, List.take_succ_cons, List.take_zero, List.cons_append, List.nil_append, List.append_nil, List.drop_nil, List.take_nil, Nat.reduceAdd, Nat.reduceLeDiff, Nat.zero_add, Nat.add_zero, ↓reduceIte, Bool.not_true, Bool.not_false, decide_true, decide_false, eq_self, bne_self_eq_false, List.getElem?_cons_zero, List.getElem?_cons_succ, decide_eq_true_eq, Bool.false_eq_true, Bool.true_eq_false, reduceCtorEq, Nat.le_refl, e0, e1]
  exact ⟨_, _, _, rfl, o0.trans o1, ⟨y1, _, y2, _, rfl, rfl, u1, u2⟩, Fre.app r0 (Book.okI.lt (⟨y1, _, rfl, rfl, v1⟩ : Book.RI g0 _ t.book _)) r1 o0.ext.1⟩
set_option maxHeartbeats 1000000 in
theorem eqShard_r (hLShard : Has F tLShard) (hLBook : Has F tLBook) (hLAccount : Has F tLAccount) (hLFin : Has F tLFin) (v : Shard.RI h cs t fp) (v' : Shard.RI h cs' u fq) : call F Z 114 [.agg cs, .agg cs'] h = some (.c (.bool (decide (t = u))), h) := by
  obtain ⟨x1, p1, x2, p2, rfl, rfl, w1, w2⟩ := v
  obtain ⟨x1', p1', x2', p2', rfl, rfl, w1', w2'⟩ := v'
  obtain ⟨lo1, hi1, state1, epoch1, book1, finished1⟩ := t
  obtain ⟨lo2, hi2, state2, epoch2, book2, finished2⟩ := u
  have e0 := eqBook_r (Z := Z) hLBook hLAccount (⟨x1, _, rfl, rfl, w1⟩ : Book.RI h _ book1 _) (⟨x1', _, rfl, rfl, w1'⟩ : Book.RI h _ book2 _)
  have e1 := eqFinS_run (Z := Z) hLFin w2 w2'
  clear w1 w1' w2 w2'
  rw [call_run F Z (hLShard.lk (g := 114) rfl) _ _ rfl]
  simp only [run0, run1, run2, run3, run4, noSlot, memN, RO.dst, lk, drop, forget, number, Nat.reduceBEq, cut?, splice?, builds, List.length_cons, List.length_nil, List.drop_succ_cons, List.drop_zero, List.take_succ_cons, List.take_zero, List.cons_append, List.nil_append, List.append_nil, List.drop_nil, List.take_nil, Nat.reduceAdd, Nat.reduceLeDiff, Nat.zero_add, Nat.add_zero, ↓reduceIte, Bool.not_true, Bool.not_false, decide_true, decide_false, eq_self, bne_self_eq_false, List.getElem?_cons_zero, List.getElem?_cons_succ, decide_eq_true_eq, Bool.false_eq_true, Bool.true_eq_false, reduceCtorEq, Nat.le_refl, e0, e1]
  (repeat' ((first | (rw [gF_if]; split) | (rw [condC_if]; split) | (rw [pickR_if]; split)) <;> (rename_i hh; (try simp only [Bool.not_eq_true, decide_eq_true_eq] at hh); simp only [hh, run0, run1, run2, run3, run4, noSlot, memN, RO.dst, lk, drop, forget, number, Nat.reduceBEq, cut?, splice?, builds, List.length_cons, List.length_nil, List.drop_succ_cons, List.drop_zero, List.take_succ_cons, List.take_zero, List.cons_append, List.nil_append, List.append_nil, List.drop_nil, List.take_nil, Nat.reduceAdd, Nat.reduceLeDiff, Nat.zero_add, Nat.add_zero, ↓reduceIte, Bool.not_true, Bool.not_false, decide_true, decide_false, eq_self, bne_self_eq_false, List.getElem?_cons_zero, List.getElem?_cons_succ, decide_eq_true_eq, Bool.false_eq_true, Bool.true_eq_false, reduceCtorEq, Nat.le_refl, e0, e1]))) <;> clear e0 e1 <;> refine fin_bool ?_ <;> simp_all <;> (try (intros; omega))
end
end Go.Proofs.Ytgogajbfiocdbaa.A
