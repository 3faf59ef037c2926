/- The functions that the statement reaches, part 2: bodies and what they compute. No condition. -/
import Derived.Test.YtgfclcpnefinoaaHCExactPlayHand1
import Derived.Test.YtgfclcpnefinoaaA1
import Derived.Test.YtgfclcpnefinoaaZ6
import Derived.Test.YtgfclcpnefinoaaB9
namespace Go.Proofs.Ytgfclcpnefinoaa.A
open Go
set_option linter.unusedSimpArgs false
set_option linter.unusedVariables false
structure Shard where
  lo : Int
  hi : Int
  state : Int
  epoch : Int
  book : Book
  finished : List Fin
  deriving DecidableEq
def Shard.RL : Rel Shard := fun h cs t fp => ∃ x1 p1 x2 p2, cs = [.int .u64 t.lo, .int .u64 t.hi, .int .i64 t.state, .int .i64 t.epoch, x1, x2] ∧ fp = p1 ++ p2 ∧ SlR 12 (Fl Account.enc) h x1 t.book.list p1 ∧ SlR 10 (Fl Fin.enc) h x2 t.finished p2
theorem Shard.okL : RelOk Shard.RL where
  lt := by
    rintro h cs t fp ⟨x1, p1, x2, p2, rfl, rfl, w1, w2⟩ id hid
    simp only [List.mem_append] at hid
    rcases hid with hid | hid
    · exact w1.lt (Fl.ok _) id hid
    · exact w2.lt (Fl.ok _) id hid
  mv := by
    rintro h h' cs t fp ⟨x1, p1, x2, p2, rfl, rfl, w1, w2⟩ hn hg
    exact ⟨x1, _, x2, _, rfl, rfl, w1.mv (Fl.ok _) hn fun id hid => hg id (by simp [hid]), w2.mv (Fl.ok _) hn fun id hid => hg id (by simp [hid])⟩
def Shard.RI : Rel Shard := fun h cs t fp => ∃ x1 p1 x2 p2, cs = [.int .u64 t.lo, .int .u64 t.hi, .int .i64 t.state, .int .i64 t.epoch, x1, x2] ∧ fp = p1 ++ p2 ∧ SlR 11 (Fl Account.enc) h x1 t.book.list p1 ∧ SlR 9 (Fl Fin.enc) h x2 t.finished p2
theorem Shard.okI : RelOk Shard.RI where
  lt := by
    rintro h cs t fp ⟨x1, p1, x2, p2, rfl, rfl, w1, w2⟩ id hid
    simp only [List.mem_append] at hid
    rcases hid with hid | hid
    · exact w1.lt (Fl.ok _) id hid
    · exact w2.lt (Fl.ok _) id hid
  mv := by
    rintro h h' cs t fp ⟨x1, p1, x2, p2, rfl, rfl, w1, w2⟩ hn hg
    exact ⟨x1, _, x2, _, rfl, rfl, w1.mv (Fl.ok _) hn fun id hid => hg id (by simp [hid]), w2.mv (Fl.ok _) hn fun id hid => hg id (by simp [hid])⟩
theorem Shard.lenL {h : Heap} {cs : List Cell} {t : Shard} {fp : List Nat} (v : Shard.RL h cs t fp) : cs.length = 6 ∧ cs.take 6 = cs ∧ cs.drop 6 = [] := by
  obtain ⟨x1, p1, x2, p2, rfl, _⟩ := v
  exact ⟨rfl, rfl, rfl⟩
theorem Shard.lenI {h : Heap} {cs : List Cell} {t : Shard} {fp : List Nat} (v : Shard.RI h cs t fp) : cs.length = 6 ∧ cs.take 6 = cs ∧ cs.drop 6 = [] := by
  obtain ⟨x1, p1, x2, p2, rfl, _⟩ := v
  exact ⟨rfl, rfl, rfl⟩
namespace Shard
structure Ok (t : Shard) : Prop where
  lo : 0 ≤ t.lo ∧ t.lo ≤ 18446744073709551615
  hi : 0 ≤ t.hi ∧ t.hi ≤ 18446744073709551615
  state : -9223372036854775808 ≤ t.state ∧ t.state ≤ 9223372036854775807
  epoch : -9223372036854775808 ≤ t.epoch ∧ t.epoch ≤ 9223372036854775807
  book : t.book.Ok
  finished : ∀ a, a ∈ t.finished → a.Ok
def Small (t : Shard) : Prop := t.book.Small ∧ t.finished.length ≤ 1048576
def wt (t : Shard) : Int := t.book.wt + 2 * ((t.finished.length : Nat) : Int)
def marked (t : Shard) (k : Int) : Shard := { t with book := t.book.marked (k), finished := Fin.marks t.finished.length (k + t.book.wt) }
theorem wt_nn (t : Shard) : 0 ≤ t.wt := by
  have := t.book.wt_nn
  simp only [wt]; omega
theorem wt_le {t : Shard} (sm : t.Small) : t.wt ≤ 7340032 := by
  unfold Small at sm
  have := Book.wt_le sm.1
  simp only [wt]; omega
end Shard
theorem Wf.isShard {h : Heap} {n : Nat} {cs : List Cell} (w : Wf h (n + 5) shShard cs) : ∃ t fp, Shard.RL h cs t fp ∧ t.Ok := by
  obtain ⟨_, _, rfl, _, ⟨i1, rfl, j1⟩, _, _, rfl, _, ⟨i2, rfl, j2⟩, _, _, rfl, _, ⟨i3, rfl, j3⟩, _, _, rfl, _, ⟨i4, rfl, j4⟩, _, _, rfl, _, ⟨_, _, rfl, _, m5, rfl⟩, _, _, rfl, _, m6, rfl⟩ := w
  obtain ⟨x1, l1, p1, rfl, w1, o1⟩ := Wf.isAccountS' m5
  obtain ⟨x2, l2, p2, rfl, w2, o2⟩ := Wf.isFinS' m6
  exact ⟨⟨i1, i2, i3, i4, ⟨l1⟩, l2⟩, _, ⟨x1, _, x2, _, rfl, rfl, w1, w2⟩, ⟨wfU j1, wfU j2, wfI j3, wfI j4, ⟨o1⟩, o2⟩⟩
section
variable {F : Nat → Option RF} {Z : CallF} {h : Heap} {cs cs' : List Cell} {t u : Shard} {fp fq : List Nat}
theorem szShard_c (hLShard : Has F tLShard) (hLBook : Has F tLBook) (hLAccount : Has F tLAccount) (hLFin : Has F tLFin) (v : Shard.RL h cs t fp) (left : Int) (h1 : 0 ≤ left) (h2 : left ≤ 1048576) : ∃ r, call F Z 111 [.agg cs, .c (.int .i64 left)] h = some (.c (.int .i64 r), h) ∧ r ≤ left ∧ (0 ≤ r → t.Small) := by
  obtain ⟨x1, p1, x2, p2, rfl, rfl, w1, w2⟩ := v
  rw [call_run F Z (hLShard.lk (g := 111) rfl) _ _ rfl]
  simp only [run0, run1, run2, run3, run4, noSlot, ownS, ownK, memN, RO.dst, lk, drop, forget, number, Nat.reduceBEq, cut?, splice?, builds, Nat.reduceAdd, Nat.reduceLeDiff, ↓reduceIte, reduceCtorEq, qqa, qqb, qqc, qqd, qqe, qqf, qqg, qqh, qqi, qqj, qqk, qql, qqm, qqn, qqo, qqp, qqq, qqr, qqs, qqt, qqu, qqv, qqw, qqx, qqy]
  obtain ⟨l0, s0, a0, b0⟩ := szBook_c (Z := Z) hLBook hLAccount (⟨x1, _, rfl, rfl, w1⟩ : Book.RL _ _ _ _) left (by omega) (by omega)
  simp only [run0, run1, run2, run3, run4, noSlot, ownS, ownK, memN, RO.dst, lk, drop, forget, number, Nat.reduceBEq, cut?, splice?, builds, Nat.reduceAdd, Nat.reduceLeDiff, ↓reduceIte, reduceCtorEq, qqa, qqb, qqc, qqd, qqe, qqf, qqg, qqh, qqi, qqj, qqk, qql, qqm, qqn, qqo, qqp, qqq, qqr, qqs, qqt, qqu, qqv, qqw, qqx, qqy, s0]
  by_cases n0 : l0 < 0
  · simp only [run0, run1, run2, run3, run4, noSlot, ownS, ownK, memN, RO.dst, lk, drop, forget, number, Nat.reduceBEq, cut?, splice?, builds, Nat.reduceAdd, Nat.reduceLeDiff, ↓reduceIte, reduceCtorEq, qqa, qqb, qqc, qqd, qqe, qqf, qqg, qqh, qqi, qqj, qqk, qql, qqm, qqn, qqo, qqp, qqq, qqr, qqs, qqt, qqu, qqv, qqw, qqx, qqy, n0]
    exact ⟨_, rfl, by omega, by omega⟩
  obtain ⟨l1, s1, a1, b1⟩ := szFinS_c (Z := Z) hLFin w2 l0 (by omega) (by omega)
  simp only [run0, run1, run2, run3, run4, noSlot, ownS, ownK, memN, RO.dst, lk, drop, forget, number, Nat.reduceBEq, cut?, splice?, builds, Nat.reduceAdd, Nat.reduceLeDiff, ↓reduceIte, reduceCtorEq, qqa, qqb, qqc, qqd, qqe, qqf, qqg, qqh, qqi, qqj, qqk, qql, qqm, qqn, qqo, qqp, qqq, qqr, qqs, qqt, qqu, qqv, qqw, qqx, qqy, s1, n0]
  by_cases n1 : l1 < 0
  · simp only [run0, run1, run2, run3, run4, noSlot, ownS, ownK, memN, RO.dst, lk, drop, forget, number, Nat.reduceBEq, cut?, splice?, builds, Nat.reduceAdd, Nat.reduceLeDiff, ↓reduceIte, reduceCtorEq, qqa, qqb, qqc, qqd, qqe, qqf, qqg, qqh, qqi, qqj, qqk, qql, qqm, qqn, qqo, qqp, qqq, qqr, qqs, qqt, qqu, qqv, qqw, qqx, qqy, n1]
    exact ⟨_, rfl, by omega, by omega⟩
  simp only [run0, run1, run2, run3, run4, noSlot, ownS, ownK, memN, RO.dst, lk, drop, forget, number, Nat.reduceBEq, cut?, splice?, builds, Nat.reduceAdd, Nat.reduceLeDiff, ↓reduceIte, reduceCtorEq, qqa, qqb, qqc, qqd, qqe, qqf, qqg, qqh, qqi, qqj, qqk, qql, qqm, qqn, qqo, qqp, qqq, qqr, qqs, qqt, qqu, qqv, qqw, qqx, qqy, n1]
  exact ⟨_, rfl, by omega, fun _ => ⟨b0 (by omega), b1 (by omega)⟩⟩
theorem toShard_c (hLShard : Has F tLShard) (hLBook : Has F tLBook) (hLAccount : Has F tLAccount) (hLFin : Has F tLFin) (hf : h.floor ≤ h.next) (v : Shard.RL h cs t fp) (sm : t.Small) : ∃ cs' h' fq, call F Z 112 [.agg cs] h = some (.agg cs', h') ∧ On h h' ∧ Shard.RI h' cs' t fq ∧ Fre h fq := by
  obtain ⟨x1, p1, x2, p2, rfl, rfl, w1, w2⟩ := v
  obtain ⟨sm0, sm1⟩ := sm
  obtain ⟨_, g0, _, e0, o0, ⟨y1, q1, rfl, rfl, u1⟩, r0⟩ := toBook_c (Z := Z) hLBook hLAccount hf (⟨x1, _, rfl, rfl, w1⟩ : Book.RL _ _ _ _) sm0
  replace w2 := w2.on (Fl.ok _) o0
  have f0 := o0.le hf
  obtain ⟨y2, g1, q2, e1, o1, u2, r1⟩ := toFinS_c (Z := Z) hLFin f0 w2 sm1
  have v1 := u1
  replace u1 := u1.on (Fl.ok _) o1
  rw [call_run F Z (hLShard.lk (g := 112) rfl) _ _ rfl]
  simp only [run0, run1, run2, run3, run4, noSlot, ownS, ownK, memN, RO.dst, lk, drop, forget, number, Nat.reduceBEq, cut?, splice?, builds, Nat.reduceAdd, Nat.reduceLeDiff, ↓reduceIte, reduceCtorEq, qqa, qqb, qqc, qqd, qqe, qqf, qqg, qqh, qqi, qqj, qqk, qql, qqm, qqn, qqo, qqp, qqq, qqr, qqs, qqt, qqu, qqv, qqw, qqx, qqy, e0, e1]
  exact ⟨_, _, _, rfl, o0.trans o1, ⟨y1, _, y2, _, rfl, rfl, u1, u2⟩, Fre.app r0 (Book.okI.lt (⟨y1, _, rfl, rfl, v1⟩ : Book.RI g0 _ t.book _)) r1 o0.ext.1⟩
set_option maxHeartbeats 1000000 in
theorem eqShard_r (hLShard : Has F tLShard) (hLBook : Has F tLBook) (hLAccount : Has F tLAccount) (hLFin : Has F tLFin) (v : Shard.RI h cs t fp) (v' : Shard.RI h cs' u fq) : call F Z 114 [.agg cs, .agg cs'] h = some (.c (.bool (decide (t = u))), h) := by
  obtain ⟨x1, p1, x2, p2, rfl, rfl, w1, w2⟩ := v
  obtain ⟨x1', p1', x2', p2', rfl, rfl, w1', w2'⟩ := v'
  obtain ⟨lo1, hi1, state1, epoch1, book1, finished1⟩ := t
  obtain ⟨lo2, hi2, state2, epoch2, book2, finished2⟩ := u
  have e0 := eqBook_r (Z := Z) hLBook hLAccount (⟨x1, _, rfl, rfl, w1⟩ : Book.RI h _ book1 _) (⟨x1', _, rfl, rfl, w1'⟩ : Book.RI h _ book2 _)
  have e1 := eqFinS_run (Z := Z) hLFin w2 w2'
  clear w1 w1' w2 w2'
  rw [call_run F Z (hLShard.lk (g := 114) rfl) _ _ rfl]
  simp only [run0, run1, run2, run3, run4, noSlot, ownS, ownK, memN, RO.dst, lk, drop, forget, number, Nat.reduceBEq, cut?, splice?, builds, Nat.reduceAdd, Nat.reduceLeDiff, ↓reduceIte, reduceCtorEq, qqa, qqb, qqc, qqd, qqe, qqf, qqg, qqh, qqi, qqj, qqk, qql, qqm, qqn, qqo, qqp, qqq, qqr, qqs, qqt, qqu, qqv, qqw, qqx, qqy, e0, e1]
  (repeat' ((first | (rw [gF_if]; split) | (rw [condC_if]; split) | (rw [pickR_if]; split)) <;> (rename_i hh; (try simp only [Bool.not_eq_true, decide_eq_true_eq] at hh); simp only [hh, run0, run1, run2, run3, run4, noSlot, ownS, ownK, memN, RO.dst, lk, drop, forget, number, Nat.reduceBEq, cut?, splice?, builds, Nat.reduceAdd, Nat.reduceLeDiff, ↓reduceIte, reduceCtorEq, qqa, qqb, qqc, qqd, qqe, qqf, qqg, qqh, qqi, qqj, qqk, qql, qqm, qqn, qqo, qqp, qqq, qqr, qqs, qqt, qqu, qqv, qqw, qqx, qqy, e0, e1]))) <;> clear e0 e1 <;> refine fin_bool ?_ <;> simp_all <;> (try (intros; omega))
end
end Go.Proofs.Ytgfclcpnefinoaa.A
namespace Go.Proofs.Ytgfclcpnefinoaa.A
open Go
def tLHandMsg : List (Nat × RF) := []
end Go.Proofs.Ytgfclcpnefinoaa.A
namespace Go.Proofs.Ytgfclcpnefinoaa.A
open Go
set_option linter.unusedSimpArgs false
set_option linter.unusedVariables false
structure HandMsg where
  step : Int
  lo : Int
  to : Int
  epoch : Int
  shard : Shard
  deriving DecidableEq
def HandMsg.RL : Rel HandMsg := fun h cs t fp => ∃ x1 p1 x2 p2, cs = [.int .i64 t.step, .int .u64 t.lo, .int .i64 t.to, .int .i64 t.epoch, .int .u64 t.shard.lo, .int .u64 t.shard.hi, .int .i64 t.shard.state, .int .i64 t.shard.epoch, x1, x2] ∧ fp = p1 ++ p2 ∧ SlR 12 (Fl Account.enc) h x1 t.shard.book.list p1 ∧ SlR 10 (Fl Fin.enc) h x2 t.shard.finished p2
theorem HandMsg.okL : RelOk HandMsg.RL where
  lt := by
    rintro h cs t fp ⟨x1, p1, x2, p2, rfl, rfl, w1, w2⟩ id hid
    simp only [List.mem_append] at hid
    rcases hid with hid | hid
    · exact w1.lt (Fl.ok _) id hid
    · exact w2.lt (Fl.ok _) id hid
  mv := by
    rintro h h' cs t fp ⟨x1, p1, x2, p2, rfl, rfl, w1, w2⟩ hn hg
    exact ⟨x1, _, x2, _, rfl, rfl, w1.mv (Fl.ok _) hn fun id hid => hg id (by simp [hid]), w2.mv (Fl.ok _) hn fun id hid => hg id (by simp [hid])⟩
def HandMsg.RI : Rel HandMsg := fun h cs t fp => ∃ x1 p1 x2 p2, cs = [.int .i64 t.step, .int .u64 t.lo, .int .i64 t.to, .int .i64 t.epoch, .int .u64 t.shard.lo, .int .u64 t.shard.hi, .int .i64 t.shard.state, .int .i64 t.shard.epoch, x1, x2] ∧ fp = p1 ++ p2 ∧ SlR 11 (Fl Account.enc) h x1 t.shard.book.list p1 ∧ SlR 9 (Fl Fin.enc) h x2 t.shard.finished p2
theorem HandMsg.okI : RelOk HandMsg.RI where
  lt := by
    rintro h cs t fp ⟨x1, p1, x2, p2, rfl, rfl, w1, w2⟩ id hid
    simp only [List.mem_append] at hid
    rcases hid with hid | hid
    · exact w1.lt (Fl.ok _) id hid
    · exact w2.lt (Fl.ok _) id hid
  mv := by
    rintro h h' cs t fp ⟨x1, p1, x2, p2, rfl, rfl, w1, w2⟩ hn hg
    exact ⟨x1, _, x2, _, rfl, rfl, w1.mv (Fl.ok _) hn fun id hid => hg id (by simp [hid]), w2.mv (Fl.ok _) hn fun id hid => hg id (by simp [hid])⟩
theorem HandMsg.lenL {h : Heap} {cs : List Cell} {t : HandMsg} {fp : List Nat} (v : HandMsg.RL h cs t fp) : cs.length = 10 ∧ cs.take 10 = cs ∧ cs.drop 10 = [] := by
  obtain ⟨x1, p1, x2, p2, rfl, _⟩ := v
  exact ⟨rfl, rfl, rfl⟩
theorem HandMsg.lenI {h : Heap} {cs : List Cell} {t : HandMsg} {fp : List Nat} (v : HandMsg.RI h cs t fp) : cs.length = 10 ∧ cs.take 10 = cs ∧ cs.drop 10 = [] := by
  obtain ⟨x1, p1, x2, p2, rfl, _⟩ := v
  exact ⟨rfl, rfl, rfl⟩
namespace HandMsg
structure Ok (t : HandMsg) : Prop where
  step : -9223372036854775808 ≤ t.step ∧ t.step ≤ 9223372036854775807
  lo : 0 ≤ t.lo ∧ t.lo ≤ 18446744073709551615
  to : -9223372036854775808 ≤ t.to ∧ t.to ≤ 9223372036854775807
  epoch : -9223372036854775808 ≤ t.epoch ∧ t.epoch ≤ 9223372036854775807
  shard : t.shard.Ok
def Small (t : HandMsg) : Prop := t.shard.Small
def wt (t : HandMsg) : Int := t.shard.wt
def marked (t : HandMsg) (k : Int) : HandMsg := { t with shard := t.shard.marked (k) }
theorem wt_nn (t : HandMsg) : 0 ≤ t.wt := by
  have := t.shard.wt_nn
  simp only [wt]; omega
theorem wt_le {t : HandMsg} (sm : t.Small) : t.wt ≤ 7340032 := by
  unfold Small at sm
  have := Shard.wt_le sm
  simp only [wt]; omega
end HandMsg
section
variable {F : Nat → Option RF} {Z : CallF} {h : Heap} {cs cs' : List Cell} {t u : HandMsg} {fp fq : List Nat}
end
end Go.Proofs.Ytgfclcpnefinoaa.A
namespace Go.Proofs.Ytgfclcpnefinoaa.A
open Go
set_option linter.unusedSimpArgs false
set_option linter.unusedVariables false
theorem Hand.drp (h : Hand) : h.enc.drop 5 = [] := rfl
def Hand.ok (h : Hand) : Bool := handOk h.lo h.from_ h.to h.epoch h.phase
def Hand.sends (h : Hand) : Int := if h.phase = 1 then h.epoch + 1 else h.epoch
def Hand.done (h : Hand) (step lo epoch : Int) : Hand × Bool := if h.ok = true ∧ h.phase ≠ 3 ∧ step = h.phase ∧ lo = h.lo ∧ epoch = h.sends then ({ h with phase := h.phase + 1 }, true) else (h, false)
def handEp (d e : Int) : Int := if e = 1 then IntKind.i64.wrap (d + 1) else d
section
variable {F : Nat → Option RF} {Z : CallF} {h : Heap} {cs : List Cell} {fp : List Nat} {m : HandMsg}
theorem toHand_e (hL : Has F tLHand) (a : Hand) (h : Heap) : call F Z 2 [.agg a.enc] h = some (.agg a.enc, h) := toHand_run hL _ _ _ _ _ h
theorem handEpoch_run (hI15 : Has F tI15) (a b c d e : Int) (h : Heap) : call F Z 132 [.agg [.int .u64 a, .int .i64 b, .int .i64 c, .int .i64 d, .int .i64 e]] h = some (.c (.int .i64 (handEp d e)), h) := by
  rw [call_run F Z (hI15.lk (g := 132) rfl) _ _ rfl]
  simp only [run0, run1, run2, run3, run4, noSlot, ownS, ownK, memN, RO.dst, lk, drop, forget, number, Nat.reduceBEq, cut?, splice?, builds, Nat.reduceAdd, Nat.reduceLeDiff, ↓reduceIte, reduceCtorEq, qqa, qqb, qqc, qqd, qqe, qqf, qqg, qqh, qqi, qqj, qqk, qql, qqm, qqn, qqo, qqp, qqq, qqr, qqs, qqt, qqu, qqv, qqw, qqx, qqy]
  (repeat' ((first | (rw [gF_if]; split) | (rw [condC_if]; split) | (rw [pickR_if]; split)) <;> (rename_i hh; (try simp only [Bool.not_eq_true, decide_eq_true_eq] at hh); simp only [hh, run0, run1, run2, run3, run4, noSlot, ownS, ownK, memN, RO.dst, lk, drop, forget, number, Nat.reduceBEq, cut?, splice?, builds, Nat.reduceAdd, Nat.reduceLeDiff, ↓reduceIte, reduceCtorEq, qqa, qqb, qqc, qqd, qqe, qqf, qqg, qqh, qqi, qqj, qqk, qql, qqm, qqn, qqo, qqp, qqq, qqr, qqs, qqt, qqu, qqv, qqw, qqx, qqy]))) <;> simp_all [handEp]
set_option maxHeartbeats 4000000 in
theorem handDone_run (hI11 : Has F tI11) (hI15 : Has F tI15) (a : Hand) (v : HandMsg.RI h cs m fp) : call F Z 113 [.agg a.enc, .agg cs] h = some (.tup [.agg (a.done m.step m.lo m.epoch).1.enc, .c (.bool (a.done m.step m.lo m.epoch).2)], h) := by
  obtain ⟨x1, p1, x2, p2, rfl, rfl, w1, w2⟩ := v
  obtain ⟨lo, fr, to, ep, ph⟩ := a
  have hw : handOk lo fr to ep ph = true → IntKind.i64.wrap (ep + 1) = ep + 1 ∧ IntKind.i64.wrap (ph + 1) = ph + 1 := fun hk => by
    simp only [handOk, inR, Bool.and_eq_true, decide_eq_true_eq] at hk
    exact ⟨wrapI _ (by omega) (by omega), wrapI _ (by omega) (by omega)⟩
  rw [call_run F Z (hI15.lk (g := 113) rfl) _ _ rfl]
  simp only [Hand.enc, run0, run1, run2, run3, run4, noSlot, ownS, ownK, memN, RO.dst, lk, drop, forget, number, Nat.reduceBEq, cut?, splice?, builds, Nat.reduceAdd, Nat.reduceLeDiff, ↓reduceIte, reduceCtorEq, qqa, qqb, qqc, qqd, qqe, qqf, qqg, qqh, qqi, qqj, qqk, qql, qqm, qqn, qqo, qqp, qqq, qqr, qqs, qqt, qqu, qqv, qqw, qqx, qqy, isHand_run hI11 hI15, handEpoch_run hI15]
  clear w1 w2
  (repeat' ((first | (rw [gF_if]; split) | (rw [condC_if]; split) | (rw [pickR_if]; split)) <;> (rename_i hh; (try simp only [Bool.not_eq_true, decide_eq_true_eq] at hh); simp only [hh, run0, run1, run2, run3, run4, noSlot, ownS, ownK, memN, RO.dst, lk, drop, forget, number, Nat.reduceBEq, cut?, splice?, builds, Nat.reduceAdd, Nat.reduceLeDiff, ↓reduceIte, reduceCtorEq, qqa, qqb, qqc, qqd, qqe, qqf, qqg, qqh, qqi, qqj, qqk, qql, qqm, qqn, qqo, qqp, qqq, qqr, qqs, qqt, qqu, qqv, qqw, qqx, qqy, isHand_run hI11 hI15, handEpoch_run hI15])))
  all_goals clear hI11 hI15
  all_goals first
    | (simp_all [Hand.done, Hand.ok, Hand.sends, Hand.enc]; done)
    | (simp_all [Hand.done, Hand.ok, Hand.sends, Hand.enc, handEp]; done)
    | (simp_all [Hand.done, Hand.ok, Hand.sends, Hand.enc, handEp]; split <;> simp_all; done)
set_option maxHeartbeats 4000000 in
theorem sHandDone_c (hS : Has F tS01d) (hS15 : Has F tS15) (hf : h.floor ≤ h.next) (a : Hand) (v : HandMsg.RI h cs m fp) : ∃ h', call F Z 84 [.agg a.enc, .agg cs] h = some (.tup [.agg (a.done m.step m.lo m.epoch).1.enc, .c (.bool (a.done m.step m.lo m.epoch).2)], h') ∧ On h h' := by
  obtain ⟨x1, p1, x2, p2, rfl, rfl, w1, w2⟩ := v
  obtain ⟨lo, fr, to, ep, ph⟩ := a
  have hw : handOk lo fr to ep ph = true → IntKind.i64.wrap (ep + 1) = ep + 1 ∧ IntKind.i64.wrap (ph + 1) = ph + 1 := fun hk => by
    simp only [handOk, inR, Bool.and_eq_true, decide_eq_true_eq] at hk
    exact ⟨wrapI _ (by omega) (by omega), wrapI _ (by omega) (by omega)⟩
  refine ⟨h, ?_, On.refl h⟩
  rw [call_run F Z (hS15.lk (g := 84) rfl) _ _ rfl]
  simp only [Hand.enc, run0, run1, run2, run3, run4, noSlot, ownS, ownK, memN, RO.dst, lk, drop, forget, number, Nat.reduceBEq, cut?, splice?, builds, Nat.reduceAdd, Nat.reduceLeDiff, ↓reduceIte, reduceCtorEq, qqa, qqb, qqc, qqd, qqe, qqf, qqg, qqh, qqi, qqj, qqk, qql, qqm, qqn, qqo, qqp, qqq, qqr, qqs, qqt, qqu, qqv, qqw, qqx, qqy, sHandOk_run hS hS15]
  clear w1 w2
  (repeat' ((first | (rw [gF_if]; split) | (rw [condC_if]; split) | (rw [pickR_if]; split)) <;> (rename_i hh; (try simp only [Bool.not_eq_true, decide_eq_true_eq] at hh); simp only [hh, run0, run1, run2, run3, run4, noSlot, ownS, ownK, memN, RO.dst, lk, drop, forget, number, Nat.reduceBEq, cut?, splice?, builds, Nat.reduceAdd, Nat.reduceLeDiff, ↓reduceIte, reduceCtorEq, qqa, qqb, qqc, qqd, qqe, qqf, qqg, qqh, qqi, qqj, qqk, qql, qqm, qqn, qqo, qqp, qqq, qqr, qqs, qqt, qqu, qqv, qqw, qqx, qqy, sHandOk_run hS hS15])))
  all_goals clear hS hS15
  all_goals first
    | (simp_all [Hand.done, Hand.ok, Hand.sends, Hand.enc]; done)
    | (simp_all [Hand.done, Hand.ok, Hand.sends, Hand.enc]; intros; omega)
end
end Go.Proofs.Ytgfclcpnefinoaa.A
namespace Go.Proofs.Ytgfclcpnefinoaa.A
open Go
set_option linter.unusedSimpArgs false
set_option linter.unusedVariables false
def Step2 (r : Option (Ex × St)) (J Q : St → Prop) (L : St → Option (Ex × St)) : Prop := (∃ s', J s' ∧ r = L s') ∨ ∃ s', r = some (.ret, s') ∧ Q s'
section
variable {F : Nat → Option RF} {Z : CallF} {live : List Nat} {b : RC}
theorem loop_acc {α : Type} (xs : List α) (g : α → List (List Cell)) (tag : Nat) (h0 : Heap) (st : Nat → Cell → Heap → St) (hg : ∀ a, (g a).length ≤ 1)
    (hs : ∀ i (hi : i < xs.length) y h rows, Acc tag h0 h y rows → rows.length ≤ i → ∃ y' h', Acc tag h0 h' y' (rows ++ g xs[i]) ∧ loop F Z live b (st i y h) = loop F Z live b (st (i + 1) y' h')) {y : Cell} {h : Heap} (a0 : Acc tag h0 h y []) :
    ∃ y' h', Acc tag h0 h' y' (xs.flatMap g) ∧ loop F Z live b (st 0 y h) = loop F Z live b (st xs.length y' h') := by
  have key : ∀ n, n ≤ xs.length → ∃ y' h', Acc tag h0 h' y' ((xs.take n).flatMap g) ∧ ((xs.take n).flatMap g).length ≤ n ∧ loop F Z live b (st 0 y h) = loop F Z live b (st n y' h') := by
    intro n
    induction n with
    | zero => intro _; exact ⟨y, h, by simpa using a0, by simp, rfl⟩
    | succ n ih =>
      intro hn
      obtain ⟨y1, h1, a1, l1, e1⟩ := ih (by omega)
      obtain ⟨y2, h2, a2, e2⟩ := hs n (by omega) y1 h1 _ a1 l1
      have ht : (xs.take (n + 1)).flatMap g = (xs.take n).flatMap g ++ g xs[n] := by
        rw [List.take_add_one, List.getElem?_eq_getElem (by omega), List.flatMap_append]; simp
      refine ⟨y2, h2, by rw [ht]; exact a2, ?_, e1.trans e2⟩
      rw [ht, List.length_append]
      have := hg xs[n]
      omega
  obtain ⟨y', h', a', _, e'⟩ := key xs.length (Nat.le_refl _)
  rw [List.take_length] at a'
  exact ⟨y', h', a', e'⟩
theorem loop_find {α : Type} (xs : List α) (p : α → Bool) (st : Nat → St) (Q : Nat → St → Prop) (hs : ∀ i (hi : i < xs.length), Turn (loop F Z live b (st i)) (loop F Z live b (st (i + 1))) (!p xs[i]) (Q i)) :
    (xs.findIdx? p = none ∧ loop F Z live b (st 0) = loop F Z live b (st xs.length)) ∨ ∃ i, xs.findIdx? p = some i ∧ i < xs.length ∧ ∃ s, loop F Z live b (st 0) = some (.ret, s) ∧ Q i s := by
  have key : ∀ n, n ≤ xs.length → ((∀ i (hi : i < xs.length), i < n → p xs[i] = false) ∧ loop F Z live b (st 0) = loop F Z live b (st n)) ∨ ∃ i, xs.findIdx? p = some i ∧ i < xs.length ∧ ∃ s, loop F Z live b (st 0) = some (.ret, s) ∧ Q i s := by
    intro n
    induction n with
    | zero => intro _; exact .inl ⟨fun i hi h => absurd h (Nat.not_lt_zero _), rfl⟩
    | succ n ih =>
      intro hn
      rcases ih (by omega) with ⟨h1, h2⟩ | h
      · rcases hs n (by omega) with ⟨h3, h4⟩ | ⟨h3, s, h4, h5⟩
        · refine .inl ⟨fun i hi hl => ?_, h2.trans h4⟩
          by_cases he : i = n
          · subst he; simpa using h3
          · exact h1 i hi (by omega)
        · refine .inr ⟨n, ?_, by omega, s, h2.trans h4, h5⟩
          rw [List.findIdx?_eq_some_iff_getElem]
          refine ⟨by omega, by simpa using h3, fun j hj => ?_⟩
          simpa using h1 j (by omega) (by omega)
      · exact .inr h
  rcases key xs.length (Nat.le_refl _) with ⟨h1, h2⟩ | h
  · refine .inl ⟨?_, h2⟩
    rw [List.findIdx?_eq_none_iff]
    intro a ha
    obtain ⟨i, hi, rfl⟩ := List.mem_iff_getElem.1 ha
    exact h1 i hi hi
  · exact .inr h
theorem loop_rel (n : Nat) (I : Nat → St → Prop) (Q : St → Prop) (hs : ∀ i s, i < n → I i s → Step2 (loop F Z live b s) (I (i + 1)) Q (loop F Z live b)) {s : St} (h0 : I 0 s) :
    (∃ s', I n s' ∧ loop F Z live b s = loop F Z live b s') ∨ ∃ s', loop F Z live b s = some (.ret, s') ∧ Q s' := by
  induction n with
  | zero => exact .inl ⟨s, h0, rfl⟩
  | succ n ih =>
    rcases ih fun i s hi => hs i s (by omega) with ⟨s1, i1, e1⟩ | h
    · rcases hs n s1 (by omega) i1 with ⟨s2, i2, e2⟩ | ⟨s2, e2, q2⟩
      · exact .inl ⟨s2, i2, e1.trans e2⟩
      · exact .inr ⟨s2, e1.trans e2, q2⟩
    · exact .inr h
def findI {α : Type} (p : α → Bool) (xs : List α) : Int := match xs.findIdx? p with
  | some i => (i : Int)
  | none => -1
end
end Go.Proofs.Ytgfclcpnefinoaa.A
namespace Go.Proofs.Ytgfclcpnefinoaa.A
open Go
set_option linter.unusedSimpArgs false
set_option linter.unusedVariables false
theorem On.up (h : Heap) : On h { h with floor := h.floor } := ⟨⟨Nat.le_refl _, fun _ _ => rfl⟩, rfl⟩
theorem SlR.up {α : Type} {R : Rel α} {tag : Nat} {h : Heap} {x : Cell} {xs : List α} {fp : List Nat} (w : SlR tag R h x xs fp) (ok : RelOk R) (n : Nat) : SlR tag R { h with floor := n } x xs fp := w.mv ok (Nat.le_refl _) fun _ _ => rfl
theorem quietly {F : Nat → Option RF} {Z : CallF} {h h' : Heap} {f : Nat} {vs : List V} {r : V} (e : call F Z f vs ⟨h.next, h.next, h.get⟩ = some (r, h')) (o : On ⟨h.next, h.next, h.get⟩ h') :
    ∃ h' g, call F Z f vs ⟨h.next, h.next, h.get⟩ = some (r, h') ∧ Heap.mk h'.next h.floor h'.get = g ∧ On h g := ⟨h', _, e, rfl, ⟨⟨o.ext.1, o.ext.2⟩, rfl⟩⟩
theorem RelOk.up {α : Type} {R : Rel α} (ok : RelOk R) {h : Heap} {cs : List Cell} {a : α} {fp : List Nat} (w : R h cs a fp) (n : Nat) : R ⟨h.next, n, h.get⟩ cs a fp := ok.mv w (Nat.le_refl _) fun _ _ => rfl
end Go.Proofs.Ytgfclcpnefinoaa.A
namespace Go.Proofs.Ytgfclcpnefinoaa.A
open Go
set_option linter.unusedSimpArgs false
set_option linter.unusedVariables false
def cmpI (a b : Int) : Int := if a < b then -1 else if b < a then 1 else 0
def orI (a b : Int) : Int := if a = 0 then b else a
def cmpFin (f g : Fin) : Int := orI (cmpI f.tx g.tx) (cmpI f.id g.id)
theorem fin_eqs (a b c d : Int) : eqsR false [.i .i64, .i .u64] (some (.agg [.int .i64 a, .int .u64 b])) (some (.agg [.int .i64 c, .int .u64 d])) = some (.bool (decide ((⟨a, b⟩ : Fin) = ⟨c, d⟩))) := by
  have hc : cellsEq? [.i .i64, .i .u64] [.int .i64 a, .int .u64 b] [.int .i64 c, .int .u64 d] = some (decide ((⟨a, b⟩ : Fin) = ⟨c, d⟩)) := by
    simp only [cellsEq?, eqK, and_self, if_true, Option.bind_some]
    cases h1 : (a == c) <;> cases h2 : (b == d) <;> simp_all
  simp only [eqsR, List.length_cons, List.length_nil, and_self, if_true, hc, Option.bind_some, Bool.false_xor]
section
variable {F : Nat → Option RF} {Z : CallF} {h : Heap} {x : Cell} {xs : List Fin} {fp : List Nat}
theorem Compare_int_run (h1 : Has F tLibcmpCompareint) (h2 : Has F tLibcmpisNaNint) (a b : Int) (h : Heap) : call F Z 273 [.c (.int .i64 a), .c (.int .i64 b)] h = some (.c (.int .i64 (cmpI a b)), h) := by
  have hn : ∀ (a : Int) (h : Heap), call F Z 276 [.c (.int .i64 a)] h = some (.c (.bool false), h) := by
    intro a h
    rw [call_run F Z (h2.lk (g := 276) rfl) _ _ rfl]
    simp only [run0, run1, run2, run3, run4, noSlot, ownS, ownK, memN, RO.dst, lk, drop, forget, number, Nat.reduceBEq, cut?, splice?, builds, Nat.reduceAdd, Nat.reduceLeDiff, ↓reduceIte, reduceCtorEq, qqa, qqb, qqc, qqd, qqe, qqf, qqg, qqh, qqi, qqj, qqk, qql, qqm, qqn, qqo, qqp, qqq, qqr, qqs, qqt, qqu, qqv, qqw, qqx, qqy]
  rw [call_run F Z (h1.lk (g := 273) rfl) _ _ rfl]
  simp only [run0, run1, run2, run3, run4, noSlot, ownS, ownK, memN, RO.dst, lk, drop, forget, number, Nat.reduceBEq, cut?, splice?, builds, Nat.reduceAdd, Nat.reduceLeDiff, ↓reduceIte, reduceCtorEq, qqa, qqb, qqc, qqd, qqe, qqf, qqg, qqh, qqi, qqj, qqk, qql, qqm, qqn, qqo, qqp, qqq, qqr, qqs, qqt, qqu, qqv, qqw, qqx, qqy, hn]
  (repeat' ((first | (rw [gF_if]; split) | (rw [condC_if]; split) | (rw [pickR_if]; split)) <;> (rename_i hh; (try simp only [Bool.not_eq_true, decide_eq_true_eq] at hh); simp only [hh, run0, run1, run2, run3, run4, noSlot, ownS, ownK, memN, RO.dst, lk, drop, forget, number, Nat.reduceBEq, cut?, splice?, builds, Nat.reduceAdd, Nat.reduceLeDiff, ↓reduceIte, reduceCtorEq, qqa, qqb, qqc, qqd, qqe, qqf, qqg, qqh, qqi, qqj, qqk, qql, qqm, qqn, qqo, qqp, qqq, qqr, qqs, qqt, qqu, qqv, qqw, qqx, qqy, hn]))) <;> simp_all [cmpI] <;> omega
theorem Compare_u64_run (h1 : Has F tLibcmpCompareuint64) (h2 : Has F tLibcmpisNaNuint64) (a b : Int) (h : Heap) : call F Z 274 [.c (.int .u64 a), .c (.int .u64 b)] h = some (.c (.int .i64 (cmpI a b)), h) := by
  have hn : ∀ (a : Int) (h : Heap), call F Z 277 [.c (.int .u64 a)] h = some (.c (.bool false), h) := by
    intro a h
    rw [call_run F Z (h2.lk (g := 277) rfl) _ _ rfl]
    simp only [run0, run1, run2, run3, run4, noSlot, ownS, ownK, memN, RO.dst, lk, drop, forget, number, Nat.reduceBEq, cut?, splice?, builds, Nat.reduceAdd, Nat.reduceLeDiff, ↓reduceIte, reduceCtorEq, qqa, qqb, qqc, qqd, qqe, qqf, qqg, qqh, qqi, qqj, qqk, qql, qqm, qqn, qqo, qqp, qqq, qqr, qqs, qqt, qqu, qqv, qqw, qqx, qqy]
  rw [call_run F Z (h1.lk (g := 274) rfl) _ _ rfl]
  simp only [run0, run1, run2, run3, run4, noSlot, ownS, ownK, memN, RO.dst, lk, drop, forget, number, Nat.reduceBEq, cut?, splice?, builds, Nat.reduceAdd, Nat.reduceLeDiff, ↓reduceIte, reduceCtorEq, qqa, qqb, qqc, qqd, qqe, qqf, qqg, qqh, qqi, qqj, qqk, qql, qqm, qqn, qqo, qqp, qqq, qqr, qqs, qqt, qqu, qqv, qqw, qqx, qqy, hn]
  (repeat' ((first | (rw [gF_if]; split) | (rw [condC_if]; split) | (rw [pickR_if]; split)) <;> (rename_i hh; (try simp only [Bool.not_eq_true, decide_eq_true_eq] at hh); simp only [hh, run0, run1, run2, run3, run4, noSlot, ownS, ownK, memN, RO.dst, lk, drop, forget, number, Nat.reduceBEq, cut?, splice?, builds, Nat.reduceAdd, Nat.reduceLeDiff, ↓reduceIte, reduceCtorEq, qqa, qqb, qqc, qqd, qqe, qqf, qqg, qqh, qqi, qqj, qqk, qql, qqm, qqn, qqo, qqp, qqq, qqr, qqs, qqt, qqu, qqv, qqw, qqx, qqy, hn]))) <;> simp_all [cmpI] <;> omega
theorem indexFin_run (hL : Has F tLibslicesIndeximplFinimplFin) (w : SlR 9 (Fl Fin.enc) h x xs fp) (f : Fin) : call F Z 272 [.c x, .agg f.enc] h = some (.c (.int .i64 (findI (fun a => decide (f = a)) xs)), h) := by
  have hle := w.le2
  rw [call_run F Z (hL.lk (g := 272) rfl) _ _ rfl]
  simp only [run0, run1, run2, run3, run4, noSlot, ownS, ownK, memN, RO.dst, lk, drop, forget, number, Nat.reduceBEq, cut?, splice?, builds, Nat.reduceAdd, Nat.reduceLeDiff, ↓reduceIte, reduceCtorEq, qqa, qqb, qqc, qqd, qqe, qqf, qqg, qqh, qqi, qqj, qqk, qql, qqm, qqn, qqo, qqp, qqq, qqr, qqs, qqt, qqu, qqv, qqw, qqx, qqy, w.len]
  have key := loop_find (F := F) (Z := Z) (live := [0, 3, 7, 8]) (b := r272L0) xs (fun a => decide (f = a)) (fun i => ⟨[(0, .c x), (7, .c (.int .i64 (xs.length : Nat))), (8, .c (.int .i64 (i : Nat)))], [(3, 3, 0)], [(3, f.enc)], h⟩) (fun i s => lk s.env 4 = some (.c (.int .i64 (i : Nat))) ∧ s.hp = h) fun i hi => by
    have hlt : (i : Int) < xs.length := by omega
    have hws := wrapS i (by omega)
    have hxi := w.idx hi
    have hld := w.load hi
    generalize xs[i] = a at *
    obtain ⟨t, d⟩ := a
    obtain ⟨t', d'⟩ := f
    rw [loop_run]
    conv in (codeF _ _ r272L0 _) => unfold r272L0
    have fe := fin_eqs t' d' t d
    simp only [run0, run1, run2, run3, run4, noSlot, ownS, ownK, memN, RO.dst, lk, drop, forget, number, Nat.reduceBEq, cut?, splice?, builds, Nat.reduceAdd, Nat.reduceLeDiff, ↓reduceIte, reduceCtorEq, qqa, qqb, qqc, qqd, qqe, qqf, qqg, qqh, qqi, qqj, qqk, qql, qqm, qqn, qqo, qqp, qqq, qqr, qqs, qqt, qqu, qqv, qqw, qqx, qqy, hlt, hxi, hld, Fin.enc, fe]
    clear hxi hld fe w
    (repeat' ((first | (rw [gF_if]; split) | (rw [condC_if]; split) | (rw [pickR_if]; split)) <;> (rename_i hh; (try simp only [Bool.not_eq_true, decide_eq_true_eq] at hh); simp only [hh, run0, run1, run2, run3, run4, noSlot, ownS, ownK, memN, RO.dst, lk, drop, forget, number, Nat.reduceBEq, cut?, splice?, builds, Nat.reduceAdd, Nat.reduceLeDiff, ↓reduceIte, reduceCtorEq, qqa, qqb, qqc, qqd, qqe, qqf, qqg, qqh, qqi, qqj, qqk, qql, qqm, qqn, qqo, qqp, qqq, qqr, qqs, qqt, qqu, qqv, qqw, qqx, qqy, hws]))) <;> first
      | exact .inl ⟨by simp_all, rfl⟩
      | exact .inr ⟨by simp_all, _, rfl, rfl, rfl⟩
  have hlt : ¬ (xs.length : Int) < xs.length := by omega
  simp only [show ((0 : Nat) : Int) = 0 from rfl] at key
  rcases key with ⟨k1, k2⟩ | ⟨i, k1, hi, s, k2, k3, k4⟩
  · rw [k2, loop_run]
    conv in (codeF _ _ r272L0 _) => unfold r272L0
    simp only [run0, run1, run2, run3, run4, noSlot, ownS, ownK, memN, RO.dst, lk, drop, forget, number, Nat.reduceBEq, cut?, splice?, builds, Nat.reduceAdd, Nat.reduceLeDiff, ↓reduceIte, reduceCtorEq, qqa, qqb, qqc, qqd, qqe, qqf, qqg, qqh, qqi, qqj, qqk, qql, qqm, qqn, qqo, qqp, qqq, qqr, qqs, qqt, qqu, qqv, qqw, qqx, qqy, hlt, findI, k1]
  · rw [k2]
    simp only [run0, run1, run2, run3, run4, noSlot, ownS, ownK, memN, RO.dst, lk, drop, forget, number, Nat.reduceBEq, cut?, splice?, builds, Nat.reduceAdd, Nat.reduceLeDiff, ↓reduceIte, reduceCtorEq, qqa, qqb, qqc, qqd, qqe, qqf, qqg, qqh, qqi, qqj, qqk, qql, qqm, qqn, qqo, qqp, qqq, qqr, qqs, qqt, qqu, qqv, qqw, qqx, qqy, k3, k4, findI, k1]
theorem containsFin_run (hL : Has F tLibslicesIndeximplFinimplFin) (hC : Has F tLibslicesContainsimplFinimplFin) (w : SlR 9 (Fl Fin.enc) h x xs fp) (f : Fin) : call F Z 266 [.c x, .agg f.enc] h = some (.c (.bool (decide (f ∈ xs))), h) := by
  rw [call_run F Z (hC.lk (g := 266) rfl) _ _ rfl]
  simp only [run0, run1, run2, run3, run4, noSlot, ownS, ownK, memN, RO.dst, lk, drop, forget, number, Nat.reduceBEq, cut?, splice?, builds, Nat.reduceAdd, Nat.reduceLeDiff, ↓reduceIte, reduceCtorEq, qqa, qqb, qqc, qqd, qqe, qqf, qqg, qqh, qqi, qqj, qqk, qql, qqm, qqn, qqo, qqp, qqq, qqr, qqs, qqt, qqu, qqv, qqw, qqx, qqy, Fin.len, Fin.tak, indexFin_run hL w f]
  congr 4
  unfold findI
  cases hf : xs.findIdx? (fun a => decide (f = a)) with
  | none =>
    rw [List.findIdx?_eq_none_iff] at hf
    have : ¬ f ∈ xs := fun hm => by simpa using hf f hm
    simp [this]
  | some i =>
    rw [List.findIdx?_eq_some_iff_getElem] at hf
    obtain ⟨hi, h2, _⟩ := hf
    have : f ∈ xs := by
      have : f = xs[i] := by simpa using h2
      rw [this]; exact List.getElem_mem hi
    simp [this]
theorem Or2_run (hO : Has F tLibcmpOrint) {o : Nat} (a b : Int) (hg : h.get o = some [[.int .i64 a], [.int .i64 b]]) : call F Z 275 [.c (.sl 15 o 0 2)] h = some (.c (.int .i64 (orI a b)), h) := by
  have l0 : ∀ j n, loadP h o 0 j n = cut? [.int .i64 a] j n := fun j n => by simp [loadP, rowOf, hg]
  have l1 : ∀ j n, loadP h o 1 j n = cut? [.int .i64 b] j n := fun j n => by simp [loadP, rowOf, hg]
  have i0 : idxR 15 (some (.sl 15 o 0 2)) (some 0) = some (.ptr o 0 0) := rfl
  have i1 : idxR 15 (some (.sl 15 o 0 2)) (some 1) = some (.ptr o 1 0) := rfl
  have w1 : IntKind.i64.wrap (0 + 1) = 1 := wrapI _ (by omega) (by omega)
  have w2 : IntKind.i64.wrap (1 + 1) = 2 := wrapI _ (by omega) (by omega)
  have c0 : (0 : Int) < ((2 : Nat) : Int) := by omega
  have c1 : (1 : Int) < ((2 : Nat) : Int) := by omega
  have c2 : ¬ (2 : Int) < ((2 : Nat) : Int) := by omega
  rw [call_run F Z (hO.lk (g := 275) rfl) _ _ rfl]
  simp only [run0, run1, run2, run3, run4, noSlot, ownS, ownK, memN, RO.dst, lk, drop, forget, number, Nat.reduceBEq, cut?, splice?, builds, Nat.reduceAdd, Nat.reduceLeDiff, ↓reduceIte, reduceCtorEq, qqa, qqb, qqc, qqd, qqe, qqf, qqg, qqh, qqi, qqj, qqk, qql, qqm, qqn, qqo, qqp, qqq, qqr, qqs, qqt, qqu, qqv, qqw, qqx, qqy]
  rw [loop_run]
  conv in (codeF _ _ r275L0 _) => unfold r275L0
  by_cases ha : a = 0
  · subst ha
    simp only [run0, run1, run2, run3, run4, noSlot, ownS, ownK, memN, RO.dst, lk, drop, forget, number, Nat.reduceBEq, cut?, splice?, builds, Nat.reduceAdd, Nat.reduceLeDiff, ↓reduceIte, reduceCtorEq, qqa, qqb, qqc, qqd, qqe, qqf, qqg, qqh, qqi, qqj, qqk, qql, qqm, qqn, qqo, qqp, qqq, qqr, qqs, qqt, qqu, qqv, qqw, qqx, qqy, c0, i0, l0, w1]
    rw [loop_run]
    conv in (codeF _ _ r275L0 _) => unfold r275L0
    by_cases hb : b = 0
    · subst hb
      simp only [run0, run1, run2, run3, run4, noSlot, ownS, ownK, memN, RO.dst, lk, drop, forget, number, Nat.reduceBEq, cut?, splice?, builds, Nat.reduceAdd, Nat.reduceLeDiff, ↓reduceIte, reduceCtorEq, qqa, qqb, qqc, qqd, qqe, qqf, qqg, qqh, qqi, qqj, qqk, qql, qqm, qqn, qqo, qqp, qqq, qqr, qqs, qqt, qqu, qqv, qqw, qqx, qqy, c1, i1, l1, w2]
      rw [loop_run]
      conv in (codeF _ _ r275L0 _) => unfold r275L0
      simp only [run0, run1, run2, run3, run4, noSlot, ownS, ownK, memN, RO.dst, lk, drop, forget, number, Nat.reduceBEq, cut?, splice?, builds, Nat.reduceAdd, Nat.reduceLeDiff, ↓reduceIte, reduceCtorEq, qqa, qqb, qqc, qqd, qqe, qqf, qqg, qqh, qqi, qqj, qqk, qql, qqm, qqn, qqo, qqp, qqq, qqr, qqs, qqt, qqu, qqv, qqw, qqx, qqy, c2, orI]
    · have hb' : (b != 0) = true := by simpa using hb
      simp only [run0, run1, run2, run3, run4, noSlot, ownS, ownK, memN, RO.dst, lk, drop, forget, number, Nat.reduceBEq, cut?, splice?, builds, Nat.reduceAdd, Nat.reduceLeDiff, ↓reduceIte, reduceCtorEq, qqa, qqb, qqc, qqd, qqe, qqf, qqg, qqh, qqi, qqj, qqk, qql, qqm, qqn, qqo, qqp, qqq, qqr, qqs, qqt, qqu, qqv, qqw, qqx, qqy, c1, i1, l1, hb', orI]
  · have ha' : (a != 0) = true := by simpa using ha
    simp only [run0, run1, run2, run3, run4, noSlot, ownS, ownK, memN, RO.dst, lk, drop, forget, number, Nat.reduceBEq, cut?, splice?, builds, Nat.reduceAdd, Nat.reduceLeDiff, ↓reduceIte, reduceCtorEq, qqa, qqb, qqc, qqd, qqe, qqf, qqg, qqh, qqi, qqj, qqk, qql, qqm, qqn, qqo, qqp, qqq, qqr, qqs, qqt, qqu, qqv, qqw, qqx, qqy, c0, i0, l0, ha', orI, ha]
end
end Go.Proofs.Ytgfclcpnefinoaa.A
namespace Go.Proofs.Ytgfclcpnefinoaa.A
open Go
set_option linter.unusedSimpArgs false
set_option linter.unusedVariables false
def Account.at_ (xs : List Account) (i : Nat) : Account := xs[i]?.getD Account.none_
def Account.fine (a : Account) : Bool := decide (a.bal + a.hold + a.due ≤ 18446744073709551615) && (decide (0 ≤ a.tx) && (a.tx != 0 || (a.hold == 0 && a.due == 0)))
def Account.fits (xs : List Account) (i : Nat) : Bool := (Account.at_ xs i).fine && (i == 0 || decide ((Account.at_ xs (i - 1)).id < (Account.at_ xs i).id))
def bookOk (xs : List Account) : Bool := (List.range xs.length).all (Account.fits xs) && decide ((xs.length : Int) ≤ 40)
section
variable {F : Nat → Option RF} {Z : CallF} {h : Heap} {x : Cell} {xs : List Account} {fp : List Nat}
set_option maxHeartbeats 4000000 in
theorem isBook_turn (w : SlR 11 (Fl Account.enc) h x xs fp) (hok : ∀ t, t ∈ xs → t.Ok) (i : Nat) (hi : i < xs.length) :
    Turn (loop F Z [1, 10, 11, 12] r265L0 ⟨[(10, .c x), (11, .c (.int .i64 (xs.length : Nat))), (12, .c (.int .i64 (i : Nat)))], [(1, 1, 0)], [(1, [x])], h⟩)
      (loop F Z [1, 10, 11, 12] r265L0 ⟨[(10, .c x), (11, .c (.int .i64 (xs.length : Nat))), (12, .c (.int .i64 ((i + 1 : Nat) : Int)))], [(1, 1, 0)], [(1, [x])], h⟩) (Account.fits xs i) (fun s => lk s.env 2 = some (.c (.bool false)) ∧ s.hp = h) := by
  have hle := w.le2
  have hlt : (i : Int) < xs.length := by omega
  have hws := wrapS i (by omega)
  have o1 := hok _ (List.getElem_mem hi)
  have e1 : Account.at_ xs i = xs[i] := by simp [Account.at_, List.getElem?_eq_getElem hi]
  have hfit : Account.fits xs i = (xs[i].fine && (i == 0 || decide ((Account.at_ xs (i - 1)).id < xs[i].id))) := by simp only [Account.fits, e1]
  have hpre : 0 < i → IntKind.i64.wrap ((i : Int) - 1) = ((i - 1 : Nat) : Int) := fun hp => by rw [wrapI _ (by omega) (by omega)]; omega
  rw [hfit]
  have hxi := w.idx hi
  have hld := w.load hi
  have hpi : 0 < i → idxR 11 (some x) (some ((i - 1 : Nat) : Int)) = some (.ptr x.sid (i - 1) 0) := fun hp => w.idx (by omega)
  have hpl : 0 < i → ∀ j n, loadP h x.sid (i - 1) j n = cut? (Account.at_ xs (i - 1)).enc j n := fun hp => w.loadD Account.none_ (by omega)
  clear w hfit e1 hok
  generalize Account.at_ xs (i - 1) = pa at *
  generalize xs[i] = a at *
  obtain ⟨id, bal, hold, due, tx⟩ := a
  obtain ⟨a1, a2, a3, a4, a5⟩ := o1
  dsimp only at a1 a2 a3 a4 a5
  obtain ⟨b1, _⟩ := a2
  obtain ⟨b2, _⟩ := a3
  obtain ⟨b3, _⟩ := a4
  have hwb : IntKind.u64.wrap (bal + hold) = (bal + hold) % 18446744073709551616 := rfl
  have b4 : 0 ≤ (bal + hold) % 18446744073709551616 := by omega
  have b5 : (0 : Int) ≤ 0 := by omega
  have b6 : (0 : Int) ≤ 1 := by omega
  have hwc : IntKind.u64.wrap ((bal + hold + 0) / 18446744073709551616 + ((bal + hold) % 18446744073709551616 + due + 0) / 18446744073709551616) = (bal + hold + 0) / 18446744073709551616 + ((bal + hold) % 18446744073709551616 + due + 0) / 18446744073709551616 := wrapU _ (by omega) (by omega)
  rw [loop_run]
  conv in (codeF _ _ r265L0 _) => unfold r265L0
  simp only [run0, run1, run2, run3, run4, noSlot, ownS, ownK, memN, RO.dst, lk, drop, forget, number, Nat.reduceBEq, cut?, splice?, builds, Nat.reduceAdd, Nat.reduceLeDiff, ↓reduceIte, reduceCtorEq, qqa, qqb, qqc, qqd, qqe, qqf, qqg, qqh, qqi, qqj, qqk, qql, qqm, qqn, qqo, qqp, qqq, qqr, qqs, qqt, qqu, qqv, qqw, qqx, qqy, hlt, hxi, hld, Account.enc, b1, b2, b3, b4, b5, b6, and_self, hwb, hwc]
  by_cases hp : 0 < i
  · have g1 : (i : Int) > 0 := by omega
    have hi0 : (i == 0) = false := by simp; omega
    have q1 := hpre hp
    have q2 := hpi hp
    have q3 := hpl hp
    clear hxi hld hpre hpi hpl
    (repeat' ((first | (rw [gF_if]; split) | (rw [condC_if]; split) | (rw [pickR_if]; split)) <;> (rename_i hh; (try simp only [Bool.not_eq_true, decide_eq_true_eq] at hh); simp only [hh, run0, run1, run2, run3, run4, noSlot, ownS, ownK, memN, RO.dst, lk, drop, forget, number, Nat.reduceBEq, cut?, splice?, builds, Nat.reduceAdd, Nat.reduceLeDiff, ↓reduceIte, reduceCtorEq, qqa, qqb, qqc, qqd, qqe, qqf, qqg, qqh, qqi, qqj, qqk, qql, qqm, qqn, qqo, qqp, qqq, qqr, qqs, qqt, qqu, qqv, qqw, qqx, qqy, hws, g1, q1, q2, q3, Account.enc])))
    all_goals clear q2 q3
    all_goals first
      | (exfalso; omega)
      | exact .inl ⟨by simp_all [Account.fine] <;> omega, rfl⟩
      | exact .inr ⟨by simp_all [Account.fine] <;> omega, _, rfl, rfl, rfl⟩
  · have g1 : ¬ (i : Int) > 0 := by omega
    have hi0 : (i == 0) = true := by simp; omega
    clear hxi hld hpre hpi hpl
    (repeat' ((first | (rw [gF_if]; split) | (rw [condC_if]; split) | (rw [pickR_if]; split)) <;> (rename_i hh; (try simp only [Bool.not_eq_true, decide_eq_true_eq] at hh); simp only [hh, run0, run1, run2, run3, run4, noSlot, ownS, ownK, memN, RO.dst, lk, drop, forget, number, Nat.reduceBEq, cut?, splice?, builds, Nat.reduceAdd, Nat.reduceLeDiff, ↓reduceIte, reduceCtorEq, qqa, qqb, qqc, qqd, qqe, qqf, qqg, qqh, qqi, qqj, qqk, qql, qqm, qqn, qqo, qqp, qqq, qqr, qqs, qqt, qqu, qqv, qqw, qqx, qqy, hws, g1, Account.enc])))
    all_goals first
      | (exfalso; omega)
      | exact .inl ⟨by simp_all [Account.fine] <;> omega, rfl⟩
      | exact .inr ⟨by simp_all [Account.fine] <;> omega, _, rfl, rfl, rfl⟩
theorem isBook_run (hI10 : Has F tI10) (w : SlR 11 (Fl Account.enc) h x xs fp) (hok : ∀ t, t ∈ xs → t.Ok) : call F Z 265 [.agg [x]] h = some (.c (.bool (bookOk xs)), h) := by
  have key := loop_allN (F := F) (Z := Z) (live := [1, 10, 11, 12]) (b := r265L0) xs.length (fun i => ⟨[(10, .c x), (11, .c (.int .i64 (xs.length : Nat))), (12, .c (.int .i64 (i : Nat)))], [(1, 1, 0)], [(1, [x])], h⟩) (Account.fits xs) (fun s => lk s.env 2 = some (.c (.bool false)) ∧ s.hp = h) fun i hi => isBook_turn w hok i hi
  rw [call_run F Z (hI10.lk (g := 265) rfl) _ _ rfl]
  simp only [run0, run1, run2, run3, run4, noSlot, ownS, ownK, memN, RO.dst, lk, drop, forget, number, Nat.reduceBEq, cut?, splice?, builds, Nat.reduceAdd, Nat.reduceLeDiff, ↓reduceIte, reduceCtorEq, qqa, qqb, qqc, qqd, qqe, qqf, qqg, qqh, qqi, qqj, qqk, qql, qqm, qqn, qqo, qqp, qqq, qqr, qqs, qqt, qqu, qqv, qqw, qqx, qqy, w.len]
  simp only [show ((0 : Nat) : Int) = 0 from rfl] at key
  have hlt : ¬ (xs.length : Int) < xs.length := by omega
  rcases key with ⟨k1, k2⟩ | ⟨k1, s, k2, k3, k4⟩
  · rw [k2, loop_run]
    conv in (codeF _ _ r265L0 _) => unfold r265L0
    simp only [run0, run1, run2, run3, run4, noSlot, ownS, ownK, memN, RO.dst, lk, drop, forget, number, Nat.reduceBEq, cut?, splice?, builds, Nat.reduceAdd, Nat.reduceLeDiff, ↓reduceIte, reduceCtorEq, qqa, qqb, qqc, qqd, qqe, qqf, qqg, qqh, qqi, qqj, qqk, qql, qqm, qqn, qqo, qqp, qqq, qqr, qqs, qqt, qqu, qqv, qqw, qqx, qqy, w.len, hlt, bookOk, k1, Bool.true_and]
  · rw [k2]
    simp only [run0, run1, run2, run3, run4, noSlot, ownS, ownK, memN, RO.dst, lk, drop, forget, number, Nat.reduceBEq, cut?, splice?, builds, Nat.reduceAdd, Nat.reduceLeDiff, ↓reduceIte, reduceCtorEq, qqa, qqb, qqc, qqd, qqe, qqf, qqg, qqh, qqi, qqj, qqk, qql, qqm, qqn, qqo, qqp, qqq, qqr, qqs, qqt, qqu, qqv, qqw, qqx, qqy, k3, k4, bookOk, k1, Bool.false_and]
set_option maxHeartbeats 4000000 in
theorem sBookOk_turn (w : SlR 11 (Fl Account.enc) h x xs fp) (hok : ∀ t, t ∈ xs → t.Ok) (i : Nat) (hi : i < xs.length) :
    Turn (loop F Z [1, 3] r241L0 ⟨[(3, .c (.int .i64 (i : Nat)))], [(1, 1, 0)], [(1, [x])], h⟩)
      (loop F Z [1, 3] r241L0 ⟨[(3, .c (.int .i64 ((i + 1 : Nat) : Int)))], [(1, 1, 0)], [(1, [x])], h⟩) (Account.fits xs i) (fun s => lk s.env 2 = some (.c (.bool false)) ∧ s.hp = h) := by
  have hle := w.le2
  have w0 := w.len
  have hlt : (i : Int) < xs.length := by omega
  have hws := wrapS i (by omega)
  have o1 := hok _ (List.getElem_mem hi)
  have e1 : Account.at_ xs i = xs[i] := by simp [Account.at_, List.getElem?_eq_getElem hi]
  have hfit : Account.fits xs i = (xs[i].fine && (i == 0 || decide ((Account.at_ xs (i - 1)).id < xs[i].id))) := by simp only [Account.fits, e1]
  have hpre : 0 < i → IntKind.i64.wrap ((i : Int) - 1) = ((i - 1 : Nat) : Int) := fun hp => by rw [wrapI _ (by omega) (by omega)]; omega
  rw [hfit]
  have hxi := w.idx hi
  have hld := w.load hi
  have hpi : 0 < i → idxR 11 (some x) (some ((i - 1 : Nat) : Int)) = some (.ptr x.sid (i - 1) 0) := fun hp => w.idx (by omega)
  have hpl : 0 < i → ∀ j n, loadP h x.sid (i - 1) j n = cut? (Account.at_ xs (i - 1)).enc j n := fun hp => w.loadD Account.none_ (by omega)
  clear w hfit e1 hok
  generalize Account.at_ xs (i - 1) = pa at *
  generalize xs[i] = a at *
  obtain ⟨id, bal, hold, due, tx⟩ := a
  obtain ⟨a1, a2, a3, a4, a5⟩ := o1
  dsimp only at a1 a2 a3 a4 a5
  obtain ⟨b1, b1'⟩ := a2
  obtain ⟨b2, _⟩ := a3
  obtain ⟨b3, _⟩ := a4
  have hwb : IntKind.u64.wrap (18446744073709551615 - bal) = 18446744073709551615 - bal := wrapU _ (by omega) (by omega)
  have hwc : hold ≤ 18446744073709551615 - bal → IntKind.u64.wrap (18446744073709551615 - bal - hold) = 18446744073709551615 - bal - hold := fun hh => wrapU _ (by omega) (by omega)
  have hwl := w0
  rw [loop_run]
  conv in (codeF _ _ r241L0 _) => unfold r241L0
  simp only [run0, run1, run2, run3, run4, noSlot, ownS, ownK, memN, RO.dst, lk, drop, forget, number, Nat.reduceBEq, cut?, splice?, builds, Nat.reduceAdd, Nat.reduceLeDiff, ↓reduceIte, reduceCtorEq, qqa, qqb, qqc, qqd, qqe, qqf, qqg, qqh, qqi, qqj, qqk, qql, qqm, qqn, qqo, qqp, qqq, qqr, qqs, qqt, qqu, qqv, qqw, qqx, qqy, hwl, hlt, hxi, hld, Account.enc, hwb]
  by_cases hp : 0 < i
  · have g1 : (i : Int) > 0 := by omega
    have hi0 : (i == 0) = false := by simp; omega
    have q1 := hpre hp
    have q2 := hpi hp
    have q3 := hpl hp
    clear hxi hld hpre hpi hpl
    (repeat' ((first | (rw [gF_if]; split) | (rw [condC_if]; split) | (rw [pickR_if]; split)) <;> (rename_i hh; (try simp only [Bool.not_eq_true, decide_eq_true_eq] at hh); simp only [hh, run0, run1, run2, run3, run4, noSlot, ownS, ownK, memN, RO.dst, lk, drop, forget, number, Nat.reduceBEq, cut?, splice?, builds, Nat.reduceAdd, Nat.reduceLeDiff, ↓reduceIte, reduceCtorEq, qqa, qqb, qqc, qqd, qqe, qqf, qqg, qqh, qqi, qqj, qqk, qql, qqm, qqn, qqo, qqp, qqq, qqr, qqs, qqt, qqu, qqv, qqw, qqx, qqy, hws, g1, q1, q2, q3, Account.enc, hwb])))
    all_goals clear q2 q3
    all_goals first
      | (exfalso; omega)
      | exact .inl ⟨by simp_all [Account.fine] <;> omega, rfl⟩
      | exact .inr ⟨by simp_all [Account.fine] <;> omega, _, rfl, rfl, rfl⟩
  · have g1 : ¬ (i : Int) > 0 := by omega
    have hi0 : (i == 0) = true := by simp; omega
    clear hxi hld hpre hpi hpl
    (repeat' ((first | (rw [gF_if]; split) | (rw [condC_if]; split) | (rw [pickR_if]; split)) <;> (rename_i hh; (try simp only [Bool.not_eq_true, decide_eq_true_eq] at hh); simp only [hh, run0, run1, run2, run3, run4, noSlot, ownS, ownK, memN, RO.dst, lk, drop, forget, number, Nat.reduceBEq, cut?, splice?, builds, Nat.reduceAdd, Nat.reduceLeDiff, ↓reduceIte, reduceCtorEq, qqa, qqb, qqc, qqd, qqe, qqf, qqg, qqh, qqi, qqj, qqk, qql, qqm, qqn, qqo, qqp, qqq, qqr, qqs, qqt, qqu, qqv, qqw, qqx, qqy, hws, g1, Account.enc, hwb])))
    all_goals first
      | (exfalso; omega)
      | exact .inl ⟨by simp_all [Account.fine] <;> omega, rfl⟩
      | exact .inr ⟨by simp_all [Account.fine] <;> omega, _, rfl, rfl, rfl⟩
theorem sBookOk_run (hS10 : Has F tS10) (w : SlR 11 (Fl Account.enc) h x xs fp) (hok : ∀ t, t ∈ xs → t.Ok) : call F Z 241 [.agg [x]] h = some (.c (.bool (bookOk xs)), h) := by
  have key := loop_allN (F := F) (Z := Z) (live := [1, 3]) (b := r241L0) xs.length (fun i => ⟨[(3, .c (.int .i64 (i : Nat)))], [(1, 1, 0)], [(1, [x])], h⟩) (Account.fits xs) (fun s => lk s.env 2 = some (.c (.bool false)) ∧ s.hp = h) fun i hi => sBookOk_turn w hok i hi
  rw [call_run F Z (hS10.lk (g := 241) rfl) _ _ rfl]
  simp only [run0, run1, run2, run3, run4, noSlot, ownS, ownK, memN, RO.dst, lk, drop, forget, number, Nat.reduceBEq, cut?, splice?, builds, Nat.reduceAdd, Nat.reduceLeDiff, ↓reduceIte, reduceCtorEq, qqa, qqb, qqc, qqd, qqe, qqf, qqg, qqh, qqi, qqj, qqk, qql, qqm, qqn, qqo, qqp, qqq, qqr, qqs, qqt, qqu, qqv, qqw, qqx, qqy, w.len]
  simp only [show ((0 : Nat) : Int) = 0 from rfl] at key
  have hlt : ¬ (xs.length : Int) < xs.length := by omega
  by_cases hn : (xs.length : Int) > 40
  · have : ¬ (xs.length : Int) ≤ 40 := by omega
    simp only [run0, run1, run2, run3, run4, noSlot, ownS, ownK, memN, RO.dst, lk, drop, forget, number, Nat.reduceBEq, cut?, splice?, builds, Nat.reduceAdd, Nat.reduceLeDiff, ↓reduceIte, reduceCtorEq, qqa, qqb, qqc, qqd, qqe, qqf, qqg, qqh, qqi, qqj, qqk, qql, qqm, qqn, qqo, qqp, qqq, qqr, qqs, qqt, qqu, qqv, qqw, qqx, qqy, hn, bookOk, this, Bool.and_false]
  · have h40 : (xs.length : Int) ≤ 40 := by omega
    simp only [run0, run1, run2, run3, run4, noSlot, ownS, ownK, memN, RO.dst, lk, drop, forget, number, Nat.reduceBEq, cut?, splice?, builds, Nat.reduceAdd, Nat.reduceLeDiff, ↓reduceIte, reduceCtorEq, qqa, qqb, qqc, qqd, qqe, qqf, qqg, qqh, qqi, qqj, qqk, qql, qqm, qqn, qqo, qqp, qqq, qqr, qqs, qqt, qqu, qqv, qqw, qqx, qqy, hn]
    rcases key with ⟨k1, k2⟩ | ⟨k1, s, k2, k3, k4⟩
    · rw [k2, loop_run]
      conv in (codeF _ _ r241L0 _) => unfold r241L0
      simp only [run0, run1, run2, run3, run4, noSlot, ownS, ownK, memN, RO.dst, lk, drop, forget, number, Nat.reduceBEq, cut?, splice?, builds, Nat.reduceAdd, Nat.reduceLeDiff, ↓reduceIte, reduceCtorEq, qqa, qqb, qqc, qqd, qqe, qqf, qqg, qqh, qqi, qqj, qqk, qql, qqm, qqn, qqo, qqp, qqq, qqr, qqs, qqt, qqu, qqv, qqw, qqx, qqy, w.len, hlt, bookOk, k1, Bool.true_and, h40]
    · rw [k2]
      simp only [run0, run1, run2, run3, run4, noSlot, ownS, ownK, memN, RO.dst, lk, drop, forget, number, Nat.reduceBEq, cut?, splice?, builds, Nat.reduceAdd, Nat.reduceLeDiff, ↓reduceIte, reduceCtorEq, qqa, qqb, qqc, qqd, qqe, qqf, qqg, qqh, qqi, qqj, qqk, qql, qqm, qqn, qqo, qqp, qqq, qqr, qqs, qqt, qqu, qqv, qqw, qqx, qqy, k3, k4, bookOk, k1, Bool.false_and]
end
end Go.Proofs.Ytgfclcpnefinoaa.A
namespace Go.Proofs.Ytgfclcpnefinoaa.A
open Go
set_option linter.unusedSimpArgs false
set_option linter.unusedVariables false
def Fin.at_ (xs : List Fin) (i : Nat) : Fin := xs[i]?.getD Fin.none_
def Shard.acc (s : Shard) (a : Account) : Bool := decide (s.lo ≤ a.id) && (decide (a.id ≤ s.hi) && !decide ((⟨a.tx, a.id⟩ : Fin) ∈ s.finished))
def Shard.finAt (s : Shard) (i : Nat) : Bool := decide (1 ≤ (Fin.at_ s.finished i).tx) && (decide (s.lo ≤ (Fin.at_ s.finished i).id) && (decide ((Fin.at_ s.finished i).id ≤ s.hi) && (i == 0 || decide (cmpFin (Fin.at_ s.finished (i - 1)) (Fin.at_ s.finished i) < 0))))
section
variable {F : Nat → Option RF} {Z : CallF} {h : Heap} {x : Cell} {xs : List Fin} {fp : List Nat}
theorem compareFins_run (hI13 : Has F tI13) (h1 : Has F tLibcmpCompareint) (h2 : Has F tLibcmpCompareuint64) (h3 : Has F tLibcmpOrint) (h4 : Has F tLibcmpisNaNint) (h5 : Has F tLibcmpisNaNuint64) (f g : Fin) (h : Heap) :
    call F Z 267 [.agg f.enc, .agg g.enc] h = some (.c (.int .i64 (cmpFin f g)), h.push [[.int .i64 (cmpI f.tx g.tx)], [.int .i64 (cmpI f.id g.id)]]) := by
  obtain ⟨t, d⟩ := f
  obtain ⟨t', d'⟩ := g
  have ho := Or2_run (Z := Z) (h := ⟨(h.push [[.int .i64 (cmpI t t')], [.int .i64 (cmpI d d')]]).next, (h.push [[.int .i64 (cmpI t t')], [.int .i64 (cmpI d d')]]).next, (h.push [[.int .i64 (cmpI t t')], [.int .i64 (cmpI d d')]]).get⟩) h3 (o := h.next) (cmpI t t') (cmpI d d') (push_get _ _)
  rw [call_run F Z (hI13.lk (g := 267) rfl) _ _ rfl]
  simp only [run0, run1, run2, run3, run4, noSlot, ownS, ownK, memN, RO.dst, lk, drop, forget, number, Nat.reduceBEq, cut?, splice?, builds, Nat.reduceAdd, Nat.reduceLeDiff, ↓reduceIte, reduceCtorEq, qqa, qqb, qqc, qqd, qqe, qqf, qqg, qqh, qqi, qqj, qqk, qql, qqm, qqn, qqo, qqp, qqq, qqr, qqs, qqt, qqu, qqv, qqw, qqx, qqy, Fin.enc, Compare_int_run h1 h4, Compare_u64_run h2 h5, List.replicate_succ, List.replicate_zero, fills, and_self, Nat.zero_lt_succ, Nat.reduceLT, List.set_cons_zero, List.set_cons_succ, ho]
  rfl
variable {s : Shard} {y : Cell} {fq : List Nat}
set_option maxHeartbeats 2000000 in
theorem isShard_accs (hL : Has F tLibslicesIndeximplFinimplFin) (hC : Has F tLibslicesContainsimplFinimplFin) (w : SlR 11 (Fl Account.enc) h x s.book.list fp) (v : SlR 9 (Fl Fin.enc) h y s.finished fq) :
    Turn (loop F Z [1, 46, 47, 48] r244L1 ⟨[(46, .c x), (47, .c (.int .i64 (s.book.list.length : Nat))), (48, .c (.int .i64 (0 : Nat)))], [(1, 1, 0)], [(1, [.int .u64 s.lo, .int .u64 s.hi, .int .i64 s.state, .int .i64 s.epoch, x, y])], h⟩)
      (loop F Z [1, 46, 47, 48] r244L1 ⟨[(46, .c x), (47, .c (.int .i64 (s.book.list.length : Nat))), (48, .c (.int .i64 (s.book.list.length : Nat)))], [(1, 1, 0)], [(1, [.int .u64 s.lo, .int .u64 s.hi, .int .i64 s.state, .int .i64 s.epoch, x, y])], h⟩) (s.book.list.all s.acc) (fun s => lk s.env 2 = some (.c (.bool false)) ∧ s.hp = h) := by
  have hle := w.le2
  refine loop_all (F := F) (Z := Z) (live := [1, 46, 47, 48]) (b := r244L1) s.book.list (fun i => ⟨[(46, .c x), (47, .c (.int .i64 (s.book.list.length : Nat))), (48, .c (.int .i64 (i : Nat)))], [(1, 1, 0)], [(1, [.int .u64 s.lo, .int .u64 s.hi, .int .i64 s.state, .int .i64 s.epoch, x, y])], h⟩) s.acc _ fun i hi => ?_
  have hlt : (i : Int) < s.book.list.length := by omega
  have hws := wrapS i (by omega)
  have hxi := w.idx hi
  have hld := w.load hi
  have hc : ∀ t d, call F Z 266 [.c y, .agg [.int .i64 t, .int .u64 d]] h = some (.c (.bool (decide ((⟨t, d⟩ : Fin) ∈ s.finished))), h) := fun t d => containsFin_run hL hC v ⟨t, d⟩
  rw [loop_run]
  conv in (codeF _ _ r244L1 _) => unfold r244L1
  simp only [run0, run1, run2, run3, run4, noSlot, ownS, ownK, memN, RO.dst, lk, drop, forget, number, Nat.reduceBEq, cut?, splice?, builds, Nat.reduceAdd, Nat.reduceLeDiff, ↓reduceIte, reduceCtorEq, qqa, qqb, qqc, qqd, qqe, qqf, qqg, qqh, qqi, qqj, qqk, qql, qqm, qqn, qqo, qqp, qqq, qqr, qqs, qqt, qqu, qqv, qqw, qqx, qqy, hlt, hxi, hld, Account.enc, hc]
  generalize s.book.list[i] = a
  clear hxi hld w v
  (repeat' ((first | (rw [gF_if]; split) | (rw [condC_if]; split) | (rw [pickR_if]; split)) <;> (rename_i hh; (try simp only [Bool.not_eq_true, decide_eq_true_eq] at hh); simp only [hh, run0, run1, run2, run3, run4, noSlot, ownS, ownK, memN, RO.dst, lk, drop, forget, number, Nat.reduceBEq, cut?, splice?, builds, Nat.reduceAdd, Nat.reduceLeDiff, ↓reduceIte, reduceCtorEq, qqa, qqb, qqc, qqd, qqe, qqf, qqg, qqh, qqi, qqj, qqk, qql, qqm, qqn, qqo, qqp, qqq, qqr, qqs, qqt, qqu, qqv, qqw, qqx, qqy, hws, hc]))) <;> clear hc <;> first
    | exact .inl ⟨by simp_all [Shard.acc] <;> omega, rfl⟩
    | exact .inr ⟨by simp_all [Shard.acc] <;> omega, _, rfl, rfl, rfl⟩
set_option maxHeartbeats 4000000 in
theorem isShard_fins (hI13 : Has F tI13) (h1 : Has F tLibcmpCompareint) (h2 : Has F tLibcmpCompareuint64) (h3 : Has F tLibcmpOrint) (h4 : Has F tLibcmpisNaNint) (h5 : Has F tLibcmpisNaNuint64) (v : SlR 9 (Fl Fin.enc) h y s.finished fq) :
    (∃ s', (∃ g, s' = ⟨[(76, .c y), (77, .c (.int .i64 (s.finished.length : Nat))), (78, .c (.int .i64 (s.finished.length : Nat)))], [(1, 1, 0)], [(1, [.int .u64 s.lo, .int .u64 s.hi, .int .i64 s.state, .int .i64 s.epoch, x, y])], g⟩ ∧ On h g ∧ ∀ j, j < s.finished.length → s.finAt j = true) ∧
        loop F Z [1, 76, 77, 78] r244L0 ⟨[(76, .c y), (77, .c (.int .i64 (s.finished.length : Nat))), (78, .c (.int .i64 (0 : Nat)))], [(1, 1, 0)], [(1, [.int .u64 s.lo, .int .u64 s.hi, .int .i64 s.state, .int .i64 s.epoch, x, y])], h⟩ = loop F Z [1, 76, 77, 78] r244L0 s') ∨
      ∃ s', loop F Z [1, 76, 77, 78] r244L0 ⟨[(76, .c y), (77, .c (.int .i64 (s.finished.length : Nat))), (78, .c (.int .i64 (0 : Nat)))], [(1, 1, 0)], [(1, [.int .u64 s.lo, .int .u64 s.hi, .int .i64 s.state, .int .i64 s.epoch, x, y])], h⟩ = some (.ret, s') ∧ (lk s'.env 2 = some (.c (.bool false)) ∧ On h s'.hp ∧ ∃ j, j < s.finished.length ∧ s.finAt j = false) := by
  have hle := v.le2
  refine loop_rel (F := F) (Z := Z) (live := [1, 76, 77, 78]) (b := r244L0) s.finished.length (fun i s' => ∃ g, s' = ⟨[(76, .c y), (77, .c (.int .i64 (s.finished.length : Nat))), (78, .c (.int .i64 (i : Nat)))], [(1, 1, 0)], [(1, [.int .u64 s.lo, .int .u64 s.hi, .int .i64 s.state, .int .i64 s.epoch, x, y])], g⟩ ∧ On h g ∧ ∀ j, j < i → s.finAt j = true) _ (fun i s' hi ⟨g, hs, og, hall⟩ => ?_) ⟨h, rfl, On.refl h, fun j hj => absurd hj (Nat.not_lt_zero _)⟩
  subst hs
  have hlt : (i : Int) < s.finished.length := by omega
  have hws := wrapS i (by omega)
  have hxi := v.idx hi
  have vg := v.on (Fl.ok _) og
  have hld : ∀ j n, loadP g y.sid i j n = cut? (Fin.at_ s.finished i).enc j n := vg.loadD Fin.none_ hi
  have hfin : s.finAt i = (decide (1 ≤ (Fin.at_ s.finished i).tx) && (decide (s.lo ≤ (Fin.at_ s.finished i).id) && (decide ((Fin.at_ s.finished i).id ≤ s.hi) && (i == 0 || decide (cmpFin (Fin.at_ s.finished (i - 1)) (Fin.at_ s.finished i) < 0))))) := rfl
  have good : s.finAt i = true → ∀ j, j < i + 1 → s.finAt j = true := fun hg j hj => by
    by_cases he : j = i
    · rw [he]; exact hg
    · exact hall j (by omega)
  have bad : s.finAt i = false → ∃ j, j < s.finished.length ∧ s.finAt j = false := fun hb => ⟨i, hi, hb⟩
  have hpre : 0 < i → IntKind.i64.wrap ((i : Int) - 1) = ((i - 1 : Nat) : Int) := fun hp => by rw [wrapI _ (by omega) (by omega)]; omega
  have hpi : 0 < i → idxR 9 (some y) (some ((i - 1 : Nat) : Int)) = some (.ptr y.sid (i - 1) 0) := fun hp => v.idx (by omega)
  have hpl : 0 < i → ∀ j n, loadP g y.sid (i - 1) j n = cut? (Fin.at_ s.finished (i - 1)).enc j n := fun hp => vg.loadD Fin.none_ (by omega)
  clear v vg hall
  generalize s.finAt i = fa at *
  generalize Fin.at_ s.finished (i - 1) = pf at *
  generalize Fin.at_ s.finished i = f at *
  have cf := compareFins_run (Z := Z) hI13 h1 h2 h3 h4 h5 pf f ⟨g.next, g.next, g.get⟩
  have og' := og.trans (On.push g [[.int .i64 (cmpI pf.tx f.tx)], [.int .i64 (cmpI pf.id f.id)]])
  obtain ⟨k, hk⟩ : ∃ k, Heap.mk ((Heap.mk g.next g.next g.get).push [[.int .i64 (cmpI pf.tx f.tx)], [.int .i64 (cmpI pf.id f.id)]]).next g.floor ((Heap.mk g.next g.next g.get).push [[.int .i64 (cmpI pf.tx f.tx)], [.int .i64 (cmpI pf.id f.id)]]).get = k := ⟨_, rfl⟩
  have ok' : On h k := by rw [← hk]; exact og'
  obtain ⟨t, d⟩ := f
  obtain ⟨t', d'⟩ := pf
  simp only [Fin.enc] at cf hld hpl
  rw [loop_run]
  conv in (codeF _ _ r244L0 _) => unfold r244L0
  simp only [run0, run1, run2, run3, run4, noSlot, ownS, ownK, memN, RO.dst, lk, drop, forget, number, Nat.reduceBEq, cut?, splice?, builds, Nat.reduceAdd, Nat.reduceLeDiff, ↓reduceIte, reduceCtorEq, qqa, qqb, qqc, qqd, qqe, qqf, qqg, qqh, qqi, qqj, qqk, qql, qqm, qqn, qqo, qqp, qqq, qqr, qqs, qqt, qqu, qqv, qqw, qqx, qqy, hlt, hxi, hld]
  by_cases hp : 0 < i
  · have g1 : (i : Int) > 0 := by omega
    have hi0 : (i == 0) = false := by simp; omega
    have q1 := hpre hp
    have q2 := hpi hp
    have q3 := hpl hp
    clear hxi hpre hpi hpl
    (repeat' ((first | (rw [gF_if]; split) | (rw [condC_if]; split) | (rw [pickR_if]; split)) <;> (rename_i hh; (try simp only [Bool.not_eq_true, decide_eq_true_eq] at hh); simp only [hh, run0, run1, run2, run3, run4, noSlot, ownS, ownK, memN, RO.dst, lk, drop, forget, number, Nat.reduceBEq, cut?, splice?, builds, Nat.reduceAdd, Nat.reduceLeDiff, ↓reduceIte, reduceCtorEq, qqa, qqb, qqc, qqd, qqe, qqf, qqg, qqh, qqi, qqj, qqk, qql, qqm, qqn, qqo, qqp, qqq, qqr, qqs, qqt, qqu, qqv, qqw, qqx, qqy, hws, g1, q1, q2, q3, cf, hk, hld])))
    all_goals clear q2 q3 cf hk hld og'
    all_goals first
      | (exfalso; omega)
      | exact Or.inl ⟨_, ⟨_, rfl, og, good (by simp_all <;> omega)⟩, rfl⟩
      | exact Or.inl ⟨_, ⟨_, rfl, ok', good (by simp_all <;> omega)⟩, rfl⟩
      | exact Or.inr ⟨_, rfl, rfl, og, bad (by simp_all <;> omega)⟩
      | exact Or.inr ⟨_, rfl, rfl, ok', bad (by simp_all <;> omega)⟩
  · have g1 : ¬ (i : Int) > 0 := by omega
    have hi0 : (i == 0) = true := by simp; omega
    clear hxi hpre hpi hpl cf hk
    (repeat' ((first | (rw [gF_if]; split) | (rw [condC_if]; split) | (rw [pickR_if]; split)) <;> (rename_i hh; (try simp only [Bool.not_eq_true, decide_eq_true_eq] at hh); simp only [hh, run0, run1, run2, run3, run4, noSlot, ownS, ownK, memN, RO.dst, lk, drop, forget, number, Nat.reduceBEq, cut?, splice?, builds, Nat.reduceAdd, Nat.reduceLeDiff, ↓reduceIte, reduceCtorEq, qqa, qqb, qqc, qqd, qqe, qqf, qqg, qqh, qqi, qqj, qqk, qql, qqm, qqn, qqo, qqp, qqq, qqr, qqs, qqt, qqu, qqv, qqw, qqx, qqy, hws, g1, hld])))
    all_goals clear hld og'
    all_goals first
      | (exfalso; omega)
      | exact Or.inl ⟨_, ⟨_, rfl, og, good (by simp_all <;> omega)⟩, rfl⟩
      | exact Or.inr ⟨_, rfl, rfl, og, bad (by simp_all <;> omega)⟩
end
end Go.Proofs.Ytgfclcpnefinoaa.A
namespace Go.Proofs.Ytgfclcpnefinoaa.A
open Go
set_option linter.unusedSimpArgs false
set_option linter.unusedVariables false
def Shard.head (s : Shard) : Bool := decide (s.lo ≤ s.hi) && ((s.state == 0 || s.state == 1) && (inR s.epoch 1 1000000 && (bookOk s.book.list && decide ((s.finished.length : Int) ≤ 60))))
def Shard.good (s : Shard) : Bool := s.head && (s.book.list.all s.acc && (List.range s.finished.length).all s.finAt)
section
variable {F : Nat → Option RF} {Z : CallF} {h : Heap} {cs : List Cell} {s : Shard} {fp : List Nat}
set_option maxHeartbeats 4000000 in
theorem isShard_run (hI10 : Has F tI10) (hI13 : Has F tI13) (h1 : Has F tLibcmpCompareint) (h2 : Has F tLibcmpCompareuint64) (h3 : Has F tLibcmpOrint) (h4 : Has F tLibcmpisNaNint) (h5 : Has F tLibcmpisNaNuint64) (hL : Has F tLibslicesIndeximplFinimplFin) (hC : Has F tLibslicesContainsimplFinimplFin)
    (v : Shard.RI h cs s fp) (ok : s.Ok) : ∃ h', call F Z 244 [.agg cs] h = some (.c (.bool s.good), h') ∧ On h h' := by
  obtain ⟨x, p, y, q, rfl, rfl, w, u⟩ := v
  have hB := isBook_run (Z := Z) hI10 w ok.book.list
  have ka := isShard_accs (Z := Z) (s := s) hL hC w u
  have kf := isShard_fins (Z := Z) (s := s) (x := x) hI13 h1 h2 h3 h4 h5 u
  have l1 := w.len
  have l2 := u.len
  have n1 : ¬ (s.book.list.length : Int) < s.book.list.length := by omega
  have n2 : ¬ (s.finished.length : Int) < s.finished.length := by omega
  clear w u
  rw [call_run F Z (hI13.lk (g := 244) rfl) _ _ rfl]
  simp only [show ((0 : Nat) : Int) = 0 from rfl] at ka kf
  cases hd : s.head with
  | false =>
    have hg : s.good = false := by simp [Shard.good, hd]
    rw [hg]
    simp only [run0, run1, run2, run3, run4, noSlot, ownS, ownK, memN, RO.dst, lk, drop, forget, number, Nat.reduceBEq, cut?, splice?, builds, Nat.reduceAdd, Nat.reduceLeDiff, ↓reduceIte, reduceCtorEq, qqa, qqb, qqc, qqd, qqe, qqf, qqg, qqh, qqi, qqj, qqk, qql, qqm, qqn, qqo, qqp, qqq, qqr, qqs, qqt, qqu, qqv, qqw, qqx, qqy, hB, l2]
    clear ka kf
    (repeat' ((first | (rw [gF_if]; split) | (rw [condC_if]; split) | (rw [pickR_if]; split)) <;> (rename_i hh; (try simp only [Bool.not_eq_true, decide_eq_true_eq] at hh); simp only [hh, run0, run1, run2, run3, run4, noSlot, ownS, ownK, memN, RO.dst, lk, drop, forget, number, Nat.reduceBEq, cut?, splice?, builds, Nat.reduceAdd, Nat.reduceLeDiff, ↓reduceIte, reduceCtorEq, qqa, qqb, qqc, qqd, qqe, qqf, qqg, qqh, qqi, qqj, qqk, qql, qqm, qqn, qqo, qqp, qqq, qqr, qqs, qqt, qqu, qqv, qqw, qqx, qqy, hB, l2, l1])))
    all_goals clear hB l1 l2
    all_goals first
      | exact ⟨_, rfl, On.refl h⟩
      | (exfalso; simp_all [Shard.head, inR]; done)
      | (exfalso; simp_all [Shard.head, inR]; omega)
  | true =>
    have hg : s.good = (s.book.list.all s.acc && (List.range s.finished.length).all s.finAt) := by simp [Shard.good, hd]
    rw [hg]
    simp only [Shard.head, Bool.and_eq_true, decide_eq_true_eq, Bool.or_eq_true, beq_iff_eq, inR] at hd
    obtain ⟨d1, d2, ⟨d3, d4⟩, d5, d6⟩ := hd
    rw [d5] at hB
    have c1 : ¬ s.lo > s.hi := by omega
    have c3 : ¬ s.epoch < 1 := by omega
    have c4 : ¬ s.epoch > 1000000 := by omega
    have c6 : ¬ (s.finished.length : Int) > 60 := by omega
    have c2 : (s.state != 0) = false ∨ ((s.state != 0) = true ∧ (s.state != 1) = false) := by
      rcases d2 with d2 | d2 <;> simp [d2]
    rcases c2 with c2 | ⟨c2, c2'⟩
    · simp only [run0, run1, run2, run3, run4, noSlot, ownS, ownK, memN, RO.dst, lk, drop, forget, number, Nat.reduceBEq, cut?, splice?, builds, Nat.reduceAdd, Nat.reduceLeDiff, ↓reduceIte, reduceCtorEq, qqa, qqb, qqc, qqd, qqe, qqf, qqg, qqh, qqi, qqj, qqk, qql, qqm, qqn, qqo, qqp, qqq, qqr, qqs, qqt, qqu, qqv, qqw, qqx, qqy, hB, l1, l2, c1, c2, c3, c4, c6]
      rcases ka with ⟨a1, a2⟩ | ⟨a1, s', a2, a3, a4⟩
      · rw [a2, loop_run]
        conv in (codeF _ _ r244L1 _) => unfold r244L1
        simp only [run0, run1, run2, run3, run4, noSlot, ownS, ownK, memN, RO.dst, lk, drop, forget, number, Nat.reduceBEq, cut?, splice?, builds, Nat.reduceAdd, Nat.reduceLeDiff, ↓reduceIte, reduceCtorEq, qqa, qqb, qqc, qqd, qqe, qqf, qqg, qqh, qqi, qqj, qqk, qql, qqm, qqn, qqo, qqp, qqq, qqr, qqs, qqt, qqu, qqv, qqw, qqx, qqy, n1, l2]
        rcases kf with ⟨s'', ⟨g, hs, og, hall⟩, e⟩ | ⟨s'', e, b1, b2, j, hj, b3⟩
        · subst hs
          rw [e, loop_run]
          conv in (codeF _ _ r244L0 _) => unfold r244L0
          simp only [run0, run1, run2, run3, run4, noSlot, ownS, ownK, memN, RO.dst, lk, drop, forget, number, Nat.reduceBEq, cut?, splice?, builds, Nat.reduceAdd, Nat.reduceLeDiff, ↓reduceIte, reduceCtorEq, qqa, qqb, qqc, qqd, qqe, qqf, qqg, qqh, qqi, qqj, qqk, qql, qqm, qqn, qqo, qqp, qqq, qqr, qqs, qqt, qqu, qqv, qqw, qqx, qqy, n2]
          have ha : (List.range s.finished.length).all s.finAt = true := List.all_eq_true.2 fun j hj => hall j (by simpa using hj)
          exact ⟨_, by rw [a1, ha]; rfl, og⟩
        · rw [e]
          simp only [run0, run1, run2, run3, run4, noSlot, ownS, ownK, memN, RO.dst, lk, drop, forget, number, Nat.reduceBEq, cut?, splice?, builds, Nat.reduceAdd, Nat.reduceLeDiff, ↓reduceIte, reduceCtorEq, qqa, qqb, qqc, qqd, qqe, qqf, qqg, qqh, qqi, qqj, qqk, qql, qqm, qqn, qqo, qqp, qqq, qqr, qqs, qqt, qqu, qqv, qqw, qqx, qqy, b1]
          have ha : (List.range s.finished.length).all s.finAt = false := by
            rw [List.all_eq_false]
            exact ⟨j, by simpa using hj, by simp [b3]⟩
          exact ⟨_, by rw [a1, ha]; rfl, b2⟩
      · rw [a2]
        simp only [run0, run1, run2, run3, run4, noSlot, ownS, ownK, memN, RO.dst, lk, drop, forget, number, Nat.reduceBEq, cut?, splice?, builds, Nat.reduceAdd, Nat.reduceLeDiff, ↓reduceIte, reduceCtorEq, qqa, qqb, qqc, qqd, qqe, qqf, qqg, qqh, qqi, qqj, qqk, qql, qqm, qqn, qqo, qqp, qqq, qqr, qqs, qqt, qqu, qqv, qqw, qqx, qqy, a3, a4]
        exact ⟨_, by rw [a1]; rfl, On.refl h⟩
    · simp only [run0, run1, run2, run3, run4, noSlot, ownS, ownK, memN, RO.dst, lk, drop, forget, number, Nat.reduceBEq, cut?, splice?, builds, Nat.reduceAdd, Nat.reduceLeDiff, ↓reduceIte, reduceCtorEq, qqa, qqb, qqc, qqd, qqe, qqf, qqg, qqh, qqi, qqj, qqk, qql, qqm, qqn, qqo, qqp, qqq, qqr, qqs, qqt, qqu, qqv, qqw, qqx, qqy, hB, l1, l2, c1, c2, c2', c3, c4, c6]
      rcases ka with ⟨a1, a2⟩ | ⟨a1, s', a2, a3, a4⟩
      · rw [a2, loop_run]
        conv in (codeF _ _ r244L1 _) => unfold r244L1
        simp only [run0, run1, run2, run3, run4, noSlot, ownS, ownK, memN, RO.dst, lk, drop, forget, number, Nat.reduceBEq, cut?, splice?, builds, Nat.reduceAdd, Nat.reduceLeDiff, ↓reduceIte, reduceCtorEq, qqa, qqb, qqc, qqd, qqe, qqf, qqg, qqh, qqi, qqj, qqk, qql, qqm, qqn, qqo, qqp, qqq, qqr, qqs, qqt, qqu, qqv, qqw, qqx, qqy, n1, l2]
        rcases kf with ⟨s'', ⟨g, hs, og, hall⟩, e⟩ | ⟨s'', e, b1, b2, j, hj, b3⟩
        · subst hs
          rw [e, loop_run]
          conv in (codeF _ _ r244L0 _) => unfold r244L0
          simp only [run0, run1, run2, run3, run4, noSlot, ownS, ownK, memN, RO.dst, lk, drop, forget, number, Nat.reduceBEq, cut?, splice?, builds, Nat.reduceAdd, Nat.reduceLeDiff, ↓reduceIte, reduceCtorEq, qqa, qqb, qqc, qqd, qqe, qqf, qqg, qqh, qqi, qqj, qqk, qql, qqm, qqn, qqo, qqp, qqq, qqr, qqs, qqt, qqu, qqv, qqw, qqx, qqy, n2]
          have ha : (List.range s.finished.length).all s.finAt = true := List.all_eq_true.2 fun j hj => hall j (by simpa using hj)
          exact ⟨_, by rw [a1, ha]; rfl, og⟩
        · rw [e]
          simp only [run0, run1, run2, run3, run4, noSlot, ownS, ownK, memN, RO.dst, lk, drop, forget, number, Nat.reduceBEq, cut?, splice?, builds, Nat.reduceAdd, Nat.reduceLeDiff, ↓reduceIte, reduceCtorEq, qqa, qqb, qqc, qqd, qqe, qqf, qqg, qqh, qqi, qqj, qqk, qql, qqm, qqn, qqo, qqp, qqq, qqr, qqs, qqt, qqu, qqv, qqw, qqx, qqy, b1]
          have ha : (List.range s.finished.length).all s.finAt = false := by
            rw [List.all_eq_false]
            exact ⟨j, by simpa using hj, by simp [b3]⟩
          exact ⟨_, by rw [a1, ha]; rfl, b2⟩
      · rw [a2]
        simp only [run0, run1, run2, run3, run4, noSlot, ownS, ownK, memN, RO.dst, lk, drop, forget, number, Nat.reduceBEq, cut?, splice?, builds, Nat.reduceAdd, Nat.reduceLeDiff, ↓reduceIte, reduceCtorEq, qqa, qqb, qqc, qqd, qqe, qqf, qqg, qqh, qqi, qqj, qqk, qql, qqm, qqn, qqo, qqp, qqq, qqr, qqs, qqt, qqu, qqv, qqw, qqx, qqy, a3, a4]
        exact ⟨_, by rw [a1]; rfl, On.refl h⟩
end
end Go.Proofs.Ytgfclcpnefinoaa.A
namespace Go.Proofs.Ytgfclcpnefinoaa.A
open Go
set_option linter.unusedSimpArgs false
set_option linter.unusedVariables false
theorem cmpFin_lt (f g : Fin) : decide (cmpFin f g < 0) = (decide (f.tx < g.tx) || (f.tx == g.tx && decide (f.id < g.id))) := by
  unfold cmpFin orI
  by_cases h1 : f.tx < g.tx
  · have e : cmpI f.tx g.tx = -1 := by simp [cmpI, h1]
    rw [if_neg (by rw [e]; decide), e]
    simp [h1]
  · by_cases h2 : g.tx < f.tx
    · have e : cmpI f.tx g.tx = 1 := by simp [cmpI, h1, h2]
      rw [if_neg (by rw [e]; decide), e]
      have : (f.tx == g.tx) = false := by simp; omega
      simp [h1, this]
    · have e : cmpI f.tx g.tx = 0 := by simp [cmpI, h1, h2]
      rw [if_pos e]
      have ht : (f.tx == g.tx) = true := by simp; omega
      by_cases h3 : f.id < g.id
      · have e3 : cmpI f.id g.id = -1 := by simp [cmpI, h3]
        rw [e3]; simp [h1, ht, h3]
      · have e3 : ¬ cmpI f.id g.id < 0 := by
          unfold cmpI
          rw [if_neg h3]
          split <;> omega
        simp [e3, h1, h3]
section
variable {F : Nat → Option RF} {Z : CallF} {h : Heap} {x : Cell} {xs : List Fin} {fp : List Nat}
theorem l13Before_run (hS13 : Has F tS13) (f g : Fin) (h : Heap) : call F Z 242 [.agg f.enc, .agg g.enc] h = some (.c (.bool (decide (cmpFin f g < 0))), h) := by
  rw [cmpFin_lt]
  obtain ⟨t, d⟩ := f
  obtain ⟨t', d'⟩ := g
  rw [call_run F Z (hS13.lk (g := 242) rfl) _ _ rfl]
  simp only [Fin.enc, run0, run1, run2, run3, run4, noSlot, ownS, ownK, memN, RO.dst, lk, drop, forget, number, Nat.reduceBEq, cut?, splice?, builds, Nat.reduceAdd, Nat.reduceLeDiff, ↓reduceIte, reduceCtorEq, qqa, qqb, qqc, qqd, qqe, qqf, qqg, qqh, qqi, qqj, qqk, qql, qqm, qqn, qqo, qqp, qqq, qqr, qqs, qqt, qqu, qqv, qqw, qqx, qqy]
  (repeat' ((first | (rw [gF_if]; split) | (rw [condC_if]; split) | (rw [pickR_if]; split)) <;> (rename_i hh; (try simp only [Bool.not_eq_true, decide_eq_true_eq] at hh); simp only [hh, run0, run1, run2, run3, run4, noSlot, ownS, ownK, memN, RO.dst, lk, drop, forget, number, Nat.reduceBEq, cut?, splice?, builds, Nat.reduceAdd, Nat.reduceLeDiff, ↓reduceIte, reduceCtorEq, qqa, qqb, qqc, qqd, qqe, qqf, qqg, qqh, qqi, qqj, qqk, qql, qqm, qqn, qqo, qqp, qqq, qqr, qqs, qqt, qqu, qqv, qqw, qqx, qqy]))) <;> refine fin_bool ?_ <;> simp_all <;> omega
theorem l13Has_run (hS13 : Has F tS13) (w : SlR 9 (Fl Fin.enc) h x xs fp) (f : Fin) : call F Z 243 [.c x, .agg f.enc] h = some (.c (.bool (decide (f ∈ xs))), h) := by
  have hle := w.le2
  have hwl := w.len
  rw [call_run F Z (hS13.lk (g := 243) rfl) _ _ rfl]
  simp only [run0, run1, run2, run3, run4, noSlot, ownS, ownK, memN, RO.dst, lk, drop, forget, number, Nat.reduceBEq, cut?, splice?, builds, Nat.reduceAdd, Nat.reduceLeDiff, ↓reduceIte, reduceCtorEq, qqa, qqb, qqc, qqd, qqe, qqf, qqg, qqh, qqi, qqj, qqk, qql, qqm, qqn, qqo, qqp, qqq, qqr, qqs, qqt, qqu, qqv, qqw, qqx, qqy]
  have key := loop_find (F := F) (Z := Z) (live := [0, 3, 5]) (b := r243L0) xs (fun a => decide (a = f)) (fun i => ⟨[(0, .c x), (5, .c (.int .i64 (i : Nat)))], [(3, 3, 0)], [(3, f.enc)], h⟩) (fun i s => lk s.env 4 = some (.c (.bool true)) ∧ s.hp = h) fun i hi => by
    have hlt : (i : Int) < xs.length := by omega
    have hws := wrapS i (by omega)
    have hxi := w.idx hi
    have hld := w.load hi
    generalize xs[i] = a at *
    obtain ⟨t, d⟩ := a
    obtain ⟨t', d'⟩ := f
    rw [loop_run]
    conv in (codeF _ _ r243L0 _) => unfold r243L0
    have fe := fin_eqs t d t' d'
    simp only [run0, run1, run2, run3, run4, noSlot, ownS, ownK, memN, RO.dst, lk, drop, forget, number, Nat.reduceBEq, cut?, splice?, builds, Nat.reduceAdd, Nat.reduceLeDiff, ↓reduceIte, reduceCtorEq, qqa, qqb, qqc, qqd, qqe, qqf, qqg, qqh, qqi, qqj, qqk, qql, qqm, qqn, qqo, qqp, qqq, qqr, qqs, qqt, qqu, qqv, qqw, qqx, qqy, hwl, hlt, hxi, hld, Fin.enc, fe]
    clear hxi hld fe w
    (repeat' ((first | (rw [gF_if]; split) | (rw [condC_if]; split) | (rw [pickR_if]; split)) <;> (rename_i hh; (try simp only [Bool.not_eq_true, decide_eq_true_eq] at hh); simp only [hh, run0, run1, run2, run3, run4, noSlot, ownS, ownK, memN, RO.dst, lk, drop, forget, number, Nat.reduceBEq, cut?, splice?, builds, Nat.reduceAdd, Nat.reduceLeDiff, ↓reduceIte, reduceCtorEq, qqa, qqb, qqc, qqd, qqe, qqf, qqg, qqh, qqi, qqj, qqk, qql, qqm, qqn, qqo, qqp, qqq, qqr, qqs, qqt, qqu, qqv, qqw, qqx, qqy, hws]))) <;> first
      | exact .inl ⟨by simp_all, rfl⟩
      | exact .inr ⟨by simp_all, _, rfl, rfl, rfl⟩
  have hlt : ¬ (xs.length : Int) < xs.length := by omega
  simp only [show ((0 : Nat) : Int) = 0 from rfl] at key
  rcases key with ⟨k1, k2⟩ | ⟨i, k1, hi, s, k2, k3, k4⟩
  · rw [k2, loop_run]
    conv in (codeF _ _ r243L0 _) => unfold r243L0
    rw [List.findIdx?_eq_none_iff] at k1
    have : ¬ f ∈ xs := fun hm => by simpa using k1 f hm
    simp only [run0, run1, run2, run3, run4, noSlot, ownS, ownK, memN, RO.dst, lk, drop, forget, number, Nat.reduceBEq, cut?, splice?, builds, Nat.reduceAdd, Nat.reduceLeDiff, ↓reduceIte, reduceCtorEq, qqa, qqb, qqc, qqd, qqe, qqf, qqg, qqh, qqi, qqj, qqk, qql, qqm, qqn, qqo, qqp, qqq, qqr, qqs, qqt, qqu, qqv, qqw, qqx, qqy, hwl, hlt, this]
  · rw [k2]
    rw [List.findIdx?_eq_some_iff_getElem] at k1
    obtain ⟨hi, h2, _⟩ := k1
    have : f ∈ xs := by
      have : xs[i] = f := by simpa using h2
      rw [← this]; exact List.getElem_mem hi
    simp only [run0, run1, run2, run3, run4, noSlot, ownS, ownK, memN, RO.dst, lk, drop, forget, number, Nat.reduceBEq, cut?, splice?, builds, Nat.reduceAdd, Nat.reduceLeDiff, ↓reduceIte, reduceCtorEq, qqa, qqb, qqc, qqd, qqe, qqf, qqg, qqh, qqi, qqj, qqk, qql, qqm, qqn, qqo, qqp, qqq, qqr, qqs, qqt, qqu, qqv, qqw, qqx, qqy, k3, k4, this]
end
end Go.Proofs.Ytgfclcpnefinoaa.A
namespace Go.Proofs.Ytgfclcpnefinoaa.A
open Go
set_option linter.unusedSimpArgs false
set_option linter.unusedVariables false
section
variable {F : Nat → Option RF} {Z : CallF} {h : Heap} {cs : List Cell} {s : Shard} {fp fq : List Nat} {x y : Cell}
set_option maxHeartbeats 2000000 in
theorem l13Shard_accs (hS13 : Has F tS13) (w : SlR 11 (Fl Account.enc) h x s.book.list fp) (v : SlR 9 (Fl Fin.enc) h y s.finished fq) :
    Turn (loop F Z [1, 5] r204L0 ⟨[(5, .c (.int .i64 (0 : Nat)))], [(1, 1, 0)], [(1, [.int .u64 s.lo, .int .u64 s.hi, .int .i64 s.state, .int .i64 s.epoch, x, y])], h⟩)
      (loop F Z [1, 5] r204L0 ⟨[(5, .c (.int .i64 (s.book.list.length : Nat)))], [(1, 1, 0)], [(1, [.int .u64 s.lo, .int .u64 s.hi, .int .i64 s.state, .int .i64 s.epoch, x, y])], h⟩) (s.book.list.all s.acc) (fun s => lk s.env 2 = some (.c (.bool false)) ∧ s.hp = h) := by
  have hle := w.le2
  refine loop_all (F := F) (Z := Z) (live := [1, 5]) (b := r204L0) s.book.list (fun i => ⟨[(5, .c (.int .i64 (i : Nat)))], [(1, 1, 0)], [(1, [.int .u64 s.lo, .int .u64 s.hi, .int .i64 s.state, .int .i64 s.epoch, x, y])], h⟩) s.acc _ fun i hi => ?_
  have hlt : (i : Int) < s.book.list.length := by omega
  have hws := wrapS i (by omega)
  have hwl := w.len
  have hxi := w.idx hi
  have hld := w.load hi
  have hc : ∀ t d, call F Z 243 [.c y, .agg [.int .i64 t, .int .u64 d]] h = some (.c (.bool (decide ((⟨t, d⟩ : Fin) ∈ s.finished))), h) := fun t d => l13Has_run hS13 v ⟨t, d⟩
  rw [loop_run]
  conv in (codeF _ _ r204L0 _) => unfold r204L0
  simp only [run0, run1, run2, run3, run4, noSlot, ownS, ownK, memN, RO.dst, lk, drop, forget, number, Nat.reduceBEq, cut?, splice?, builds, Nat.reduceAdd, Nat.reduceLeDiff, ↓reduceIte, reduceCtorEq, qqa, qqb, qqc, qqd, qqe, qqf, qqg, qqh, qqi, qqj, qqk, qql, qqm, qqn, qqo, qqp, qqq, qqr, qqs, qqt, qqu, qqv, qqw, qqx, qqy, hwl, hlt, hxi, hld, Account.enc, hc]
  generalize s.book.list[i] = a
  clear hxi hld w v
  (repeat' ((first | (rw [gF_if]; split) | (rw [condC_if]; split) | (rw [pickR_if]; split)) <;> (rename_i hh; (try simp only [Bool.not_eq_true, decide_eq_true_eq] at hh); simp only [hh, run0, run1, run2, run3, run4, noSlot, ownS, ownK, memN, RO.dst, lk, drop, forget, number, Nat.reduceBEq, cut?, splice?, builds, Nat.reduceAdd, Nat.reduceLeDiff, ↓reduceIte, reduceCtorEq, qqa, qqb, qqc, qqd, qqe, qqf, qqg, qqh, qqi, qqj, qqk, qql, qqm, qqn, qqo, qqp, qqq, qqr, qqs, qqt, qqu, qqv, qqw, qqx, qqy, hws, hc]))) <;> clear hc <;> first
    | exact .inl ⟨by simp_all [Shard.acc] <;> omega, rfl⟩
    | exact .inr ⟨by simp_all [Shard.acc] <;> omega, _, rfl, rfl, rfl⟩
set_option maxHeartbeats 4000000 in
theorem l13Shard_fins (hS13 : Has F tS13) (v : SlR 9 (Fl Fin.enc) h y s.finished fq) :
    Turn (loop F Z [1, 3] r204L1 ⟨[(3, .c (.int .i64 (0 : Nat)))], [(1, 1, 0)], [(1, [.int .u64 s.lo, .int .u64 s.hi, .int .i64 s.state, .int .i64 s.epoch, x, y])], h⟩)
      (loop F Z [1, 3] r204L1 ⟨[(3, .c (.int .i64 (s.finished.length : Nat)))], [(1, 1, 0)], [(1, [.int .u64 s.lo, .int .u64 s.hi, .int .i64 s.state, .int .i64 s.epoch, x, y])], h⟩) ((List.range s.finished.length).all s.finAt) (fun s => lk s.env 2 = some (.c (.bool false)) ∧ s.hp = h) := by
  have hle := v.le2
  refine loop_allN (F := F) (Z := Z) (live := [1, 3]) (b := r204L1) s.finished.length (fun i => ⟨[(3, .c (.int .i64 (i : Nat)))], [(1, 1, 0)], [(1, [.int .u64 s.lo, .int .u64 s.hi, .int .i64 s.state, .int .i64 s.epoch, x, y])], h⟩) s.finAt _ fun i hi => ?_
  have hlt : (i : Int) < s.finished.length := by omega
  have hws := wrapS i (by omega)
  have hwl := v.len
  have hxi := v.idx hi
  have hld : ∀ j n, loadP h y.sid i j n = cut? (Fin.at_ s.finished i).enc j n := v.loadD Fin.none_ hi
  have hfin : s.finAt i = (decide (1 ≤ (Fin.at_ s.finished i).tx) && (decide (s.lo ≤ (Fin.at_ s.finished i).id) && (decide ((Fin.at_ s.finished i).id ≤ s.hi) && (i == 0 || decide (cmpFin (Fin.at_ s.finished (i - 1)) (Fin.at_ s.finished i) < 0))))) := rfl
  have hpre : 0 < i → IntKind.i64.wrap ((i : Int) - 1) = ((i - 1 : Nat) : Int) := fun hp => by rw [wrapI _ (by omega) (by omega)]; omega
  have hpi : 0 < i → idxR 9 (some y) (some ((i - 1 : Nat) : Int)) = some (.ptr y.sid (i - 1) 0) := fun hp => v.idx (by omega)
  have hpl : 0 < i → ∀ j n, loadP h y.sid (i - 1) j n = cut? (Fin.at_ s.finished (i - 1)).enc j n := fun hp => v.loadD Fin.none_ (by omega)
  clear v
  generalize s.finAt i = fa at *
  generalize Fin.at_ s.finished (i - 1) = pf at *
  generalize Fin.at_ s.finished i = f at *
  have cf := fun g => l13Before_run (Z := Z) hS13 pf f g
  obtain ⟨t, d⟩ := f
  obtain ⟨t', d'⟩ := pf
  simp only [Fin.enc] at cf hld hpl
  rw [loop_run]
  conv in (codeF _ _ r204L1 _) => unfold r204L1
  simp only [run0, run1, run2, run3, run4, noSlot, ownS, ownK, memN, RO.dst, lk, drop, forget, number, Nat.reduceBEq, cut?, splice?, builds, Nat.reduceAdd, Nat.reduceLeDiff, ↓reduceIte, reduceCtorEq, qqa, qqb, qqc, qqd, qqe, qqf, qqg, qqh, qqi, qqj, qqk, qql, qqm, qqn, qqo, qqp, qqq, qqr, qqs, qqt, qqu, qqv, qqw, qqx, qqy, hwl, hlt, hxi, hld]
  by_cases hp : 0 < i
  · have g1 : (i : Int) > 0 := by omega
    have hi0 : (i == 0) = false := by simp; omega
    have q1 := hpre hp
    have q2 := hpi hp
    have q3 := hpl hp
    clear hxi hpre hpi hpl
    (repeat' ((first | (rw [gF_if]; split) | (rw [condC_if]; split) | (rw [pickR_if]; split)) <;> (rename_i hh; (try simp only [Bool.not_eq_true, decide_eq_true_eq] at hh); simp only [hh, run0, run1, run2, run3, run4, noSlot, ownS, ownK, memN, RO.dst, lk, drop, forget, number, Nat.reduceBEq, cut?, splice?, builds, Nat.reduceAdd, Nat.reduceLeDiff, ↓reduceIte, reduceCtorEq, qqa, qqb, qqc, qqd, qqe, qqf, qqg, qqh, qqi, qqj, qqk, qql, qqm, qqn, qqo, qqp, qqq, qqr, qqs, qqt, qqu, qqv, qqw, qqx, qqy, hws, g1, q1, q2, q3, cf, hld])))
    all_goals clear q2 q3 cf hld
    all_goals first
      | (exfalso; omega)
      | exact .inl ⟨by simp_all <;> omega, rfl⟩
      | exact .inr ⟨by simp_all <;> omega, _, rfl, rfl, rfl⟩
  · have g1 : ¬ (i : Int) > 0 := by omega
    have hi0 : (i == 0) = true := by simp; omega
    clear hxi hpre hpi hpl cf
    (repeat' ((first | (rw [gF_if]; split) | (rw [condC_if]; split) | (rw [pickR_if]; split)) <;> (rename_i hh; (try simp only [Bool.not_eq_true, decide_eq_true_eq] at hh); simp only [hh, run0, run1, run2, run3, run4, noSlot, ownS, ownK, memN, RO.dst, lk, drop, forget, number, Nat.reduceBEq, cut?, splice?, builds, Nat.reduceAdd, Nat.reduceLeDiff, ↓reduceIte, reduceCtorEq, qqa, qqb, qqc, qqd, qqe, qqf, qqg, qqh, qqi, qqj, qqk, qql, qqm, qqn, qqo, qqp, qqq, qqr, qqs, qqt, qqu, qqv, qqw, qqx, qqy, hws, g1, hld])))
    all_goals clear hld
    all_goals first
      | (exfalso; omega)
      | exact .inl ⟨by simp_all <;> omega, rfl⟩
      | exact .inr ⟨by simp_all <;> omega, _, rfl, rfl, rfl⟩
set_option maxHeartbeats 4000000 in
theorem l13Shard_run (hS : Has F tS01d) (hS10 : Has F tS10) (hS13 : Has F tS13) (v : Shard.RI h cs s fp) (ok : s.Ok) : call F Z 204 [.agg cs] h = some (.c (.bool s.good), h) := by
  obtain ⟨x, p, y, q, rfl, rfl, w, u⟩ := v
  have hB := sBookOk_run (Z := Z) hS10 w ok.book.list
  have ka := l13Shard_accs (Z := Z) (s := s) hS13 w u
  have kf := l13Shard_fins (Z := Z) (s := s) (x := x) hS13 u
  have l1 := w.len
  have l2 := u.len
  have n1 : ¬ (s.book.list.length : Int) < s.book.list.length := by omega
  have n2 : ¬ (s.finished.length : Int) < s.finished.length := by omega
  clear w u
  rw [call_run F Z (hS13.lk (g := 204) rfl) _ _ rfl]
  simp only [show ((0 : Nat) : Int) = 0 from rfl] at ka kf
  cases hd : s.head with
  | false =>
    have hg : s.good = false := by simp [Shard.good, hd]
    rw [hg]
    simp only [run0, run1, run2, run3, run4, noSlot, ownS, ownK, memN, RO.dst, lk, drop, forget, number, Nat.reduceBEq, cut?, splice?, builds, Nat.reduceAdd, Nat.reduceLeDiff, ↓reduceIte, reduceCtorEq, qqa, qqb, qqc, qqd, qqe, qqf, qqg, qqh, qqi, qqj, qqk, qql, qqm, qqn, qqo, qqp, qqq, qqr, qqs, qqt, qqu, qqv, qqw, qqx, qqy, hB, l2, l01In_run hS]
    clear ka kf
    (repeat' ((first | (rw [gF_if]; split) | (rw [condC_if]; split) | (rw [pickR_if]; split)) <;> (rename_i hh; (try simp only [Bool.not_eq_true, decide_eq_true_eq] at hh); simp only [hh, run0, run1, run2, run3, run4, noSlot, ownS, ownK, memN, RO.dst, lk, drop, forget, number, Nat.reduceBEq, cut?, splice?, builds, Nat.reduceAdd, Nat.reduceLeDiff, ↓reduceIte, reduceCtorEq, qqa, qqb, qqc, qqd, qqe, qqf, qqg, qqh, qqi, qqj, qqk, qql, qqm, qqn, qqo, qqp, qqq, qqr, qqs, qqt, qqu, qqv, qqw, qqx, qqy, hB, l2, l1, l01In_run hS])))
    all_goals clear hB l1 l2
    all_goals first
      | rfl
      | (exfalso; simp_all [Shard.head, inR]; done)
      | (exfalso; simp_all [Shard.head, inR]; omega)
  | true =>
    have hg : s.good = (s.book.list.all s.acc && (List.range s.finished.length).all s.finAt) := by simp [Shard.good, hd]
    rw [hg]
    simp only [Shard.head, Bool.and_eq_true, decide_eq_true_eq, Bool.or_eq_true, beq_iff_eq] at hd
    obtain ⟨d1, d2, d3, d5, d6⟩ := hd
    rw [d5] at hB
    have c1 : ¬ s.lo > s.hi := by omega
    have c2 : inR s.state 0 1 = true := by rcases d2 with d2 | d2 <;> simp [inR, d2]
    have c6 : ¬ (s.finished.length : Int) > 60 := by omega
    · simp only [run0, run1, run2, run3, run4, noSlot, ownS, ownK, memN, RO.dst, lk, drop, forget, number, Nat.reduceBEq, cut?, splice?, builds, Nat.reduceAdd, Nat.reduceLeDiff, ↓reduceIte, reduceCtorEq, qqa, qqb, qqc, qqd, qqe, qqf, qqg, qqh, qqi, qqj, qqk, qql, qqm, qqn, qqo, qqp, qqq, qqr, qqs, qqt, qqu, qqv, qqw, qqx, qqy, hB, l1, l2, c1, c2, d3, c6, l01In_run hS]
      rcases kf with ⟨a1, a2⟩ | ⟨a1, s', a2, a3, a4⟩
      · rw [a2, loop_run]
        conv in (codeF _ _ r204L1 _) => unfold r204L1
        simp only [run0, run1, run2, run3, run4, noSlot, ownS, ownK, memN, RO.dst, lk, drop, forget, number, Nat.reduceBEq, cut?, splice?, builds, Nat.reduceAdd, Nat.reduceLeDiff, ↓reduceIte, reduceCtorEq, qqa, qqb, qqc, qqd, qqe, qqf, qqg, qqh, qqi, qqj, qqk, qql, qqm, qqn, qqo, qqp, qqq, qqr, qqs, qqt, qqu, qqv, qqw, qqx, qqy, l2, n2]
        rcases ka with ⟨b1, b2⟩ | ⟨b1, s', b2, b3, b4⟩
        · rw [b2, loop_run]
          conv in (codeF _ _ r204L0 _) => unfold r204L0
          simp only [run0, run1, run2, run3, run4, noSlot, ownS, ownK, memN, RO.dst, lk, drop, forget, number, Nat.reduceBEq, cut?, splice?, builds, Nat.reduceAdd, Nat.reduceLeDiff, ↓reduceIte, reduceCtorEq, qqa, qqb, qqc, qqd, qqe, qqf, qqg, qqh, qqi, qqj, qqk, qql, qqm, qqn, qqo, qqp, qqq, qqr, qqs, qqt, qqu, qqv, qqw, qqx, qqy, l1, n1, a1, b1, Bool.and_self]
        · rw [b2]
          simp only [run0, run1, run2, run3, run4, noSlot, ownS, ownK, memN, RO.dst, lk, drop, forget, number, Nat.reduceBEq, cut?, splice?, builds, Nat.reduceAdd, Nat.reduceLeDiff, ↓reduceIte, reduceCtorEq, qqa, qqb, qqc, qqd, qqe, qqf, qqg, qqh, qqi, qqj, qqk, qql, qqm, qqn, qqo, qqp, qqq, qqr, qqs, qqt, qqu, qqv, qqw, qqx, qqy, b3, b4, b1, Bool.false_and]
      · rw [a2]
        simp only [run0, run1, run2, run3, run4, noSlot, ownS, ownK, memN, RO.dst, lk, drop, forget, number, Nat.reduceBEq, cut?, splice?, builds, Nat.reduceAdd, Nat.reduceLeDiff, ↓reduceIte, reduceCtorEq, qqa, qqb, qqc, qqd, qqe, qqf, qqg, qqh, qqi, qqj, qqk, qql, qqm, qqn, qqo, qqp, qqq, qqr, qqs, qqt, qqu, qqv, qqw, qqx, qqy, a3, a4, a1, Bool.and_false]
end
end Go.Proofs.Ytgfclcpnefinoaa.A
namespace Go.Proofs.Ytgfclcpnefinoaa.A
open Go
set_option linter.unusedSimpArgs false
set_option linter.unusedVariables false
section
variable {α : Type} {R : Rel α} {tag : Nat} {h : Heap} {x : Cell} {xs : List α} {fp : List Nat}
theorem SlR.one (w : SlR tag R h x xs fp) {i : Nat} (hi : i < xs.length) : ∃ r f, (∀ j n, loadP h x.sid i j n = cut? r j n) ∧ R h r xs[i] f ∧ ∀ id, id ∈ f → id ∈ fp := by
  obtain ⟨r, f, h1, h2, h3⟩ := w.row hi
  exact ⟨r, f, fun j n => by simp [loadP, h1], h2, h3⟩
structure Filled (R : Rel α) (h0 g : Heap) (o : Nat) (z : List Cell) (xs : List α) (i : Nat) (rows : List (List Cell)) (fps : List (List Nat)) : Prop where
  on : On h0 g
  ge : h0.next ≤ o
  lt : o < g.next
  get : g.get o = some rows
  len : rows.length = xs.length
  rel : AllR R g (rows.take i) (xs.take i) fps
  rest : ∀ j, i ≤ j → j < xs.length → rows[j]? = some z
  nd : fps.flatten.Nodup
  out : ∀ id, id ∈ fps.flatten → o < id
theorem AllR.snoc {h : Heap} : ∀ {rows : List (List Cell)} {xs : List α} {fps : List (List Nat)}, AllR R h rows xs fps → ∀ {r a f}, R h r a f → AllR R h (rows ++ [r]) (xs ++ [a]) (fps ++ [f])
  | [], [], [], _ => fun w => ⟨w, trivial⟩
  | _ :: _, _ :: _, _ :: _, ⟨w1, w⟩ => fun w2 => ⟨w1, w.snoc w2⟩
  | [], [], _ :: _, w => w.elim
  | [], _ :: _, _, w => w.elim
  | _ :: _, [], _, w => w.elim
  | _ :: _, _ :: _, [], w => w.elim
theorem Filled.start (h : Heap) (z : List Cell) (xs : List α) : Filled R h (h.push (List.replicate xs.length z)) h.next z xs 0 (List.replicate xs.length z) [] where
  on := On.push _ _
  ge := Nat.le_refl _
  lt := by rw [push_next]; omega
  get := push_get _ _
  len := by simp
  rel := trivial
  rest := fun j _ hj => by rw [List.getElem?_replicate, if_pos hj]
  nd := List.nodup_nil
  out := fun id hid => by simp at hid
theorem Filled.step (ok : RelOk R) {h0 g g' : Heap} {o : Nat} {z : List Cell} {i : Nat} {rows : List (List Cell)} {fps : List (List Nat)} (w : Filled R h0 g o z xs i rows fps) (hf : h0.floor ≤ h0.next) (hi : i < xs.length)
    {cs : List Cell} {fq : List Nat} (hz : cs.length = z.length) (o' : On g g') (v : R g' cs xs[i] fq) (f : Fre g fq) :
    storeP g' o i 0 cs = some (g'.put o (rows.set i cs)) ∧ Filled R h0 (g'.put o (rows.set i cs)) o z xs (i + 1) (rows.set i cs) (fps ++ [fq]) := by
  have hget : g'.get o = some rows := by rw [o'.ext.2 o w.lt]; exact w.get
  have hri : rows[i]? = some z := w.rest i (Nat.le_refl _) hi
  have hfl : g'.floor ≤ o := by rw [o'.fl, w.on.fl]; exact Nat.le_trans hf w.ge
  have hlen : i < rows.length := by rw [w.len]; exact hi
  have hput : ∀ id, id ≠ o → (g'.put o (rows.set i cs)).get id = g'.get id := fun id hid => by simp only [Heap.put]; rw [if_neg hid]
  have hin : ∀ id, id ∈ fps.flatten → id < g.next := by
    intro id hid
    exact w.rel.lt ok id hid
  refine ⟨?_, ?_⟩
  · refine storeP_at hfl hget hri ?_
    rw [splice?, if_pos (by omega)]
    simp [← hz]
  · refine ⟨⟨⟨Nat.le_trans w.on.ext.1 o'.ext.1, fun id hid => ?_⟩, o'.fl.trans w.on.fl⟩, w.ge, Nat.lt_of_lt_of_le w.lt o'.ext.1, by simp [Heap.put], by simp [w.len], ?_, fun j h1 h2 => ?_, ?_, fun id hid => ?_⟩
    · have := w.ge
      rw [hput id (by omega), o'.ext.2 id (Nat.lt_of_lt_of_le hid w.on.ext.1)]
      exact w.on.ext.2 id hid
    · have e1 : (rows.set i cs).take (i + 1) = rows.take i ++ [cs] := by
        rw [List.take_add_one, List.getElem?_set_self hlen]
        rw [List.take_set, List.set_eq_of_length_le (by simp; omega)]
        rfl
      have e2 : xs.take (i + 1) = xs.take i ++ [xs[i]] := by rw [List.take_add_one, List.getElem?_eq_getElem hi]; rfl
      rw [e1, e2]
      have v' : R (g'.put o (rows.set i cs)) cs xs[i] fq := ok.mv v (Nat.le_refl _) fun id hid => hput id (by have := f.lo id hid; have := w.lt; omega)
      refine AllR.snoc (w.rel.mv (h' := g'.put o (rows.set i cs)) ok o'.ext.1 fun id hid => ?_) v'
      rw [hput id (by have := w.out id hid; omega)]
      exact o'.ext.2 id (hin id hid)
    · rw [List.getElem?_set_ne (by omega)]
      exact w.rest j (by omega) h2
    · rw [List.flatten_append]
      simp only [List.flatten_cons, List.flatten_nil, List.append_nil]
      exact List.nodup_append.2 ⟨w.nd, f.nd, fun a ha b hb => by have := hin a ha; have := f.lo b hb; omega⟩
    · rw [List.flatten_append] at hid
      simp only [List.flatten_cons, List.flatten_nil, List.append_nil] at hid
      rcases List.mem_append.1 hid with hid | hid
      · exact w.out id hid
      · have := f.lo id hid
        have := w.lt
        omega
theorem Filled.all {h0 g : Heap} {o : Nat} {z : List Cell} {rows : List (List Cell)} {fps : List (List Nat)} (w : Filled R h0 g o z xs xs.length rows fps) (hl : xs.length ≤ 1048576) (tag : Nat) :
    On h0 g ∧ SlR tag R g (.sl tag o 0 xs.length) xs (o :: fps.flatten) ∧ Fre h0 (o :: fps.flatten) := by
  have hr := w.rel
  rw [List.take_length, ← w.len, List.take_length] at hr
  refine ⟨w.on, ⟨by unfold maxLen; omega, .inr ⟨o, rows, fps, rfl, w.get, w.lt, rfl, hr⟩⟩, ⟨fun id hid => ?_, ?_⟩⟩
  · have := w.ge
    rcases List.mem_cons.1 hid with rfl | hid
    · omega
    · have := w.out id hid; omega
  · exact List.nodup_cons.2 ⟨fun hc => by have := w.out o hc; omega, w.nd⟩
end
end Go.Proofs.Ytgfclcpnefinoaa.A
namespace Go.Proofs.Ytgfclcpnefinoaa.A
open Go
set_option linter.unusedSimpArgs false
set_option linter.unusedVariables false
def Shard.zeroC : List Cell := [.int .u64 0, .int .u64 0, .int .i64 0, .int .i64 0, .nil, .nil]
theorem Wf.isShardS' {h : Heap} {n : Nat} {a : List Cell} (w : Wf h (n + 6) shShardS a) : ∃ x xs fp, a = [x] ∧ SlR 20 Shard.RL h x xs fp ∧ ∀ t, t ∈ xs → t.Ok := by
  have hx : ∃ x, a = [x] := by rcases w with w | ⟨_, _, w, _⟩ <;> exact ⟨_, w⟩
  obtain ⟨x, rfl⟩ := hx
  obtain ⟨xs, fp, v, ok⟩ := SlR.ofWf (R := Shard.RL) (A := fun t => t.Ok) (fun r hr => by obtain ⟨t, fp, v, ok⟩ := Wf.isShard hr.2; exact ⟨t, fp, v, ok⟩) w
  exact ⟨x, xs, fp, rfl, v, ok⟩
section
variable {F : Nat → Option RF} {Z : CallF} {h : Heap} {x y : Cell} {xs ys : List Shard} {fp fq : List Nat}
theorem szShardS_c (hLShard : Has F tLShard) (hLBook : Has F tLBook) (hLAccount : Has F tLAccount) (hLFin : Has F tLFin) (w : SlR 20 Shard.RL h x xs fp) (left : Int) (h1 : 0 ≤ left) (h2 : left ≤ 1048576) : ∃ r, call F Z 203 [.c x, .c (.int .i64 left)] h = some (.c (.int .i64 r), h) ∧ r ≤ left ∧ (0 ≤ r → xs.length ≤ 1048576 ∧ ∀ a, a ∈ xs → a.Small) := by
  have hle := w.le2
  rw [call_run F Z (hLShard.lk (g := 203) rfl) _ _ rfl]
  simp only [run0, run1, run2, run3, run4, noSlot, ownS, ownK, memN, RO.dst, lk, drop, forget, number, Nat.reduceBEq, cut?, splice?, builds, Nat.reduceAdd, Nat.reduceLeDiff, ↓reduceIte, reduceCtorEq, qqa, qqb, qqc, qqd, qqe, qqf, qqg, qqh, qqi, qqj, qqk, qql, qqm, qqn, qqo, qqp, qqq, qqr, qqs, qqt, qqu, qqv, qqw, qqx, qqy, w.len, wrapI (left - xs.length) (by omega) (by omega)]
  by_cases n0 : left - xs.length < 0
  · simp only [run0, run1, run2, run3, run4, noSlot, ownS, ownK, memN, RO.dst, lk, drop, forget, number, Nat.reduceBEq, cut?, splice?, builds, Nat.reduceAdd, Nat.reduceLeDiff, ↓reduceIte, reduceCtorEq, qqa, qqb, qqc, qqd, qqe, qqf, qqg, qqh, qqi, qqj, qqk, qql, qqm, qqn, qqo, qqp, qqq, qqr, qqs, qqt, qqu, qqv, qqw, qqx, qqy, n0]
    exact ⟨_, rfl, by omega, by omega⟩
  simp only [run0, run1, run2, run3, run4, noSlot, ownS, ownK, memN, RO.dst, lk, drop, forget, number, Nat.reduceBEq, cut?, splice?, builds, Nat.reduceAdd, Nat.reduceLeDiff, ↓reduceIte, reduceCtorEq, qqa, qqb, qqc, qqd, qqe, qqf, qqg, qqh, qqi, qqj, qqk, qql, qqm, qqn, qqo, qqp, qqq, qqr, qqs, qqt, qqu, qqv, qqw, qqx, qqy, n0]
  rcases loop_rel (F := F) (Z := Z) (live := [0, 1, 5]) (b := r203L0) xs.length (fun i s => ∃ l, s = ⟨[(0, .c x), (1, .c (.int .i64 l)), (5, .c (.int .i64 (i : Nat)))], [], [], h⟩ ∧ 0 ≤ l ∧ l ≤ left ∧ ∀ a, a ∈ xs.take i → a.Small) (fun s => lk s.env 4 = some (.c (.int .i64 (-1))) ∧ s.hp = h) (fun i s hi ⟨l, hs, q1, q2, q3⟩ => by
    subst hs
    obtain ⟨r, f, hld, hr, _⟩ := w.one hi
    obtain ⟨l1, l2, l3⟩ := Shard.lenL hr
    obtain ⟨l', e, k1, k2⟩ := szShard_c (Z := Z) hLShard hLBook hLAccount hLFin hr l q1 (by omega)
    have hlt : (i : Int) < xs.length := by omega
    rw [loop_run]
    conv in (codeF _ _ r203L0 _) => unfold r203L0
    simp only [run0, run1, run2, run3, run4, noSlot, ownS, ownK, memN, RO.dst, lk, drop, forget, number, Nat.reduceBEq, cut?, splice?, builds, Nat.reduceAdd, Nat.reduceLeDiff, ↓reduceIte, reduceCtorEq, qqa, qqb, qqc, qqd, qqe, qqf, qqg, qqh, qqi, qqj, qqk, qql, qqm, qqn, qqo, qqp, qqq, qqr, qqs, qqt, qqu, qqv, qqw, qqx, qqy, w.len, hlt, w.idx hi, hld, l1, l2, e]
    by_cases n1 : l' < 0
    · simp only [run0, run1, run2, run3, run4, noSlot, ownS, ownK, memN, RO.dst, lk, drop, forget, number, Nat.reduceBEq, cut?, splice?, builds, Nat.reduceAdd, Nat.reduceLeDiff, ↓reduceIte, reduceCtorEq, qqa, qqb, qqc, qqd, qqe, qqf, qqg, qqh, qqi, qqj, qqk, qql, qqm, qqn, qqo, qqp, qqq, qqr, qqs, qqt, qqu, qqv, qqw, qqx, qqy, n1]
      exact Or.inr ⟨_, rfl, rfl, rfl⟩
    · simp only [run0, run1, run2, run3, run4, noSlot, ownS, ownK, memN, RO.dst, lk, drop, forget, number, Nat.reduceBEq, cut?, splice?, builds, Nat.reduceAdd, Nat.reduceLeDiff, ↓reduceIte, reduceCtorEq, qqa, qqb, qqc, qqd, qqe, qqf, qqg, qqh, qqi, qqj, qqk, qql, qqm, qqn, qqo, qqp, qqq, qqr, qqs, qqt, qqu, qqv, qqw, qqx, qqy, n1, wrapS i (by omega)]
      refine Or.inl ⟨_, ⟨l', rfl, by omega, by omega, fun a ha => ?_⟩, rfl⟩
      rw [List.take_add_one, List.getElem?_eq_getElem hi] at ha
      rcases List.mem_append.1 ha with ha | ha
      · exact q3 a ha
      · simp at ha; subst ha; exact k2 (by omega)) (s := ⟨[(0, .c x), (1, .c (.int .i64 (left - xs.length))), (5, .c (.int .i64 (0 : Nat)))], [], [], h⟩) ⟨_, rfl, by omega, by omega, fun a ha => by simp at ha⟩ with ⟨s', ⟨l, hs', q1, q2, q3⟩, l1⟩ | ⟨s', l1, q1, q2⟩
  · subst hs'
    simp only [show ((0 : Nat) : Int) = 0 from rfl] at l1
    rw [l1, loop_run]
    conv in (codeF _ _ r203L0 _) => unfold r203L0
    have hlt : ¬ (xs.length : Int) < xs.length := by omega
    simp only [run0, run1, run2, run3, run4, noSlot, ownS, ownK, memN, RO.dst, lk, drop, forget, number, Nat.reduceBEq, cut?, splice?, builds, Nat.reduceAdd, Nat.reduceLeDiff, ↓reduceIte, reduceCtorEq, qqa, qqb, qqc, qqd, qqe, qqf, qqg, qqh, qqi, qqj, qqk, qql, qqm, qqn, qqo, qqp, qqq, qqr, qqs, qqt, qqu, qqv, qqw, qqx, qqy, w.len, hlt]
    rw [List.take_length] at q3
    exact ⟨_, rfl, by omega, fun _ => ⟨by omega, q3⟩⟩
  · simp only [show ((0 : Nat) : Int) = 0 from rfl] at l1
    rw [l1]
    simp only [run0, run1, run2, run3, run4, noSlot, ownS, ownK, memN, RO.dst, lk, drop, forget, number, Nat.reduceBEq, cut?, splice?, builds, Nat.reduceAdd, Nat.reduceLeDiff, ↓reduceIte, reduceCtorEq, qqa, qqb, qqc, qqd, qqe, qqf, qqg, qqh, qqi, qqj, qqk, qql, qqm, qqn, qqo, qqp, qqq, qqr, qqs, qqt, qqu, qqv, qqw, qqx, qqy, q1, q2]
    exact ⟨_, rfl, by omega, by omega⟩
theorem toShardS_c (hLShard : Has F tLShard) (hLBook : Has F tLBook) (hLAccount : Has F tLAccount) (hLFin : Has F tLFin) (hf : h.floor ≤ h.next) (w : SlR 20 Shard.RL h x xs fp) (sm : xs.length ≤ 1048576 ∧ ∀ a, a ∈ xs → a.Small) : ∃ y h' fq, call F Z 205 [.c x] h = some (.c y, h') ∧ On h h' ∧ SlR 16 Shard.RI h' y xs fq ∧ Fre h fq := by
  obtain ⟨hn, sm⟩ := sm
  rw [call_run F Z (hLShard.lk (g := 205) rfl) _ _ rfl]
  simp only [run0, run1, run2, run3, run4, noSlot, ownS, ownK, memN, RO.dst, lk, drop, forget, number, Nat.reduceBEq, cut?, splice?, builds, Nat.reduceAdd, Nat.reduceLeDiff, ↓reduceIte, reduceCtorEq, qqa, qqb, qqc, qqd, qqe, qqf, qqg, qqh, qqi, qqj, qqk, qql, qqm, qqn, qqo, qqp, qqq, qqr, qqs, qqt, qqu, qqv, qqw, qqx, qqy, w.len]
  rw [if_pos (by omega)]
  simp only [run0, run1, run2, run3, run4, noSlot, ownS, ownK, memN, RO.dst, lk, drop, forget, number, Nat.reduceBEq, cut?, splice?, builds, Nat.reduceAdd, Nat.reduceLeDiff, ↓reduceIte, reduceCtorEq, qqa, qqb, qqc, qqd, qqe, qqf, qqg, qqh, qqi, qqj, qqk, qql, qqm, qqn, qqo, qqp, qqq, qqr, qqs, qqt, qqu, qqv, qqw, qqx, qqy, Int.toNat_natCast]
  obtain ⟨s', ⟨g, rows, fps, hs', fl⟩, l1⟩ := loop_goes (F := F) (Z := Z) (live := [0, 3, 4]) (b := r205L0) xs.length (fun i s => ∃ g rows fps, s = ⟨[(0, .c x), (3, .c (.sl 16 h.next 0 xs.length)), (4, .c (.int .i64 (i : Nat)))], [], [], g⟩ ∧ Filled Shard.RI h g h.next Shard.zeroC xs i rows fps) (fun i s hi ⟨g, rows, fps, hs, fl⟩ => by
    subst hs
    have wg := w.mono Shard.okL fl.on.ext
    obtain ⟨r, f, hld, hr, _⟩ := wg.one hi
    obtain ⟨l1, l2, l3⟩ := Shard.lenL hr
    obtain ⟨cs', g', fq, e, o', v, fr⟩ := toShard_c (Z := Z) hLShard hLBook hLAccount hLFin (fl.on.le hf) hr (sm _ (List.getElem_mem hi))
    obtain ⟨vl, _, _⟩ := Shard.lenI v
    obtain ⟨st, fl'⟩ := fl.step Shard.okI hf hi vl o' v fr
    have hlt : (i : Int) < xs.length := by omega
    have h0 : (0 : Int) ≤ i := by omega
    rw [loop_run]
    conv in (codeF _ _ r205L0 _) => unfold r205L0
    simp only [run0, run1, run2, run3, run4, noSlot, ownS, ownK, memN, RO.dst, lk, drop, forget, number, Nat.reduceBEq, cut?, splice?, builds, Nat.reduceAdd, Nat.reduceLeDiff, ↓reduceIte, reduceCtorEq, qqa, qqb, qqc, qqd, qqe, qqf, qqg, qqh, qqi, qqj, qqk, qql, qqm, qqn, qqo, qqp, qqq, qqr, qqs, qqt, qqu, qqv, qqw, qqx, qqy, w.len, hlt, w.idx hi, hld, l1, l2, e, h0, and_self, Int.toNat_natCast, vl, st, wrapS i (by omega)]
    exact ⟨_, ⟨_, _, _, rfl, fl'⟩, rfl⟩) (s := ⟨[(0, .c x), (3, .c (.sl 16 h.next 0 xs.length)), (4, .c (.int .i64 (0 : Nat)))], [], [], h.push (List.replicate xs.length Shard.zeroC)⟩) ⟨_, _, _, rfl, Filled.start h Shard.zeroC xs⟩
  subst hs'
  simp only [show ((0 : Nat) : Int) = 0 from rfl, Shard.zeroC] at l1
  rw [l1, loop_run]
  conv in (codeF _ _ r205L0 _) => unfold r205L0
  have hlt : ¬ (xs.length : Int) < xs.length := by omega
  simp only [run0, run1, run2, run3, run4, noSlot, ownS, ownK, memN, RO.dst, lk, drop, forget, number, Nat.reduceBEq, cut?, splice?, builds, Nat.reduceAdd, Nat.reduceLeDiff, ↓reduceIte, reduceCtorEq, qqa, qqb, qqc, qqd, qqe, qqf, qqg, qqh, qqi, qqj, qqk, qql, qqm, qqn, qqo, qqp, qqq, qqr, qqs, qqt, qqu, qqv, qqw, qqx, qqy, w.len, hlt]
  obtain ⟨o, v, f⟩ := fl.all hn 16
  exact ⟨_, _, _, rfl, o, v, f⟩
theorem eqShardS_r (hLShard : Has F tLShard) (hLBook : Has F tLBook) (hLAccount : Has F tLAccount) (hLFin : Has F tLFin) (w : SlR 16 Shard.RI h x xs fp) (v : SlR 16 Shard.RI h y ys fq) : call F Z 207 [.c x, .c y] h = some (.c (.bool (decide (xs = ys))), h) := by
  have hw := w.le2
  have hv := v.le2
  rw [call_run F Z (hLShard.lk (g := 207) rfl) _ _ rfl]
  simp only [run0, run1, run2, run3, run4, noSlot, ownS, ownK, memN, RO.dst, lk, drop, forget, number, Nat.reduceBEq, cut?, splice?, builds, Nat.reduceAdd, Nat.reduceLeDiff, ↓reduceIte, reduceCtorEq, qqa, qqb, qqc, qqd, qqe, qqf, qqg, qqh, qqi, qqj, qqk, qql, qqm, qqn, qqo, qqp, qqq, qqr, qqs, qqt, qqu, qqv, qqw, qqx, qqy, w.len, v.len]
  rw [condC_if]
  split
  · rename_i hne
    have : xs ≠ ys := by rintro rfl; simp at hne
    simp only [run0, run1, run2, run3, run4, noSlot, ownS, ownK, memN, RO.dst, lk, drop, forget, number, Nat.reduceBEq, cut?, splice?, builds, Nat.reduceAdd, Nat.reduceLeDiff, ↓reduceIte, reduceCtorEq, qqa, qqb, qqc, qqd, qqe, qqf, qqg, qqh, qqi, qqj, qqk, qql, qqm, qqn, qqo, qqp, qqq, qqr, qqs, qqt, qqu, qqv, qqw, qqx, qqy, this]
  · rename_i he
    have he : xs.length = ys.length := by simp at he; omega
    simp only [run0, run1, run2, run3, run4, noSlot, ownS, ownK, memN, RO.dst, lk, drop, forget, number, Nat.reduceBEq, cut?, splice?, builds, Nat.reduceAdd, Nat.reduceLeDiff, ↓reduceIte, reduceCtorEq, qqa, qqb, qqc, qqd, qqe, qqf, qqg, qqh, qqi, qqj, qqk, qql, qqm, qqn, qqo, qqp, qqq, qqr, qqs, qqt, qqu, qqv, qqw, qqx, qqy]
    have key := loop_allN (F := F) (Z := Z) (live := [0, 1, 5]) (b := r207L0) xs.length (fun i => ⟨[(0, .c x), (1, .c y), (5, .c (.int .i64 (i : Nat)))], [], [], h⟩) (fun i => decide (xs[i]? = ys[i]?)) (fun s => lk s.env 4 = some (.c (.bool false)) ∧ s.hp = h) fun i hi => by
      have hi' : i < ys.length := by omega
      have hlt : (i : Int) < xs.length := by omega
      obtain ⟨r, f, hld, hr, _⟩ := w.one hi
      obtain ⟨r', f', hld', hr', _⟩ := v.one hi'
      obtain ⟨l1, l2, l3⟩ := Shard.lenI hr
      obtain ⟨l1', l2', l3'⟩ := Shard.lenI hr'
      have e := eqShard_r (Z := Z) (h := ⟨h.next, h.next, h.get⟩) hLShard hLBook hLAccount hLFin (Shard.okI.up hr _) (Shard.okI.up hr' _)
      rw [loop_run]
      conv in (codeF _ _ r207L0 _) => unfold r207L0
      simp only [run0, run1, run2, run3, run4, noSlot, ownS, ownK, memN, RO.dst, lk, drop, forget, number, Nat.reduceBEq, cut?, splice?, builds, Nat.reduceAdd, Nat.reduceLeDiff, ↓reduceIte, reduceCtorEq, qqa, qqb, qqc, qqd, qqe, qqf, qqg, qqh, qqi, qqj, qqk, qql, qqm, qqn, qqo, qqp, qqq, qqr, qqs, qqt, qqu, qqv, qqw, qqx, qqy, w.len, hlt, w.idx hi, v.idx hi', hld, hld', l1, l2, l1', l2', e, wrapS i (by omega)]
      rw [List.getElem?_eq_getElem hi, List.getElem?_eq_getElem hi']
      clear e hld hld' hr hr' l1 l2 l3 l1' l2' l3'
      (repeat' ((first | (rw [gF_if]; split) | (rw [condC_if]; split) | (rw [pickR_if]; split)) <;> (rename_i hh; (try simp only [Bool.not_eq_true, decide_eq_true_eq] at hh); simp only [hh, run0, run1, run2, run3, run4, noSlot, ownS, ownK, memN, RO.dst, lk, drop, forget, number, Nat.reduceBEq, cut?, splice?, builds, Nat.reduceAdd, Nat.reduceLeDiff, ↓reduceIte, reduceCtorEq, qqa, qqb, qqc, qqd, qqe, qqf, qqg, qqh, qqi, qqj, qqk, qql, qqm, qqn, qqo, qqp, qqq, qqr, qqs, qqt, qqu, qqv, qqw, qqx, qqy, wrapS i (by omega)])))
      · exact .inr ⟨by simp_all, _, rfl, rfl, rfl⟩
      · exact .inl ⟨by simp_all, rfl⟩
    rw [all_same he] at key
    rcases key with ⟨k1, k2⟩ | ⟨k1, s, k2, k3, k4⟩
    · simp only [show ((0 : Nat) : Int) = 0 from rfl] at k2
      rw [k2, loop_run]
      conv in (codeF _ _ r207L0 _) => unfold r207L0
      have hlt : ¬ (xs.length : Int) < xs.length := by omega
      simp only [run0, run1, run2, run3, run4, noSlot, ownS, ownK, memN, RO.dst, lk, drop, forget, number, Nat.reduceBEq, cut?, splice?, builds, Nat.reduceAdd, Nat.reduceLeDiff, ↓reduceIte, reduceCtorEq, qqa, qqb, qqc, qqd, qqe, qqf, qqg, qqh, qqi, qqj, qqk, qql, qqm, qqn, qqo, qqp, qqq, qqr, qqs, qqt, qqu, qqv, qqw, qqx, qqy, w.len, hlt, k1]
    · simp only [show ((0 : Nat) : Int) = 0 from rfl] at k2
      rw [k2]
      simp only [run0, run1, run2, run3, run4, noSlot, ownS, ownK, memN, RO.dst, lk, drop, forget, number, Nat.reduceBEq, cut?, splice?, builds, Nat.reduceAdd, Nat.reduceLeDiff, ↓reduceIte, reduceCtorEq, qqa, qqb, qqc, qqd, qqe, qqf, qqg, qqh, qqi, qqj, qqk, qql, qqm, qqn, qqo, qqp, qqq, qqr, qqs, qqt, qqu, qqv, qqw, qqx, qqy, k3, k4, k1]
end
end Go.Proofs.Ytgfclcpnefinoaa.A
namespace Go.Proofs.Ytgfclcpnefinoaa.A
open Go
set_option linter.unusedSimpArgs false
set_option linter.unusedVariables false
structure Store where
  group : Int
  seen : Int
  shards : List Shard
  deriving DecidableEq
def Store.RL : Rel Store := fun h cs t fp => ∃ x1 p1, cs = [.int .i64 t.group, .int .i64 t.seen, x1] ∧ fp = p1 ∧ SlR 20 (Shard.RL) h x1 t.shards p1
theorem Store.okL : RelOk Store.RL where
  lt := by
    rintro h cs t fp ⟨x1, p1, rfl, rfl, w1⟩ id hid
    exact w1.lt (Shard.okL) id hid
  mv := by
    rintro h h' cs t fp ⟨x1, p1, rfl, rfl, w1⟩ hn hg
    exact ⟨x1, _, rfl, rfl, w1.mv (Shard.okL) hn hg⟩
def Store.RI : Rel Store := fun h cs t fp => ∃ x1 p1, cs = [.int .i64 t.group, .int .i64 t.seen, x1] ∧ fp = p1 ∧ SlR 16 (Shard.RI) h x1 t.shards p1
theorem Store.okI : RelOk Store.RI where
  lt := by
    rintro h cs t fp ⟨x1, p1, rfl, rfl, w1⟩ id hid
    exact w1.lt (Shard.okI) id hid
  mv := by
    rintro h h' cs t fp ⟨x1, p1, rfl, rfl, w1⟩ hn hg
    exact ⟨x1, _, rfl, rfl, w1.mv (Shard.okI) hn hg⟩
theorem Store.lenL {h : Heap} {cs : List Cell} {t : Store} {fp : List Nat} (v : Store.RL h cs t fp) : cs.length = 3 ∧ cs.take 3 = cs ∧ cs.drop 3 = [] := by
  obtain ⟨x1, p1, rfl, _⟩ := v
  exact ⟨rfl, rfl, rfl⟩
theorem Store.lenI {h : Heap} {cs : List Cell} {t : Store} {fp : List Nat} (v : Store.RI h cs t fp) : cs.length = 3 ∧ cs.take 3 = cs ∧ cs.drop 3 = [] := by
  obtain ⟨x1, p1, rfl, _⟩ := v
  exact ⟨rfl, rfl, rfl⟩
namespace Store
structure Ok (t : Store) : Prop where
  group : -9223372036854775808 ≤ t.group ∧ t.group ≤ 9223372036854775807
  seen : -9223372036854775808 ≤ t.seen ∧ t.seen ≤ 9223372036854775807
  shards : ∀ a, a ∈ t.shards → a.Ok
def Small (t : Store) : Prop := (t.shards.length ≤ 1048576 ∧ ∀ a, a ∈ t.shards → a.Small)
end Store
theorem Wf.isStore {h : Heap} {n : Nat} {cs : List Cell} (w : Wf h (n + 7) shStore cs) : ∃ t fp, Store.RL h cs t fp ∧ t.Ok := by
  obtain ⟨_, _, rfl, _, ⟨i1, rfl, j1⟩, _, _, rfl, _, ⟨i2, rfl, j2⟩, _, _, rfl, _, m3, rfl⟩ := w
  obtain ⟨x1, l1, p1, rfl, w1, o1⟩ := Wf.isShardS' m3
  exact ⟨⟨i1, i2, l1⟩, _, ⟨x1, _, rfl, rfl, w1⟩, ⟨wfI j1, wfI j2, o1⟩⟩
section
variable {F : Nat → Option RF} {Z : CallF} {h : Heap} {cs cs' : List Cell} {t u : Store} {fp fq : List Nat}
theorem szStore_c (hLStore : Has F tLStore) (hLShard : Has F tLShard) (hLBook : Has F tLBook) (hLAccount : Has F tLAccount) (hLFin : Has F tLFin) (v : Store.RL h cs t fp) (left : Int) (h1 : 0 ≤ left) (h2 : left ≤ 1048576) : ∃ r, call F Z 154 [.agg cs, .c (.int .i64 left)] h = some (.c (.int .i64 r), h) ∧ r ≤ left ∧ (0 ≤ r → t.Small) := by
  obtain ⟨x1, p1, rfl, rfl, w1⟩ := v
  rw [call_run F Z (hLStore.lk (g := 154) rfl) _ _ rfl]
  simp only [run0, run1, run2, run3, run4, noSlot, ownS, ownK, memN, RO.dst, lk, drop, forget, number, Nat.reduceBEq, cut?, splice?, builds, Nat.reduceAdd, Nat.reduceLeDiff, ↓reduceIte, reduceCtorEq, qqa, qqb, qqc, qqd, qqe, qqf, qqg, qqh, qqi, qqj, qqk, qql, qqm, qqn, qqo, qqp, qqq, qqr, qqs, qqt, qqu, qqv, qqw, qqx, qqy]
  obtain ⟨l0, s0, a0, b0⟩ := szShardS_c (Z := Z) hLShard hLBook hLAccount hLFin w1 left (by omega) (by omega)
  simp only [run0, run1, run2, run3, run4, noSlot, ownS, ownK, memN, RO.dst, lk, drop, forget, number, Nat.reduceBEq, cut?, splice?, builds, Nat.reduceAdd, Nat.reduceLeDiff, ↓reduceIte, reduceCtorEq, qqa, qqb, qqc, qqd, qqe, qqf, qqg, qqh, qqi, qqj, qqk, qql, qqm, qqn, qqo, qqp, qqq, qqr, qqs, qqt, qqu, qqv, qqw, qqx, qqy, s0]
  by_cases n0 : l0 < 0
  · simp only [run0, run1, run2, run3, run4, noSlot, ownS, ownK, memN, RO.dst, lk, drop, forget, number, Nat.reduceBEq, cut?, splice?, builds, Nat.reduceAdd, Nat.reduceLeDiff, ↓reduceIte, reduceCtorEq, qqa, qqb, qqc, qqd, qqe, qqf, qqg, qqh, qqi, qqj, qqk, qql, qqm, qqn, qqo, qqp, qqq, qqr, qqs, qqt, qqu, qqv, qqw, qqx, qqy, n0]
    exact ⟨_, rfl, by omega, by omega⟩
  simp only [run0, run1, run2, run3, run4, noSlot, ownS, ownK, memN, RO.dst, lk, drop, forget, number, Nat.reduceBEq, cut?, splice?, builds, Nat.reduceAdd, Nat.reduceLeDiff, ↓reduceIte, reduceCtorEq, qqa, qqb, qqc, qqd, qqe, qqf, qqg, qqh, qqi, qqj, qqk, qql, qqm, qqn, qqo, qqp, qqq, qqr, qqs, qqt, qqu, qqv, qqw, qqx, qqy, n0]
  exact ⟨_, rfl, by omega, fun _ => b0 (by omega)⟩
theorem toStore_c (hLStore : Has F tLStore) (hLShard : Has F tLShard) (hLBook : Has F tLBook) (hLAccount : Has F tLAccount) (hLFin : Has F tLFin) (hf : h.floor ≤ h.next) (v : Store.RL h cs t fp) (sm : t.Small) : ∃ cs' h' fq, call F Z 155 [.agg cs] h = some (.agg cs', h') ∧ On h h' ∧ Store.RI h' cs' t fq ∧ Fre h fq := by
  obtain ⟨x1, p1, rfl, rfl, w1⟩ := v
  have sm0 := sm
  obtain ⟨y1, g0, q1, e0, o0, u1, r0⟩ := toShardS_c (Z := Z) hLShard hLBook hLAccount hLFin hf w1 sm0
  rw [call_run F Z (hLStore.lk (g := 155) rfl) _ _ rfl]
  simp only [run0, run1, run2, run3, run4, noSlot, ownS, ownK, memN, RO.dst, lk, drop, forget, number, Nat.reduceBEq, cut?, splice?, builds, Nat.reduceAdd, Nat.reduceLeDiff, ↓reduceIte, reduceCtorEq, qqa, qqb, qqc, qqd, qqe, qqf, qqg, qqh, qqi, qqj, qqk, qql, qqm, qqn, qqo, qqp, qqq, qqr, qqs, qqt, qqu, qqv, qqw, qqx, qqy, e0]
  exact ⟨_, _, _, rfl, o0, ⟨y1, _, rfl, rfl, u1⟩, r0⟩
set_option maxHeartbeats 1000000 in
theorem eqStore_r (hLStore : Has F tLStore) (hLShard : Has F tLShard) (hLBook : Has F tLBook) (hLAccount : Has F tLAccount) (hLFin : Has F tLFin) (v : Store.RI h cs t fp) (v' : Store.RI h cs' u fq) : call F Z 158 [.agg cs, .agg cs'] h = some (.c (.bool (decide (t = u))), h) := by
  obtain ⟨x1, p1, rfl, rfl, w1⟩ := v
  obtain ⟨x1', p1', rfl, rfl, w1'⟩ := v'
  obtain ⟨group1, seen1, shards1⟩ := t
  obtain ⟨group2, seen2, shards2⟩ := u
  have e0 := eqShardS_r (Z := Z) hLShard hLBook hLAccount hLFin w1 w1'
  clear w1 w1'
  rw [call_run F Z (hLStore.lk (g := 158) rfl) _ _ rfl]
  simp only [run0, run1, run2, run3, run4, noSlot, ownS, ownK, memN, RO.dst, lk, drop, forget, number, Nat.reduceBEq, cut?, splice?, builds, Nat.reduceAdd, Nat.reduceLeDiff, ↓reduceIte, reduceCtorEq, qqa, qqb, qqc, qqd, qqe, qqf, qqg, qqh, qqi, qqj, qqk, qql, qqm, qqn, qqo, qqp, qqq, qqr, qqs, qqt, qqu, qqv, qqw, qqx, qqy, e0]
  (repeat' ((first | (rw [gF_if]; split) | (rw [condC_if]; split) | (rw [pickR_if]; split)) <;> (rename_i hh; (try simp only [Bool.not_eq_true, decide_eq_true_eq] at hh); simp only [hh, run0, run1, run2, run3, run4, noSlot, ownS, ownK, memN, RO.dst, lk, drop, forget, number, Nat.reduceBEq, cut?, splice?, builds, Nat.reduceAdd, Nat.reduceLeDiff, ↓reduceIte, reduceCtorEq, qqa, qqb, qqc, qqd, qqe, qqf, qqg, qqh, qqi, qqj, qqk, qql, qqm, qqn, qqo, qqp, qqq, qqr, qqs, qqt, qqu, qqv, qqw, qqx, qqy, e0]))) <;> clear e0 <;> refine fin_bool ?_ <;> simp_all <;> (try (intros; omega))
end
end Go.Proofs.Ytgfclcpnefinoaa.A
namespace Go.Proofs.Ytgfclcpnefinoaa.A
open Go
set_option linter.unusedSimpArgs false
set_option linter.unusedVariables false
def TurnO (r : Option (Ex × St)) (next : Heap → Option (Ex × St)) (g : Heap) (p : Bool) (Q : St → Prop) : Prop :=
  (p = true ∧ ∃ g', On g g' ∧ r = next g') ∨ (p = false ∧ ∃ s', r = some (.ret, s') ∧ On g s'.hp ∧ Q s')
section
variable {F : Nat → Option RF} {Z : CallF} {live : List Nat} {b : RC}
theorem loop_on (n : Nat) (st : Nat → Heap → St) (h : Heap) (P : Nat → Bool) (Q : St → Prop)
    (hs : ∀ i g, i < n → On h g → TurnO (loop F Z live b (st i g)) (fun g' => loop F Z live b (st (i + 1) g')) g (P i) Q) :
    TurnO (loop F Z live b (st 0 h)) (fun g' => loop F Z live b (st n g')) h ((List.range n).all P) Q := by
  induction n with
  | zero => exact .inl ⟨rfl, h, On.refl h, rfl⟩
  | succ n ih =>
    have hl : (List.range (n + 1)).all P = ((List.range n).all P && P n) := by rw [List.range_succ, List.all_append]; simp
    rcases ih fun i g hi => hs i g (by omega) with ⟨h1, g1, o1, e1⟩ | ⟨h1, s', e1, o1, q1⟩
    · rcases hs n g1 (by omega) o1 with ⟨h3, g2, o2, e2⟩ | ⟨h3, s', e2, o2, q2⟩
      · exact .inl ⟨by rw [hl, h1, h3]; rfl, g2, o1.trans o2, e1.trans e2⟩
      · exact .inr ⟨by rw [hl, h1, h3]; rfl, s', e1.trans e2, o1.trans o2, q2⟩
    · exact .inr ⟨by rw [hl, h1]; rfl, s', e1, o1, q1⟩
end
end Go.Proofs.Ytgfclcpnefinoaa.A
namespace Go.Proofs.Ytgfclcpnefinoaa.A
open Go
set_option linter.unusedSimpArgs false
set_option linter.unusedVariables false
structure KI (F : Nat → Option RF) : Prop where
  i10 : Has F tI10
  i11 : Has F tI11
  i13 : Has F tI13
  c1 : Has F tLibcmpCompareint
  c2 : Has F tLibcmpCompareuint64
  c3 : Has F tLibcmpOrint
  c4 : Has F tLibcmpisNaNint
  c5 : Has F tLibcmpisNaNuint64
  li : Has F tLibslicesIndeximplFinimplFin
  lc : Has F tLibslicesContainsimplFinimplFin
structure KS (F : Nat → Option RF) : Prop where
  s01 : Has F tS01d
  s10 : Has F tS10
  s13 : Has F tS13
def Shard.none_ : Shard := ⟨0, 0, 0, 0, ⟨[]⟩, []⟩
def Shard.at_ (xs : List Shard) (i : Nat) : Shard := xs[i]?.getD Shard.none_
theorem Shard.at_get {xs : List Shard} {i : Nat} (hi : i < xs.length) : Shard.at_ xs i = xs[i] := by simp [Shard.at_, List.getElem?_eq_getElem hi]
def Store.fits (s : Store) (i : Nat) : Bool := (Shard.at_ s.shards i).good && (decide ((Shard.at_ s.shards i).epoch ≤ s.seen) && (i == 0 || decide ((Shard.at_ s.shards (i - 1)).hi < (Shard.at_ s.shards i).lo)))
def Store.good (s : Store) : Bool := inR s.group 0 99 && (inR s.seen 0 1000000 && (decide ((s.shards.length : Int) ≤ 8) && (List.range s.shards.length).all s.fits))
section
variable {F : Nat → Option RF} {Z : CallF} {h : Heap} {cs : List Cell} {s : Store} {fp : List Nat} {x : Cell}
theorem isShard_q (k : KI F) {t : Shard} {cs : List Cell} {fp : List Nat} (v : Shard.RI h cs t fp) (ok : t.Ok) :
    ∃ h' g, call F Z 244 [.agg cs] ⟨h.next, h.next, h.get⟩ = some (.c (.bool t.good), h') ∧ Heap.mk h'.next h.floor h'.get = g ∧ On h g := by
  obtain ⟨h', e, o⟩ := isShard_run (Z := Z) k.i10 k.i13 k.c1 k.c2 k.c3 k.c4 k.c5 k.li k.lc (Shard.okI.up v h.next) ok
  exact quietly e o
set_option maxHeartbeats 4000000 in
theorem isStore_turn (k : KI F) (w : SlR 16 Shard.RI h x s.shards fp) (ok : ∀ a, a ∈ s.shards → a.Ok) (i : Nat) (hi : i < s.shards.length) :
    TurnO (loop F Z [1, 26, 27, 28] r206L0 ⟨[(26, .c x), (27, .c (.int .i64 (s.shards.length : Nat))), (28, .c (.int .i64 (i : Nat)))], [(1, 1, 0)], [(1, [.int .i64 s.group, .int .i64 s.seen, x])], h⟩)
      (fun g => loop F Z [1, 26, 27, 28] r206L0 ⟨[(26, .c x), (27, .c (.int .i64 (s.shards.length : Nat))), (28, .c (.int .i64 ((i + 1 : Nat) : Int)))], [(1, 1, 0)], [(1, [.int .i64 s.group, .int .i64 s.seen, x])], g⟩)
      h (s.fits i) (fun s' => lk s'.env 2 = some (.c (.bool false))) := by
  have hle := w.le2
  have hlt : (i : Int) < s.shards.length := by omega
  have hws := wrapS i (by omega)
  have hxi := w.idx hi
  obtain ⟨r, f, hld, hR, _⟩ := w.one hi
  rw [← Shard.at_get hi] at hR
  have aok := ok _ (List.getElem_mem hi)
  rw [← Shard.at_get hi] at aok
  obtain ⟨h', g, hc, hg, og⟩ := isShard_q (Z := Z) k hR aok
  have hpre : 0 < i → IntKind.i64.wrap ((i : Int) - 1) = ((i - 1 : Nat) : Int) := fun hp => by rw [wrapI _ (by omega) (by omega)]; omega
  have hpi : 0 < i → idxR 16 (some x) (some ((i - 1 : Nat) : Int)) = some (.ptr x.sid (i - 1) 0) := fun hp => w.idx (by omega)
  have hpl : 0 < i → ∃ r', (∀ j n, loadP g x.sid (i - 1) j n = cut? r' j n) ∧ ∃ f', Shard.RI g r' (Shard.at_ s.shards (i - 1)) f' := fun hp => by
    obtain ⟨r', f', h1, h2, _⟩ := (w.on Shard.okI og).one (show i - 1 < s.shards.length by omega)
    rw [← Shard.at_get] at h2
    exact ⟨r', h1, f', h2⟩
  have hfit : s.fits i = ((Shard.at_ s.shards i).good && (decide ((Shard.at_ s.shards i).epoch ≤ s.seen) && (i == 0 || decide ((Shard.at_ s.shards (i - 1)).hi < (Shard.at_ s.shards i).lo)))) := rfl
  obtain ⟨x1, p1, x2, p2, rfl, _⟩ := hR
  clear w ok aok
  generalize s.fits i = fa at *
  generalize (Shard.at_ s.shards i).good = gd at *
  generalize Shard.at_ s.shards (i - 1) = pa at *
  generalize Shard.at_ s.shards i = a at *
  rw [loop_run]
  conv in (codeF _ _ r206L0 _) => unfold r206L0
  simp only [run0, run1, run2, run3, run4, noSlot, ownS, ownK, memN, RO.dst, lk, drop, forget, number, Nat.reduceBEq, cut?, splice?, builds, Nat.reduceAdd, Nat.reduceLeDiff, ↓reduceIte, reduceCtorEq, qqa, qqb, qqc, qqd, qqe, qqf, qqg, qqh, qqi, qqj, qqk, qql, qqm, qqn, qqo, qqp, qqq, qqr, qqs, qqt, qqu, qqv, qqw, qqx, qqy, hlt, hxi, hld]
  cases gd with
  | false =>
    simp only [run0, run1, run2, run3, run4, noSlot, ownS, ownK, memN, RO.dst, lk, drop, forget, number, Nat.reduceBEq, cut?, splice?, builds, Nat.reduceAdd, Nat.reduceLeDiff, ↓reduceIte, reduceCtorEq, qqa, qqb, qqc, qqd, qqe, qqf, qqg, qqh, qqi, qqj, qqk, qql, qqm, qqn, qqo, qqp, qqq, qqr, qqs, qqt, qqu, qqv, qqw, qqx, qqy, hc, hg]
    exact .inr ⟨by simp_all, _, rfl, og, rfl⟩
  | true =>
    by_cases hp : 0 < i
    · have g1 : (i : Int) > 0 := by omega
      have hi0 : (i == 0) = false := by simp; omega
      have q1 := hpre hp
      have q2 := hpi hp
      obtain ⟨r', q3, f', y1, y2, y3, y4, rfl, _⟩ := hpl hp
      clear hxi hpre hpi hpl hld
      simp only [run0, run1, run2, run3, run4, noSlot, ownS, ownK, memN, RO.dst, lk, drop, forget, number, Nat.reduceBEq, cut?, splice?, builds, Nat.reduceAdd, Nat.reduceLeDiff, ↓reduceIte, reduceCtorEq, qqa, qqb, qqc, qqd, qqe, qqf, qqg, qqh, qqi, qqj, qqk, qql, qqm, qqn, qqo, qqp, qqq, qqr, qqs, qqt, qqu, qqv, qqw, qqx, qqy, hws, g1, q1, q2, q3, hc, hg]
      (repeat' ((first | (rw [gF_if]; split) | (rw [condC_if]; split) | (rw [pickR_if]; split)) <;> (rename_i hh; (try simp only [Bool.not_eq_true, decide_eq_true_eq] at hh); simp only [hh, run0, run1, run2, run3, run4, noSlot, ownS, ownK, memN, RO.dst, lk, drop, forget, number, Nat.reduceBEq, cut?, splice?, builds, Nat.reduceAdd, Nat.reduceLeDiff, ↓reduceIte, reduceCtorEq, qqa, qqb, qqc, qqd, qqe, qqf, qqg, qqh, qqi, qqj, qqk, qql, qqm, qqn, qqo, qqp, qqq, qqr, qqs, qqt, qqu, qqv, qqw, qqx, qqy, hws, g1, q1, q2, q3, hc, hg])))
      all_goals clear q2 q3 hc hg
      all_goals first
        | exact .inl ⟨by simp_all <;> omega, _, og, rfl⟩
        | exact .inr ⟨by simp_all <;> omega, _, rfl, og, rfl⟩
    · have g1 : ¬ (i : Int) > 0 := by omega
      have hi0 : (i == 0) = true := by simp; omega
      clear hxi hpre hpi hpl hld
      simp only [run0, run1, run2, run3, run4, noSlot, ownS, ownK, memN, RO.dst, lk, drop, forget, number, Nat.reduceBEq, cut?, splice?, builds, Nat.reduceAdd, Nat.reduceLeDiff, ↓reduceIte, reduceCtorEq, qqa, qqb, qqc, qqd, qqe, qqf, qqg, qqh, qqi, qqj, qqk, qql, qqm, qqn, qqo, qqp, qqq, qqr, qqs, qqt, qqu, qqv, qqw, qqx, qqy, hws, g1, hc, hg]
      (repeat' ((first | (rw [gF_if]; split) | (rw [condC_if]; split) | (rw [pickR_if]; split)) <;> (rename_i hh; (try simp only [Bool.not_eq_true, decide_eq_true_eq] at hh); simp only [hh, run0, run1, run2, run3, run4, noSlot, ownS, ownK, memN, RO.dst, lk, drop, forget, number, Nat.reduceBEq, cut?, splice?, builds, Nat.reduceAdd, Nat.reduceLeDiff, ↓reduceIte, reduceCtorEq, qqa, qqb, qqc, qqd, qqe, qqf, qqg, qqh, qqi, qqj, qqk, qql, qqm, qqn, qqo, qqp, qqq, qqr, qqs, qqt, qqu, qqv, qqw, qqx, qqy, hws, g1, hc, hg])))
      all_goals clear hc hg
      all_goals first
        | exact .inl ⟨by simp_all <;> omega, _, og, rfl⟩
        | exact .inr ⟨by simp_all <;> omega, _, rfl, og, rfl⟩
set_option maxHeartbeats 4000000 in
theorem isStore_run (k : KI F) (v : Store.RI h cs s fp) (ok : s.Ok) : ∃ h', call F Z 206 [.agg cs] h = some (.c (.bool s.good), h') ∧ On h h' := by
  obtain ⟨x, p, rfl, rfl, w⟩ := v
  have key := loop_on (F := F) (Z := Z) (live := [1, 26, 27, 28]) (b := r206L0) s.shards.length (fun i g => ⟨[(26, .c x), (27, .c (.int .i64 (s.shards.length : Nat))), (28, .c (.int .i64 (i : Nat)))], [(1, 1, 0)], [(1, [.int .i64 s.group, .int .i64 s.seen, x])], g⟩) h s.fits (fun s' => lk s'.env 2 = some (.c (.bool false)))
    fun i g hi og => isStore_turn k (w.on Shard.okI og) ok.shards i hi
  have l1 := w.len
  have n1 : ¬ (s.shards.length : Int) < s.shards.length := by omega
  clear w ok
  simp only [show ((0 : Nat) : Int) = 0 from rfl] at key
  have hg := isGroupId_run (Z := Z) k.i11
  have hgd : s.good = (inR s.group 0 99 && (inR s.seen 0 1000000 && (decide ((s.shards.length : Int) ≤ 8) && (List.range s.shards.length).all s.fits))) := rfl
  generalize s.good = sg at *
  generalize (List.range s.shards.length).all s.fits = al at *
  rw [call_run F Z (k.i13.lk (g := 206) rfl) _ _ rfl]
  simp only [run0, run1, run2, run3, run4, noSlot, ownS, ownK, memN, RO.dst, lk, drop, forget, number, Nat.reduceBEq, cut?, splice?, builds, Nat.reduceAdd, Nat.reduceLeDiff, ↓reduceIte, reduceCtorEq, qqa, qqb, qqc, qqd, qqe, qqf, qqg, qqh, qqi, qqj, qqk, qql, qqm, qqn, qqo, qqp, qqq, qqr, qqs, qqt, qqu, qqv, qqw, qqx, qqy, hg, l1]
  clear k
  (repeat' ((first | (rw [gF_if]; split) | (rw [condC_if]; split) | (rw [pickR_if]; split)) <;> (rename_i hh; (try simp only [Bool.not_eq_true, decide_eq_true_eq] at hh); simp only [hh, run0, run1, run2, run3, run4, noSlot, ownS, ownK, memN, RO.dst, lk, drop, forget, number, Nat.reduceBEq, cut?, splice?, builds, Nat.reduceAdd, Nat.reduceLeDiff, ↓reduceIte, reduceCtorEq, qqa, qqb, qqc, qqd, qqe, qqf, qqg, qqh, qqi, qqj, qqk, qql, qqm, qqn, qqo, qqp, qqq, qqr, qqs, qqt, qqu, qqv, qqw, qqx, qqy, hg, l1])))
  all_goals clear hg l1
  all_goals first
    | (refine ⟨_, ?_, On.refl h⟩; simp_all [inR]; done)
    | (refine ⟨_, ?_, On.refl h⟩; simp_all [inR]; omega)
    | (rcases key with ⟨a1, g, og, a2⟩ | ⟨a1, s', a2, og, a3⟩
       · dsimp only at a2
         rw [a2, loop_run]
         conv in (codeF _ _ r206L0 _) => unfold r206L0
         simp only [run0, run1, run2, run3, run4, noSlot, ownS, ownK, memN, RO.dst, lk, drop, forget, number, Nat.reduceBEq, cut?, splice?, builds, Nat.reduceAdd, Nat.reduceLeDiff, ↓reduceIte, reduceCtorEq, qqa, qqb, qqc, qqd, qqe, qqf, qqg, qqh, qqi, qqj, qqk, qql, qqm, qqn, qqo, qqp, qqq, qqr, qqs, qqt, qqu, qqv, qqw, qqx, qqy, n1]
         refine ⟨_, ?_, og⟩
         simp_all [inR] <;> omega
       · rw [a2]
         simp only [run0, run1, run2, run3, run4, noSlot, ownS, ownK, memN, RO.dst, lk, drop, forget, number, Nat.reduceBEq, cut?, splice?, builds, Nat.reduceAdd, Nat.reduceLeDiff, ↓reduceIte, reduceCtorEq, qqa, qqb, qqc, qqd, qqe, qqf, qqg, qqh, qqi, qqj, qqk, qql, qqm, qqn, qqo, qqp, qqq, qqr, qqs, qqt, qqu, qqv, qqw, qqx, qqy, a3]
         refine ⟨_, ?_, og⟩
         simp_all [inR] <;> omega)
end
end Go.Proofs.Ytgfclcpnefinoaa.A
namespace Go.Proofs.Ytgfclcpnefinoaa.A
open Go
set_option linter.unusedSimpArgs false
set_option linter.unusedVariables false
section
variable {F : Nat → Option RF} {Z : CallF} {h : Heap} {cs : List Cell} {s : Store} {fp : List Nat} {x : Cell}
theorem l13Shard_q (k : KS F) {t : Shard} {cs : List Cell} {fp : List Nat} (v : Shard.RI h cs t fp) (ok : t.Ok) :
    call F Z 204 [.agg cs] ⟨h.next, h.next, h.get⟩ = some (.c (.bool t.good), ⟨h.next, h.next, h.get⟩) := l13Shard_run (Z := Z) k.s01 k.s10 k.s13 (Shard.okI.up v h.next) ok
set_option maxHeartbeats 4000000 in
theorem sStoreOk_turn (k : KS F) (w : SlR 16 Shard.RI h x s.shards fp) (ok : ∀ a, a ∈ s.shards → a.Ok) (i : Nat) (hi : i < s.shards.length) :
    Turn (loop F Z [1, 3] r156L0 ⟨[(3, .c (.int .i64 (i : Nat)))], [(1, 1, 0)], [(1, [.int .i64 s.group, .int .i64 s.seen, x])], h⟩)
      (loop F Z [1, 3] r156L0 ⟨[(3, .c (.int .i64 ((i + 1 : Nat) : Int)))], [(1, 1, 0)], [(1, [.int .i64 s.group, .int .i64 s.seen, x])], h⟩)
      (s.fits i) (fun s' => lk s'.env 2 = some (.c (.bool false)) ∧ s'.hp = h) := by
  have hle := w.le2
  have hlt : (i : Int) < s.shards.length := by omega
  have hws := wrapS i (by omega)
  have hxi := w.idx hi
  have hwl := w.len
  obtain ⟨r, f, hld, hR, _⟩ := w.one hi
  rw [← Shard.at_get hi] at hR
  have aok := ok _ (List.getElem_mem hi)
  rw [← Shard.at_get hi] at aok
  have hc := l13Shard_q (Z := Z) k hR aok
  have hpre : 0 < i → IntKind.i64.wrap ((i : Int) - 1) = ((i - 1 : Nat) : Int) := fun hp => by rw [wrapI _ (by omega) (by omega)]; omega
  have hpi : 0 < i → idxR 16 (some x) (some ((i - 1 : Nat) : Int)) = some (.ptr x.sid (i - 1) 0) := fun hp => w.idx (by omega)
  have hpl : 0 < i → ∃ r', (∀ j n, loadP h x.sid (i - 1) j n = cut? r' j n) ∧ ∃ f', Shard.RI h r' (Shard.at_ s.shards (i - 1)) f' := fun hp => by
    obtain ⟨r', f', h1, h2, _⟩ := w.one (show i - 1 < s.shards.length by omega)
    rw [← Shard.at_get] at h2
    exact ⟨r', h1, f', h2⟩
  have hfit : s.fits i = ((Shard.at_ s.shards i).good && (decide ((Shard.at_ s.shards i).epoch ≤ s.seen) && (i == 0 || decide ((Shard.at_ s.shards (i - 1)).hi < (Shard.at_ s.shards i).lo)))) := rfl
  obtain ⟨x1, p1, x2, p2, rfl, _⟩ := hR
  clear w ok aok
  generalize s.fits i = fa at *
  generalize (Shard.at_ s.shards i).good = gd at *
  generalize Shard.at_ s.shards (i - 1) = pa at *
  generalize Shard.at_ s.shards i = a at *
  rw [loop_run]
  conv in (codeF _ _ r156L0 _) => unfold r156L0
  simp only [run0, run1, run2, run3, run4, noSlot, ownS, ownK, memN, RO.dst, lk, drop, forget, number, Nat.reduceBEq, cut?, splice?, builds, Nat.reduceAdd, Nat.reduceLeDiff, ↓reduceIte, reduceCtorEq, qqa, qqb, qqc, qqd, qqe, qqf, qqg, qqh, qqi, qqj, qqk, qql, qqm, qqn, qqo, qqp, qqq, qqr, qqs, qqt, qqu, qqv, qqw, qqx, qqy, hwl, hlt, hxi, hld]
  cases gd with
  | false =>
    simp only [run0, run1, run2, run3, run4, noSlot, ownS, ownK, memN, RO.dst, lk, drop, forget, number, Nat.reduceBEq, cut?, splice?, builds, Nat.reduceAdd, Nat.reduceLeDiff, ↓reduceIte, reduceCtorEq, qqa, qqb, qqc, qqd, qqe, qqf, qqg, qqh, qqi, qqj, qqk, qql, qqm, qqn, qqo, qqp, qqq, qqr, qqs, qqt, qqu, qqv, qqw, qqx, qqy, hc]
    exact .inr ⟨by simp_all, _, rfl, rfl, rfl⟩
  | true =>
    by_cases hp : 0 < i
    · have g1 : (i : Int) > 0 := by omega
      have hi0 : (i == 0) = false := by simp; omega
      have q1 := hpre hp
      have q2 := hpi hp
      obtain ⟨r', q3, f', y1, y2, y3, y4, rfl, _⟩ := hpl hp
      clear hxi hpre hpi hpl hld
      simp only [run0, run1, run2, run3, run4, noSlot, ownS, ownK, memN, RO.dst, lk, drop, forget, number, Nat.reduceBEq, cut?, splice?, builds, Nat.reduceAdd, Nat.reduceLeDiff, ↓reduceIte, reduceCtorEq, qqa, qqb, qqc, qqd, qqe, qqf, qqg, qqh, qqi, qqj, qqk, qql, qqm, qqn, qqo, qqp, qqq, qqr, qqs, qqt, qqu, qqv, qqw, qqx, qqy, hws, g1, q1, q2, q3, hc]
      (repeat' ((first | (rw [gF_if]; split) | (rw [condC_if]; split) | (rw [pickR_if]; split)) <;> (rename_i hh; (try simp only [Bool.not_eq_true, decide_eq_true_eq] at hh); simp only [hh, run0, run1, run2, run3, run4, noSlot, ownS, ownK, memN, RO.dst, lk, drop, forget, number, Nat.reduceBEq, cut?, splice?, builds, Nat.reduceAdd, Nat.reduceLeDiff, ↓reduceIte, reduceCtorEq, qqa, qqb, qqc, qqd, qqe, qqf, qqg, qqh, qqi, qqj, qqk, qql, qqm, qqn, qqo, qqp, qqq, qqr, qqs, qqt, qqu, qqv, qqw, qqx, qqy, hws, g1, q1, q2, q3, hc])))
      all_goals clear q2 q3 hc
      all_goals first
        | exact .inl ⟨by simp_all <;> omega, rfl⟩
        | exact .inr ⟨by simp_all <;> omega, _, rfl, rfl, rfl⟩
    · have g1 : ¬ (i : Int) > 0 := by omega
      have hi0 : (i == 0) = true := by simp; omega
      clear hxi hpre hpi hpl hld
      simp only [run0, run1, run2, run3, run4, noSlot, ownS, ownK, memN, RO.dst, lk, drop, forget, number, Nat.reduceBEq, cut?, splice?, builds, Nat.reduceAdd, Nat.reduceLeDiff, ↓reduceIte, reduceCtorEq, qqa, qqb, qqc, qqd, qqe, qqf, qqg, qqh, qqi, qqj, qqk, qql, qqm, qqn, qqo, qqp, qqq, qqr, qqs, qqt, qqu, qqv, qqw, qqx, qqy, hws, g1, hc]
      (repeat' ((first | (rw [gF_if]; split) | (rw [condC_if]; split) | (rw [pickR_if]; split)) <;> (rename_i hh; (try simp only [Bool.not_eq_true, decide_eq_true_eq] at hh); simp only [hh, run0, run1, run2, run3, run4, noSlot, ownS, ownK, memN, RO.dst, lk, drop, forget, number, Nat.reduceBEq, cut?, splice?, builds, Nat.reduceAdd, Nat.reduceLeDiff, ↓reduceIte, reduceCtorEq, qqa, qqb, qqc, qqd, qqe, qqf, qqg, qqh, qqi, qqj, qqk, qql, qqm, qqn, qqo, qqp, qqq, qqr, qqs, qqt, qqu, qqv, qqw, qqx, qqy, hws, g1, hc])))
      all_goals clear hc
      all_goals first
        | exact .inl ⟨by simp_all <;> omega, rfl⟩
        | exact .inr ⟨by simp_all <;> omega, _, rfl, rfl, rfl⟩
set_option maxHeartbeats 4000000 in
theorem sStoreOk_run (k : KS F) (v : Store.RI h cs s fp) (ok : s.Ok) : call F Z 156 [.agg cs] h = some (.c (.bool s.good), h) := by
  obtain ⟨x, p, rfl, rfl, w⟩ := v
  have key := loop_allN (F := F) (Z := Z) (live := [1, 3]) (b := r156L0) s.shards.length (fun i => ⟨[(3, .c (.int .i64 (i : Nat)))], [(1, 1, 0)], [(1, [.int .i64 s.group, .int .i64 s.seen, x])], h⟩) s.fits (fun s' => lk s'.env 2 = some (.c (.bool false)) ∧ s'.hp = h)
    fun i hi => sStoreOk_turn k w ok.shards i hi
  have l1 := w.len
  have n1 : ¬ (s.shards.length : Int) < s.shards.length := by omega
  clear w ok
  simp only [show ((0 : Nat) : Int) = 0 from rfl] at key
  have hg := fun n lo hi => l01In_run (Z := Z) k.s01 n lo hi h
  have hgd : s.good = (inR s.group 0 99 && (inR s.seen 0 1000000 && (decide ((s.shards.length : Int) ≤ 8) && (List.range s.shards.length).all s.fits))) := rfl
  generalize s.good = sg at *
  generalize (List.range s.shards.length).all s.fits = al at *
  rw [call_run F Z (k.s13.lk (g := 156) rfl) _ _ rfl]
  simp only [run0, run1, run2, run3, run4, noSlot, ownS, ownK, memN, RO.dst, lk, drop, forget, number, Nat.reduceBEq, cut?, splice?, builds, Nat.reduceAdd, Nat.reduceLeDiff, ↓reduceIte, reduceCtorEq, qqa, qqb, qqc, qqd, qqe, qqf, qqg, qqh, qqi, qqj, qqk, qql, qqm, qqn, qqo, qqp, qqq, qqr, qqs, qqt, qqu, qqv, qqw, qqx, qqy, hg, l1]
  clear k
  (repeat' ((first | (rw [gF_if]; split) | (rw [condC_if]; split) | (rw [pickR_if]; split)) <;> (rename_i hh; (try simp only [Bool.not_eq_true, decide_eq_true_eq] at hh); simp only [hh, run0, run1, run2, run3, run4, noSlot, ownS, ownK, memN, RO.dst, lk, drop, forget, number, Nat.reduceBEq, cut?, splice?, builds, Nat.reduceAdd, Nat.reduceLeDiff, ↓reduceIte, reduceCtorEq, qqa, qqb, qqc, qqd, qqe, qqf, qqg, qqh, qqi, qqj, qqk, qql, qqm, qqn, qqo, qqp, qqq, qqr, qqs, qqt, qqu, qqv, qqw, qqx, qqy, hg, l1])))
  all_goals clear hg
  all_goals first
    | (simp_all [inR] <;> omega)
    | (rcases key with ⟨a1, a2⟩ | ⟨a1, s', a2, a3, a4⟩
       · rw [a2, loop_run]
         conv in (codeF _ _ r156L0 _) => unfold r156L0
         simp only [run0, run1, run2, run3, run4, noSlot, ownS, ownK, memN, RO.dst, lk, drop, forget, number, Nat.reduceBEq, cut?, splice?, builds, Nat.reduceAdd, Nat.reduceLeDiff, ↓reduceIte, reduceCtorEq, qqa, qqb, qqc, qqd, qqe, qqf, qqg, qqh, qqi, qqj, qqk, qql, qqm, qqn, qqo, qqp, qqq, qqr, qqs, qqt, qqu, qqv, qqw, qqx, qqy, l1, n1]
         simp_all [inR] <;> omega
       · rw [a2]
         simp only [run0, run1, run2, run3, run4, noSlot, ownS, ownK, memN, RO.dst, lk, drop, forget, number, Nat.reduceBEq, cut?, splice?, builds, Nat.reduceAdd, Nat.reduceLeDiff, ↓reduceIte, reduceCtorEq, qqa, qqb, qqc, qqd, qqe, qqf, qqg, qqh, qqi, qqj, qqk, qql, qqm, qqn, qqo, qqp, qqq, qqr, qqs, qqt, qqu, qqv, qqw, qqx, qqy, a3, a4]
         simp_all [inR] <;> omega)
variable {c : Heap}
end
end Go.Proofs.Ytgfclcpnefinoaa.A
namespace Go.Proofs.Ytgfclcpnefinoaa.A
open Go
set_option linter.unusedSimpArgs false
set_option linter.unusedVariables false
theorem push_ne {h : Heap} (r : List (List Cell)) {id : Nat} (hid : id ≠ h.next) : (h.push r).get id = h.get id := by simp only [Heap.push]; rw [if_neg hid]
theorem kill_ne {h : Heap} {k id : Nat} (hid : id ≠ k) : (h.kill k).get id = h.get id := by simp only [Heap.kill]; rw [if_neg hid]
theorem put_ne {h : Heap} {k id : Nat} (r : List (List Cell)) (hid : id ≠ k) : (h.put k r).get id = h.get id := by simp only [Heap.put]; rw [if_neg hid]
theorem kill_next (h : Heap) (k : Nat) : (h.kill k).next = h.next := rfl
structure AccM {α : Type} (R : Rel α) (tag : Nat) (h0 h : Heap) (x : Cell) (xs : List α) (fp : List Nat) : Prop where
  on : On h0 h
  sh : SlR tag R h x xs fp
  fr : Fre h0 fp
section
variable {α : Type} {R : Rel α} {tag : Nat} {h0 h g : Heap} {x : Cell} {xs : List α} {fp fq : List Nat}
theorem AccM.nil (R : Rel α) (tag : Nat) (h : Heap) : AccM R tag h h .nil [] [] := ⟨On.refl h, SlR.nil _ _ _, Fre.nil h⟩
theorem AccM.none (R : Rel α) (tag : Nat) (o : On h0 h) : AccM R tag h0 h .nil [] [] := ⟨o, SlR.nil _ _ _, Fre.nil h0⟩
theorem AccM.lit0 (R : Rel α) (tag : Nat) (o : On h0 h) : AccM R tag h0 (h.push []) (.sl tag h.next 0 0) [] [h.next] :=
  ⟨o.trans (On.push h []), ⟨by simp, .inr ⟨h.next, [], [], rfl, push_get _ _, by rw [push_next]; omega, rfl, trivial⟩⟩, Fre.at o.ext.1⟩
theorem AccM.go (a : AccM R tag h0 h x xs fp) (ok : RelOk R) (o : On h g) : AccM R tag h0 g x xs fp := ⟨a.on.trans o, a.sh.on ok o, a.fr⟩
theorem Fre.gt (f : Fre h0 fp) : ∀ id, id < h0.next → id ∉ fp := fun id h1 h2 => by have := f.lo id h2; omega
theorem flat_snoc {fps : List (List Nat)} {fq : List Nat} : (fps ++ [fq]).flatten = fps.flatten ++ fq := by simp
theorem AccM.one (ok : RelOk R) (a : AccM R tag h0 h x xs fp) (hf : h0.floor ≤ h0.next) {bytes : Nat} (hb : (xs.length + 1) * bytes ≤ 140737488355328) (hl : xs.length + 1 ≤ 140737488355328)
    (o : On h g) {cs : List Cell} {t : α} (v : R g cs t fq) (f : Fre h0 fq) (d : ∀ id, id ∈ fq → id ∉ fp) :
    ∃ y' g' fp', appF (g.push [cs]) tag bytes x (.sl tag g.next 0 1) = some (y', g') ∧ AccM R tag h0 g' y' (xs ++ [t]) fp' ∧ h.next ≤ g'.next ∧ (∀ id, id ∈ fp' → id ∈ fp ∨ id ∈ fq ∨ g.next ≤ id) ∧ (∀ id, id < g.next → id ∉ fp → g'.get id = g.get id) := by
  have on' := a.on.trans o
  have hlt : ∀ id, id ∈ fq → id < g.next := ok.lt v
  have hp1 : ∀ id, id < g.next → (g.push [cs]).get id = g.get id := fun id hid => by simp only [Heap.push]; rw [if_neg (by omega)]
  have hn := o.ext.1
  rcases a.sh with ⟨_, ⟨rfl, rfl, rfl⟩ | ⟨id, rows, fps, rfl, q1, q2, rfl, q3⟩⟩
  · refine ⟨.sl tag (g.next + 1) 0 1, (g.push [cs]).push [cs], (g.next + 1) :: ([fq] : List (List Nat)).flatten, ?_, ⟨on'.trans ((On.push _ _).trans (On.push _ _)), ⟨by simp [maxLen], .inr ⟨g.next + 1, [cs], [fq], rfl, ?_, ?_, rfl, ?_⟩⟩, ⟨?_, ?_⟩⟩, ?_, ?_, ?_⟩
    · simp only [List.length_nil, Nat.zero_add] at hb
      simp only [appF, isTag, beq_self_eq_true, ↓reduceIte, rowsOf, push_get, Option.bind_some, List.length_singleton, Nat.zero_add, Nat.le_refl, List.drop_zero, List.take_one, List.head?_cons, Option.toList_some]
      rw [if_neg (by omega), if_pos (by omega)]; rfl
    · exact push_get _ _
    · simp only [push_next]; omega
    · refine ⟨ok.mv v (by simp only [push_next]; omega) fun id hid => ?_, trivial⟩
      have := hlt id hid
      rw [push_ne _ (by rw [push_next]; omega), push_ne _ (by omega)]
    · intro id hid
      simp only [List.flatten_cons, List.flatten_nil, List.append_nil, List.mem_cons] at hid
      rcases hid with rfl | hid
      · have := on'.ext.1; omega
      · exact f.lo id hid
    · simp only [List.flatten_cons, List.flatten_nil, List.append_nil, List.nodup_cons]
      exact ⟨fun hc => by have := hlt _ hc; omega, f.nd⟩
    · simp only [push_next]; omega
    · intro id hid
      simp only [List.flatten_cons, List.flatten_nil, List.append_nil, List.mem_cons] at hid
      rcases hid with rfl | hid
      · exact .inr (.inr (by omega))
      · exact .inr (.inl hid)
    · intro id h1 _
      rw [push_ne _ (by rw [push_next]; omega), push_ne _ (by omega)]
  · have hlo : h0.next ≤ id := a.fr.lo id (by simp)
    have hnd := List.nodup_cons.1 a.fr.nd
    have hrl := q3.len
    have hg : (g.push [cs]).get id = some rows := by rw [hp1 id (by omega), o.ext.2 id q2, q1]
    have hfl : g.floor ≤ id := by rw [on'.fl]; omega
    have hin : ∀ j, j ∈ fps.flatten → j < h.next := q3.lt ok
    have hgt : ∀ j, j < g.next → j ≠ id → (((g.push [cs]).kill id).push (rows ++ [cs])).get j = g.get j := fun j h1 h2 => by
      rw [push_ne _ (by rw [kill_next, push_next]; omega), kill_ne h2, push_ne _ (by omega)]
    refine ⟨.sl tag (g.next + 1) 0 (xs.length + 1), ((g.push [cs]).kill id).push (rows ++ [cs]), (g.next + 1) :: (fps ++ [fq]).flatten, ?_, ⟨⟨⟨?_, ?_⟩, ?_⟩, ⟨by simp [maxLen]; omega, .inr ⟨g.next + 1, rows ++ [cs], fps ++ [fq], by simp, ?_, ?_, rfl, ?_⟩⟩, ⟨?_, ?_⟩⟩, ?_, ?_, ?_⟩
    · simp only [appF, isTag, beq_self_eq_true, ↓reduceIte, rowsOf, push_get, Option.bind_some, List.length_singleton, Nat.zero_add, Nat.le_refl, List.drop_zero, List.take_one, List.head?_cons, Option.toList_some, hg]
      simp only [hrl, push_floor, hfl, hb, and_self, ↓reduceIte]; rfl
    · have := on'.ext.1
      simp only [Heap.push, Heap.kill]; omega
    · intro j hj
      have := on'.ext.1
      rw [hgt j (by omega) (by omega)]
      exact on'.ext.2 j hj
    · exact on'.fl
    · simp [Heap.push, Heap.kill]
    · simp only [Heap.push, Heap.kill]; omega
    · refine AllR.snoc (q3.mv (h' := ((g.push [cs]).kill id).push (rows ++ [cs])) ok (by simp only [Heap.push, Heap.kill]; omega) fun j hj => ?_) (ok.mv v (by simp only [Heap.push, Heap.kill]; omega) fun j hj => ?_)
      · have h1 := hin j hj
        rw [hgt j (by omega) (fun e => hnd.1 (e ▸ hj))]
        exact o.ext.2 j h1
      · exact hgt j (hlt j hj) fun e => d j hj (by rw [e]; simp)
    · intro j hj
      rw [flat_snoc] at hj
      rcases List.mem_cons.1 hj with rfl | hj
      · have := on'.ext.1; omega
      · rcases List.mem_append.1 hj with hj | hj
        · exact a.fr.lo j (by simp [hj])
        · exact f.lo j hj
    · rw [flat_snoc, List.nodup_cons]
      refine ⟨fun hc => ?_, List.nodup_append.2 ⟨hnd.2, f.nd, fun p hp q hq e => d q hq (by rw [← e]; simp [hp])⟩⟩
      rcases List.mem_append.1 hc with hc | hc
      · have := hin _ hc; omega
      · have := hlt _ hc; omega
    · simp only [Heap.push, Heap.kill]; omega
    · intro j hj
      rw [flat_snoc] at hj
      rcases List.mem_cons.1 hj with rfl | hj
      · exact .inr (.inr (by omega))
      · rcases List.mem_append.1 hj with hj | hj
        · exact .inl (by simp [hj])
        · exact .inr (.inl hj)
    · intro j h1 h2
      exact hgt j h1 fun e => h2 (by rw [e]; simp)
end
end Go.Proofs.Ytgfclcpnefinoaa.A
namespace Go.Proofs.Ytgfclcpnefinoaa.A
open Go
set_option linter.unusedSimpArgs false
set_option linter.unusedVariables false
section
variable {α : Type} {R : Rel α} {tag : Nat} {h0 h g : Heap} {x : Cell} {xs : List α} {fp fq : List Nat}
theorem AllR.set {r : List Cell} {t : α} (w1 : R h r t fq) : ∀ {rows : List (List Cell)} {xs : List α} {fps : List (List Nat)}, AllR R h rows xs fps → ∀ (i : Nat), AllR R h (rows.set i r) (xs.set i t) (fps.set i fq)
  | [], [], [], _, _ => trivial
  | _ :: _, _ :: _, _ :: _, ⟨_, w⟩, 0 => ⟨w1, w⟩
  | _ :: _, _ :: _, _ :: _, ⟨w0, w⟩, i + 1 => ⟨w0, AllR.set w1 w i⟩
  | [], [], _ :: _, w, _ => w.elim
  | [], _ :: _, _, w, _ => w.elim
  | _ :: _, [], _, w, _ => w.elim
  | _ :: _, _ :: _, [], w, _ => w.elim
theorem AllR.turn (ok : RelOk R) {h' : Heap} (hn : h.next ≤ h'.next) {r' : List Cell} {t' : α} : ∀ {rows : List (List Cell)} {xs : List α} {fps : List (List Nat)}, AllR R h rows xs fps → ∀ (i : Nat) (f : List Nat), fps[i]? = some f → fps.flatten.Nodup →
    (∀ id, id ∈ fps.flatten → id ∉ f → h'.get id = h.get id) → R h' r' t' f → AllR R h' (rows.set i r') (xs.set i t') fps
  | [], [], [], _, i, f, e, _, _, _ => by simp at e
  | r :: rs, a :: bs, g :: gs, ⟨w0, w⟩, 0, f, e, nd, hg, v => by
    simp only [List.getElem?_cons_zero, Option.some.injEq] at e
    subst e
    rw [List.flatten_cons] at nd
    obtain ⟨n1, n2, n3⟩ := List.nodup_append.1 nd
    exact ⟨v, w.mv ok hn fun id hid => hg id (by rw [List.flatten_cons, List.mem_append]; exact .inr hid) fun hf => n3 id hf id hid rfl⟩
  | r :: rs, a :: bs, g :: gs, ⟨w0, w⟩, i + 1, f, e, nd, hg, v => by
    simp only [List.getElem?_cons_succ] at e
    rw [List.flatten_cons] at nd
    obtain ⟨n1, n2, n3⟩ := List.nodup_append.1 nd
    exact ⟨ok.mv w0 hn fun id hid => hg id (by rw [List.flatten_cons, List.mem_append]; exact .inl hid) fun hf => n3 id hid id (List.mem_flatten.2 ⟨f, List.mem_of_getElem? e, hf⟩) rfl,
      AllR.turn ok hn w i f e n2 (fun id hid hf => hg id (by rw [List.flatten_cons, List.mem_append]; exact .inr hid) hf) v⟩
  | [], [], _ :: _, w, _, _, _, _, _, _ => w.elim
  | [], _ :: _, _, w, _, _, _, _, _, _ => w.elim
  | _ :: _, [], _, w, _, _, _, _, _, _ => w.elim
  | _ :: _, _ :: _, [], w, _, _, _, _, _, _ => w.elim
theorem flat_at_nodup {f : List Nat} : ∀ (fps : List (List Nat)) (i : Nat), fps[i]? = some f → fps.flatten.Nodup → f.Nodup
  | [], i, h, _ => by simp at h
  | g :: r, i, h, nd => by
    rw [List.flatten_cons] at nd
    obtain ⟨n1, n2, _⟩ := List.nodup_append.1 nd
    cases i with
    | zero => simp only [List.getElem?_cons_zero, Option.some.injEq] at h; exact h ▸ n1
    | succ i => exact flat_at_nodup r i (by simpa using h) n2
theorem SlR.turn (ok : RelOk R) (w : SlR tag R h x xs fp) (nd : fp.Nodup) {i : Nat} (hi : i < xs.length) :
    ∃ r f, ∃ rows : List (List Cell), R h r xs[i] f ∧ (∀ id, id ∈ f → id ∈ fp) ∧ f.Nodup ∧ x.sid ∈ fp ∧ x.sid ∉ f ∧ x.sid < h.next ∧ h.get x.sid = some rows ∧ rows[i]? = some r ∧ i < rows.length ∧
      ∀ h' r' t', h.next ≤ h'.next → (∀ id, id ∈ fp → id ≠ x.sid → id ∉ f → h'.get id = h.get id) → h'.get x.sid = some (rows.set i r') → R h' r' t' f → SlR tag R h' x (xs.set i t') fp := by
  rcases w with ⟨hl, ⟨rfl, rfl, rfl⟩ | ⟨id, rows, fps, rfl, q1, q2, rfl, q3⟩⟩
  · exact absurd hi (Nat.not_lt_zero _)
  obtain ⟨r, f, e1, e2, v⟩ := q3.at i hi
  have hn := List.nodup_cons.1 nd
  have hin : ∀ j, j ∈ f → j ∈ fps.flatten := fun j hj => List.mem_flatten.2 ⟨f, List.mem_of_getElem? e2, hj⟩
  refine ⟨r, f, rows, v, fun j hj => List.mem_cons_of_mem _ (hin j hj), flat_at_nodup fps i e2 hn.2, by simp [Cell.sid], fun hc => hn.1 (hin _ hc), q2, q1, e1, by rw [q3.len]; exact hi, fun h' r' t' hn' hg hg' v' => ?_⟩
  refine ⟨by simpa using hl, .inr ⟨id, rows.set i r', fps, by simp, hg', Nat.lt_of_lt_of_le q2 hn', rfl, ?_⟩⟩
  exact q3.turn ok hn' i f e2 hn.2 (fun j hj hf => hg j (List.mem_cons_of_mem _ hj) (fun e => hn.1 (by simp only [Cell.sid] at e; exact e ▸ hj)) hf) v'
theorem loadP_row {h : Heap} {id i : Nat} {rows : List (List Cell)} {r : List Cell} (hg : h.get id = some rows) (hi : rows[i]? = some r) (j n : Nat) : loadP h id i j n = cut? r j n := by simp [loadP, rowOf, hg, hi]
theorem loadP_put {h : Heap} {id i : Nat} {rows : List (List Cell)} (hi : i < rows.length) (r : List Cell) (j n : Nat) : loadP (h.put id (rows.set i r)) id i j n = cut? r j n := loadP_row (rows := rows.set i r) (by simp [Heap.put]) (List.getElem?_set_self hi) j n
theorem put_row {h : Heap} {id i : Nat} {rows : List (List Cell)} {r : List Cell} (hg : h.get id = some rows) (hi : rows[i]? = some r) : h.put id (rows.set i r) = h := by
  have : rows.set i r = rows := by
    apply List.ext_getElem?
    intro j
    by_cases e : i = j
    · subst e
      have hlt : i < rows.length := by
        rcases Nat.lt_or_ge i rows.length with hlt | hge
        · exact hlt
        · rw [List.getElem?_eq_none hge] at hi; cases hi
      rw [List.getElem?_set_self hlt, hi]
    · rw [List.getElem?_set_ne e]
  rw [this]; exact put_same hg
end
end Go.Proofs.Ytgfclcpnefinoaa.A
namespace Go.Proofs.Ytgfclcpnefinoaa.A
open Go
set_option linter.unusedSimpArgs false
set_option linter.unusedVariables false
section
variable {F : Nat → Option RF} {Z : CallF} {live : List Nat} {b : RC}
end
section
variable {α : Type} {R : Rel α} {tag : Nat} {h0 h g : Heap} {x : Cell} {xs ys : List α} {fp fq : List Nat}
theorem AllR.app : ∀ {r1 r2 : List (List Cell)} {xs ys : List α} {f1 f2 : List (List Nat)}, AllR R h r1 xs f1 → AllR R h r2 ys f2 → AllR R h (r1 ++ r2) (xs ++ ys) (f1 ++ f2)
  | [], _, [], _, [], _, _, w => w
  | _ :: _, _, _ :: _, _, _ :: _, _, ⟨w1, w⟩, u => ⟨w1, AllR.app w u⟩
  | [], _, [], _, _ :: _, _, w, _ => w.elim
  | [], _, _ :: _, _, _, _, w, _ => w.elim
  | _ :: _, _, [], _, _, _, w, _ => w.elim
  | _ :: _, _, _ :: _, _, [], _, w, _ => w.elim
end
end Go.Proofs.Ytgfclcpnefinoaa.A
namespace Go.Proofs.Ytgfclcpnefinoaa.A
open Go
set_option linter.unusedSimpArgs false
set_option linter.unusedVariables false
section
variable {α : Type} {R : Rel α} {tag : Nat} {h0 h g : Heap} {x : Cell} {xs : List α} {fp fq : List Nat}
theorem On.turned (o : On h0 h) (m : Mk h g fp) (f : Fre h0 fp) : On h0 g :=
  ⟨⟨by rw [m.next]; exact o.ext.1, fun id hid => by rw [m.get id (f.gt id hid)]; exact o.ext.2 id hid⟩, m.fl.trans o.fl⟩
theorem Fre.own (f : Fre h0 fp) (o : On h0 h) (hf : h0.floor ≤ h0.next) : ∀ id, id ∈ fp → h.floor ≤ id := fun id hid => by
  rw [o.fl]; exact Nat.le_trans hf (f.lo id hid)
theorem Mk.then {a b c : Heap} (m : Mk a b fp) (n : Mk b c fp) : Mk a c fp := ⟨n.next.trans m.next, n.fl.trans m.fl, fun id hid => (n.get id hid).trans (m.get id hid)⟩
theorem SlR.putRow (ok : RelOk R) (w : SlR tag R h x xs fp) (nd : fp.Nodup) (hfl : ∀ id, id ∈ fp → h.floor ≤ id) {i : Nat} (hi : i < xs.length) :
    ∃ r f, ∃ rows : List (List Cell), R h r xs[i] f ∧ x.sid ∈ fp ∧ (∀ j n, loadP h x.sid i j n = cut? r j n) ∧ h.put x.sid (rows.set i r) = h ∧
      (∀ r1 j new, storeP (h.put x.sid (rows.set i r1)) x.sid i j new = putM h x.sid rows i (splice? r1 j new)) ∧ (∀ r1 j n, loadP (h.put x.sid (rows.set i r1)) x.sid i j n = cut? r1 j n) ∧
      ∀ r' t', R h r' t' f → SlR tag R (h.put x.sid (rows.set i r')) x (xs.set i t') fp ∧ Mk h (h.put x.sid (rows.set i r')) fp := by
  obtain ⟨r, f, rows, hR, hin, nf, hs, hns, hsl, hg, hr, hir, fin⟩ := w.turn ok nd hi
  refine ⟨r, f, rows, hR, hs, loadP_row hg hr, put_row hg hr, fun r1 j new => storeP_put (hfl _ hs) hir r1 new j, fun r1 j n => loadP_put hir r1 j n, fun r' t' v => ⟨?_, rfl, rfl, fun id hid => put_ne _ fun e => hid (e ▸ hs)⟩⟩
  exact fin _ r' t' (Nat.le_refl _) (fun id _ h2 _ => put_ne _ h2) (by simp [Heap.put]) (ok.mv v (Nat.le_refl _) fun id hid => put_ne _ fun e => hns (e ▸ hid))
end
end Go.Proofs.Ytgfclcpnefinoaa.A
namespace Go.Proofs.Ytgfclcpnefinoaa.A
open Go
set_option linter.unusedSimpArgs false
set_option linter.unusedVariables false
theorem findI_at {α : Type} {p : α → Bool} {xs : List α} (h : 0 ≤ findI p xs) : ∃ i : Nat, findI p xs = (i : Int) ∧ ∃ hi : i < xs.length, p xs[i] = true := by
  unfold findI at h ⊢
  split at h
  · rename_i i hi
    rw [List.findIdx?_eq_some_iff_getElem] at hi
    obtain ⟨h1, h2, _⟩ := hi
    exact ⟨i, rfl, h1, h2⟩
  · omega
theorem findI_no {α : Type} {p : α → Bool} {xs : List α} (h : findI p xs < 0) : findI p xs = -1 := by
  unfold findI at h ⊢
  split at h
  · omega
  · rfl
theorem mix_set {α : Type} (f : α → α) (xs : List α) {i : Nat} (hi : i < xs.length) : ((xs.take i).map f ++ xs.drop i).set i (f xs[i]) = (xs.take (i + 1)).map f ++ xs.drop (i + 1) := by
  rw [List.set_append_right _ _ (by simp; omega), show i - ((xs.take i).map f).length = 0 from by simp; omega, List.drop_eq_getElem_cons hi, List.set_cons_zero,
    show xs.take (i + 1) = xs.take i ++ [xs[i]] from by rw [List.take_add_one, List.getElem?_eq_getElem hi]; rfl, List.map_append, List.append_assoc]
  rfl
theorem mix_at {α : Type} (f : α → α) (xs : List α) {i : Nat} (hi : i < xs.length) (h : i < ((xs.take i).map f ++ xs.drop i).length) : ((xs.take i).map f ++ xs.drop i)[i] = xs[i] := by
  rw [List.getElem_append_right (by simp; omega)]
  simp
  congr 1
  omega
theorem set_same {α : Type} (xs : List α) {i : Nat} (hi : i < xs.length) : xs.set i xs[i] = xs := by
  apply List.ext_getElem?
  intro j
  by_cases e : i = j
  · subst e; rw [List.getElem?_set_self hi, List.getElem?_eq_getElem hi]
  · rw [List.getElem?_set_ne e]
section
variable {α : Type} {R : Rel α} {tag : Nat} {h0 h g : Heap} {x y : Cell} {xs ys : List α} {fp fq : List Nat}
theorem SlR.lit1 (ok : RelOk R) {cs : List Cell} {t : α} (v : R h cs t fp) (nd : fp.Nodup) : SlR tag R (h.push [cs]) (.sl tag h.next 0 1) [t] (h.next :: fp) ∧ (h.next :: fp).Nodup :=
  ⟨⟨by simp [maxLen], .inr ⟨h.next, [cs], [fp], rfl, by simp [Heap.push], by simp [Heap.push], by simp, ⟨ok.mv v (by simp [Heap.push]) fun id hid => push_ne _ (by have := ok.lt v id hid; omega), trivial⟩⟩⟩, List.nodup_cons.2 ⟨fun hc => by have := ok.lt v _ hc; omega, nd⟩⟩
end
end Go.Proofs.Ytgfclcpnefinoaa.A
namespace Go.Proofs.Ytgfclcpnefinoaa.A
open Go
set_option linter.unusedSimpArgs false
set_option linter.unusedVariables false
def findAt (xs : List Shard) (lo st : Int) : Int := findI (fun t => (t.lo == lo) && (t.state == st)) xs
section
variable {F : Nat → Option RF} {Z : CallF} {h : Heap} {x : Cell} {xs : List Shard} {fp : List Nat} {cs : List Cell} {s : Store}
theorem indexShard_run (hL : Has F tLibslicesIndexFuncimplShardimplShard) (w : SlR 16 Shard.RI h x xs fp) (f : Nat) (ps : List (Nat × Nat × Nat)) (p : Shard → Bool)
    (hc : ∀ r t q, Shard.RI h r t q → call F Z f (.agg r :: capV ps) h = some (.c (.bool (p t)), h)) : call F Z 248 [.c x, .c (.fn f ps)] h = some (.c (.int .i64 (findI p xs)), h) := by
  have hle := w.le2
  rw [call_run F Z (hL.lk (g := 248) rfl) _ _ rfl]
  simp only [run0, run1, run2, run3, run4, noSlot, ownS, ownK, memN, RO.dst, lk, drop, forget, number, Nat.reduceBEq, cut?, splice?, builds, Nat.reduceAdd, Nat.reduceLeDiff, ↓reduceIte, reduceCtorEq, qqa, qqb, qqc, qqd, qqe, qqf, qqg, qqh, qqi, qqj, qqk, qql, qqm, qqn, qqo, qqp, qqq, qqr, qqs, qqt, qqu, qqv, qqw, qqx, qqy, w.len]
  have key := loop_find (F := F) (Z := Z) (live := [0, 1, 7, 8]) (b := r248L0) xs p (fun i => ⟨[(0, .c x), (1, .c (.fn f ps)), (7, .c (.int .i64 (xs.length : Nat))), (8, .c (.int .i64 (i : Nat)))], [], [], h⟩) (fun i s => lk s.env 4 = some (.c (.int .i64 (i : Nat))) ∧ s.hp = h) fun i hi => by
    have hlt : (i : Int) < xs.length := by omega
    have hws := wrapS i (by omega)
    obtain ⟨r, q, hld, hR, _⟩ := w.one hi
    have hci := hc _ _ _ hR
    obtain ⟨r1, r2, r3⟩ := Shard.lenI hR
    have hxi := w.idx hi
    clear w hR
    rw [loop_run]
    conv in (codeF _ _ r248L0 _) => unfold r248L0
    simp only [run0, run1, run2, run3, run4, noSlot, ownS, ownK, memN, RO.dst, lk, drop, forget, number, Nat.reduceBEq, cut?, splice?, builds, Nat.reduceAdd, Nat.reduceLeDiff, ↓reduceIte, reduceCtorEq, qqa, qqb, qqc, qqd, qqe, qqf, qqg, qqh, qqi, qqj, qqk, qql, qqm, qqn, qqo, qqp, qqq, qqr, qqs, qqt, qqu, qqv, qqw, qqx, qqy, hlt, hxi, hld, r1, r2, r3]
    simp only [hci, run0, run1, run2, run3, run4, noSlot, ownS, ownK, memN, RO.dst, lk, drop, forget, number, Nat.reduceBEq, cut?, splice?, builds, Nat.reduceAdd, Nat.reduceLeDiff, ↓reduceIte, reduceCtorEq, qqa, qqb, qqc, qqd, qqe, qqf, qqg, qqh, qqi, qqj, qqk, qql, qqm, qqn, qqo, qqp, qqq, qqr, qqs, qqt, qqu, qqv, qqw, qqx, qqy]
    (repeat' ((first | (rw [gF_if]; split) | (rw [condC_if]; split) | (rw [pickR_if]; split)) <;> (rename_i hh; (try simp only [Bool.not_eq_true, decide_eq_true_eq] at hh); simp only [hh, run0, run1, run2, run3, run4, noSlot, ownS, ownK, memN, RO.dst, lk, drop, forget, number, Nat.reduceBEq, cut?, splice?, builds, Nat.reduceAdd, Nat.reduceLeDiff, ↓reduceIte, reduceCtorEq, qqa, qqb, qqc, qqd, qqe, qqf, qqg, qqh, qqi, qqj, qqk, qql, qqm, qqn, qqo, qqp, qqq, qqr, qqs, qqt, qqu, qqv, qqw, qqx, qqy, hws]))) <;> first
      | exact .inl ⟨by simp_all, rfl⟩
      | exact .inr ⟨by simp_all, _, rfl, rfl, rfl⟩
  have hlt : ¬ (xs.length : Int) < xs.length := by omega
  simp only [show ((0 : Nat) : Int) = 0 from rfl] at key
  rcases key with ⟨k1, k2⟩ | ⟨i, k1, hi, s, k2, k3, k4⟩
  · rw [k2, loop_run]
    conv in (codeF _ _ r248L0 _) => unfold r248L0
    simp only [run0, run1, run2, run3, run4, noSlot, ownS, ownK, memN, RO.dst, lk, drop, forget, number, Nat.reduceBEq, cut?, splice?, builds, Nat.reduceAdd, Nat.reduceLeDiff, ↓reduceIte, reduceCtorEq, qqa, qqb, qqc, qqd, qqe, qqf, qqg, qqh, qqi, qqj, qqk, qql, qqm, qqn, qqo, qqp, qqq, qqr, qqs, qqt, qqu, qqv, qqw, qqx, qqy, hlt, findI, k1]
  · rw [k2]
    simp only [run0, run1, run2, run3, run4, noSlot, ownS, ownK, memN, RO.dst, lk, drop, forget, number, Nat.reduceBEq, cut?, splice?, builds, Nat.reduceAdd, Nat.reduceLeDiff, ↓reduceIte, reduceCtorEq, qqa, qqb, qqc, qqd, qqe, qqf, qqg, qqh, qqi, qqj, qqk, qql, qqm, qqn, qqo, qqp, qqq, qqr, qqs, qqt, qqu, qqv, qqw, qqx, qqy, k3, k4, findI, k1]
theorem shardAt_run (hI13 : Has F tI13) (hL : Has F tLibslicesIndexFuncimplShardimplShard) (v : Store.RI h cs s fp) (lo st : Int) :
    call F Z 213 [.agg cs, .c (.int .u64 lo), .c (.int .i64 st)] h = some (.c (.int .i64 (findAt s.shards lo st)), (h.push [[.int .u64 lo]]).push [[.int .i64 st]]) := by
  obtain ⟨x, p, rfl, rfl, w⟩ := v
  have w' := (w.on Shard.okI (On.push h [[.int .u64 lo]])).on Shard.okI (On.push _ [[.int .i64 st]])
  have hr := indexShard_run (Z := Z) hL w' 249 [(h.next, 0, 0), (h.next + 1, 0, 0)] (fun t => (t.lo == lo) && (t.state == st)) fun r t q hR => by
    obtain ⟨x1, p1, x2, p2, rfl, _⟩ := hR
    have hl : loadP ((h.push [[.int .u64 lo]]).push [[.int .i64 st]]) h.next 0 0 1 = some [.int .u64 lo] := by
      simp [loadP, rowOf, Heap.push, cut?]
    have hl2 : loadP ((h.push [[.int .u64 lo]]).push [[.int .i64 st]]) (h.next + 1) 0 0 1 = some [.int .i64 st] := by
      simp [loadP, rowOf, Heap.push, cut?]
    simp only [run0, run1, run2, run3, run4, noSlot, ownS, ownK, memN, RO.dst, lk, drop, forget, number, Nat.reduceBEq, cut?, splice?, builds, Nat.reduceAdd, Nat.reduceLeDiff, ↓reduceIte, reduceCtorEq, qqa, qqb, qqc, qqd, qqe, qqf, qqg, qqh, qqi, qqj, qqk, qql, qqm, qqn, qqo, qqp, qqq, qqr, qqs, qqt, qqu, qqv, qqw, qqx, qqy, capV_cons]
    rw [call_run F Z (hI13.lk (g := 249) rfl) _ _ rfl]
    simp only [run0, run1, run2, run3, run4, noSlot, ownS, ownK, memN, RO.dst, lk, drop, forget, number, Nat.reduceBEq, cut?, splice?, builds, Nat.reduceAdd, Nat.reduceLeDiff, ↓reduceIte, reduceCtorEq, qqa, qqb, qqc, qqd, qqe, qqf, qqg, qqh, qqi, qqj, qqk, qql, qqm, qqn, qqo, qqp, qqq, qqr, qqs, qqt, qqu, qqv, qqw, qqx, qqy, hl, hl2]
    (repeat' ((first | (rw [gF_if]; split) | (rw [condC_if]; split) | (rw [pickR_if]; split)) <;> (rename_i hh; (try simp only [Bool.not_eq_true, decide_eq_true_eq] at hh); simp only [hh, run0, run1, run2, run3, run4, noSlot, ownS, ownK, memN, RO.dst, lk, drop, forget, number, Nat.reduceBEq, cut?, splice?, builds, Nat.reduceAdd, Nat.reduceLeDiff, ↓reduceIte, reduceCtorEq, qqa, qqb, qqc, qqd, qqe, qqf, qqg, qqh, qqi, qqj, qqk, qql, qqm, qqn, qqo, qqp, qqq, qqr, qqs, qqt, qqu, qqv, qqw, qqx, qqy, hl, hl2]))) <;> simp_all
  rw [call_run F Z (hI13.lk (g := 213) rfl) _ _ rfl]
  simp only [run0, run1, run2, run3, run4, noSlot, ownS, ownK, memN, RO.dst, lk, drop, forget, number, Nat.reduceBEq, cut?, splice?, builds, Nat.reduceAdd, Nat.reduceLeDiff, ↓reduceIte, reduceCtorEq, qqa, qqb, qqc, qqd, qqe, qqf, qqg, qqh, qqi, qqj, qqk, qql, qqm, qqn, qqo, qqp, qqq, qqr, qqs, qqt, qqu, qqv, qqw, qqx, qqy, push_next, hr, evPtrs]
  rfl
theorem shardAt_on (hI13 : Has F tI13) (hL : Has F tLibslicesIndexFuncimplShardimplShard) (v : Store.RI h cs s fp) (lo st : Int) :
    ∃ h', call F Z 213 [.agg cs, .c (.int .u64 lo), .c (.int .i64 st)] h = some (.c (.int .i64 (findAt s.shards lo st)), h') ∧ On h h' := ⟨_, shardAt_run hI13 hL v lo st, (On.push _ _).trans (On.push _ _)⟩
theorem l13At_run (hS13 : Has F tS13) (v : Store.RI h cs s fp) (lo st : Int) : call F Z 210 [.agg cs, .c (.int .u64 lo), .c (.int .i64 st)] h = some (.c (.int .i64 (findAt s.shards lo st)), h) := by
  obtain ⟨x, p, rfl, rfl, w⟩ := v
  have hle := w.le2
  have hwl := w.len
  rw [call_run F Z (hS13.lk (g := 210) rfl) _ _ rfl]
  simp only [run0, run1, run2, run3, run4, noSlot, ownS, ownK, memN, RO.dst, lk, drop, forget, number, Nat.reduceBEq, cut?, splice?, builds, Nat.reduceAdd, Nat.reduceLeDiff, ↓reduceIte, reduceCtorEq, qqa, qqb, qqc, qqd, qqe, qqf, qqg, qqh, qqi, qqj, qqk, qql, qqm, qqn, qqo, qqp, qqq, qqr, qqs, qqt, qqu, qqv, qqw, qqx, qqy]
  have key := loop_find (F := F) (Z := Z) (live := [1, 2, 3, 7]) (b := r210L0) s.shards (fun t => (t.lo == lo) && (t.state == st)) (fun i => ⟨[(1, .c (.int .u64 lo)), (2, .c (.int .i64 st)), (7, .c (.int .i64 (i : Nat)))], [(3, 3, 0)], [(3, [.int .i64 s.group, .int .i64 s.seen, x])], h⟩) (fun i s => lk s.env 6 = some (.c (.int .i64 (i : Nat))) ∧ s.hp = h) fun i hi => by
    have hlt : (i : Int) < s.shards.length := by omega
    have hws := wrapS i (by omega)
    obtain ⟨r, q, hld, hR, _⟩ := w.one hi
    obtain ⟨x1, p1, x2, p2, rfl, _⟩ := hR
    have hxi := w.idx hi
    clear w
    rw [loop_run]
    conv in (codeF _ _ r210L0 _) => unfold r210L0
    simp only [run0, run1, run2, run3, run4, noSlot, ownS, ownK, memN, RO.dst, lk, drop, forget, number, Nat.reduceBEq, cut?, splice?, builds, Nat.reduceAdd, Nat.reduceLeDiff, ↓reduceIte, reduceCtorEq, qqa, qqb, qqc, qqd, qqe, qqf, qqg, qqh, qqi, qqj, qqk, qql, qqm, qqn, qqo, qqp, qqq, qqr, qqs, qqt, qqu, qqv, qqw, qqx, qqy, hwl, hlt, hxi, hld]
    (repeat' ((first | (rw [gF_if]; split) | (rw [condC_if]; split) | (rw [pickR_if]; split)) <;> (rename_i hh; (try simp only [Bool.not_eq_true, decide_eq_true_eq] at hh); simp only [hh, run0, run1, run2, run3, run4, noSlot, ownS, ownK, memN, RO.dst, lk, drop, forget, number, Nat.reduceBEq, cut?, splice?, builds, Nat.reduceAdd, Nat.reduceLeDiff, ↓reduceIte, reduceCtorEq, qqa, qqb, qqc, qqd, qqe, qqf, qqg, qqh, qqi, qqj, qqk, qql, qqm, qqn, qqo, qqp, qqq, qqr, qqs, qqt, qqu, qqv, qqw, qqx, qqy, hws, hxi, hld]))) <;> first
      | exact .inl ⟨by simp_all, rfl⟩
      | exact .inr ⟨by simp_all, _, rfl, rfl, rfl⟩
  have hlt : ¬ (s.shards.length : Int) < s.shards.length := by omega
  simp only [show ((0 : Nat) : Int) = 0 from rfl] at key
  rcases key with ⟨k1, k2⟩ | ⟨i, k1, hi, s, k2, k3, k4⟩
  · rw [k2, loop_run]
    conv in (codeF _ _ r210L0 _) => unfold r210L0
    simp only [run0, run1, run2, run3, run4, noSlot, ownS, ownK, memN, RO.dst, lk, drop, forget, number, Nat.reduceBEq, cut?, splice?, builds, Nat.reduceAdd, Nat.reduceLeDiff, ↓reduceIte, reduceCtorEq, qqa, qqb, qqc, qqd, qqe, qqf, qqg, qqh, qqi, qqj, qqk, qql, qqm, qqn, qqo, qqp, qqq, qqr, qqs, qqt, qqu, qqv, qqw, qqx, qqy, hwl, hlt, findAt, findI, k1]
  · rw [k2]
    simp only [run0, run1, run2, run3, run4, noSlot, ownS, ownK, memN, RO.dst, lk, drop, forget, number, Nat.reduceBEq, cut?, splice?, builds, Nat.reduceAdd, Nat.reduceLeDiff, ↓reduceIte, reduceCtorEq, qqa, qqb, qqc, qqd, qqe, qqf, qqg, qqh, qqi, qqj, qqk, qql, qqm, qqn, qqo, qqp, qqq, qqr, qqs, qqt, qqu, qqv, qqw, qqx, qqy, k3, k4, findAt, findI, k1]
end
end Go.Proofs.Ytgfclcpnefinoaa.A
namespace Go.Proofs.Ytgfclcpnefinoaa.A
open Go
set_option linter.unusedSimpArgs false
set_option linter.unusedVariables false
theorem flatMap_one {α β : Type} (g : α → β) (xs : List α) : xs.flatMap (fun r => [g r]) = xs.map g := by
  induction xs with
  | nil => rfl
  | cons a r ih => rw [List.flatMap_cons, ih]; rfl
section
variable {F : Nat → Option RF} {Z : CallF} {h : Heap} {x : Cell} {xs : List Account} {fp fq : List Nat}
theorem copyBook_c (hI10 : Has F tI10) (hf : h.floor ≤ h.next) (w : SlR 11 (Fl Account.enc) h x xs fp) (sm : xs.length ≤ 1048576) : ∃ y h' fq, call F Z 260 [.agg [x]] h = some (.agg [y], h') ∧ On h h' ∧ SlR 11 (Fl Account.enc) h' y xs fq ∧ Fre h fq := by
  have a0 := Acc.lit0 (tag := 11) (On.refl h)
  have w' := w.on (Fl.ok _) (On.push h [])
  have ce := a0.cat_eq (bytes := 40) (y := x) (new := xs.map Account.enc) hf w'.isTag w'.rows (by simp; omega)
  have ac := a0.cat (new := xs.map Account.enc) hf (by simp; omega)
  simp only [List.nil_append] at ac
  obtain ⟨o, fq, u, f⟩ := ac.flat
  rw [call_run F Z (hI10.lk (g := 260) rfl) _ _ rfl]
  simp only [run0, run1, run2, run3, run4, noSlot, ownS, ownK, memN, RO.dst, lk, drop, forget, number, Nat.reduceBEq, cut?, splice?, builds, Nat.reduceAdd, Nat.reduceLeDiff, ↓reduceIte, reduceCtorEq, qqa, qqb, qqc, qqd, qqe, qqf, qqg, qqh, qqi, qqj, qqk, qql, qqm, qqn, qqo, qqp, qqq, qqr, qqs, qqt, qqu, qqv, qqw, qqx, qqy, List.replicate_zero, fills, ce]
  exact ⟨_, _, _, rfl, o, u, f⟩
theorem l10Copy_c (hS10 : Has F tS10) (hf : h.floor ≤ h.next) (w : SlR 11 (Fl Account.enc) h x xs fp) (sm : xs.length ≤ 1048576) : ∃ y h' fq, call F Z 259 [.agg [x]] h = some (.agg [y], h') ∧ On h h' ∧ SlR 11 (Fl Account.enc) h' y xs fq ∧ Fre h fq := by
  rw [call_run F Z (hS10.lk (g := 259) rfl) _ _ rfl]
  simp only [run0, run1, run2, run3, run4, noSlot, ownS, ownK, memN, RO.dst, lk, drop, forget, number, Nat.reduceBEq, cut?, splice?, builds, Nat.reduceAdd, Nat.reduceLeDiff, ↓reduceIte, reduceCtorEq, qqa, qqb, qqc, qqd, qqe, qqf, qqg, qqh, qqi, qqj, qqk, qql, qqm, qqn, qqo, qqp, qqq, qqr, qqs, qqt, qqu, qqv, qqw, qqx, qqy]
  obtain ⟨y1, h1, a1, l1⟩ := loop_acc (F := F) (Z := Z) (live := [1, 2, 3, 4]) (b := r259L0) xs (fun r => [r.enc]) 11 h (fun i y g => ⟨[(4, .c (.int .i64 (i : Nat)))], [(1, 1, 0), (2, 2, 0), (3, 3, 0)], [(1, [x]), (2, [.nil]), (3, [y])], g⟩) (fun r => by simp) (fun i hi y g rows a hr => by
    have e1 := a.one_eq hf (bytes := 40) (by omega)
    have a1 := a.one hf (by omega)
    have hlt : (i : Int) < xs.length := by omega
    have wg := w.on (Fl.ok _) a.on
    rw [loop_run]
    conv in (codeF _ _ r259L0 _) => unfold r259L0
    simp only [run0, run1, run2, run3, run4, noSlot, ownS, ownK, memN, RO.dst, lk, drop, forget, number, Nat.reduceBEq, cut?, splice?, builds, Nat.reduceAdd, Nat.reduceLeDiff, ↓reduceIte, reduceCtorEq, qqa, qqb, qqc, qqd, qqe, qqf, qqg, qqh, qqi, qqj, qqk, qql, qqm, qqn, qqo, qqp, qqq, qqr, qqs, qqt, qqu, qqv, qqw, qqx, qqy, w.len, hlt, w.idx hi, wg.load hi, Account.len, Account.tak, wrapS i (by omega), List.replicate_succ, List.replicate_zero, fills, and_self, Nat.zero_lt_one, List.set_cons_zero, e1]
    exact ⟨_, _, a1 _, rfl⟩) (Acc.nil 11 h)
  simp only [show ((0 : Nat) : Int) = 0 from rfl] at l1
  have hlt : ¬ (xs.length : Int) < xs.length := by omega
  rw [l1, loop_run]
  conv in (codeF _ _ r259L0 _) => unfold r259L0
  simp only [run0, run1, run2, run3, run4, noSlot, ownS, ownK, memN, RO.dst, lk, drop, forget, number, Nat.reduceBEq, cut?, splice?, builds, Nat.reduceAdd, Nat.reduceLeDiff, ↓reduceIte, reduceCtorEq, qqa, qqb, qqc, qqd, qqe, qqf, qqg, qqh, qqi, qqj, qqk, qql, qqm, qqn, qqo, qqp, qqq, qqr, qqs, qqt, qqu, qqv, qqw, qqx, qqy, w.len, hlt]
  rw [flatMap_one] at a1
  obtain ⟨o, fq, u, f⟩ := a1.flat
  exact ⟨_, _, _, rfl, o, u, f⟩
end
end Go.Proofs.Ytgfclcpnefinoaa.A
namespace Go.Proofs.Ytgfclcpnefinoaa.A
open Go
set_option linter.unusedSimpArgs false
set_option linter.unusedVariables false
def Shard.cells (t : Shard) (x y : Cell) : List Cell := [.int .u64 t.lo, .int .u64 t.hi, .int .i64 t.state, .int .i64 t.epoch, x, y]
section
variable {F : Nat → Option RF} {Z : CallF} {h : Heap} {x : Cell} {xs : List Shard} {fp fq : List Nat}
theorem SlR.found (w : SlR 16 Shard.RI h x xs fp) (p : Shard → Bool) : findI p xs = -1 ∨ ∃ i : Nat, findI p xs = (i : Int) ∧ i < xs.length ∧ p (Shard.at_ xs i) = true ∧ idxR 16 (some x) (some (i : Int)) = some (.ptr x.sid i 0) ∧
    ∃ y z, ∀ j n, loadP h x.sid i j n = cut? ((Shard.at_ xs i).cells y z) j n := by
  by_cases h0 : 0 ≤ findI p xs
  · obtain ⟨i, e, hi, hp⟩ := findI_at h0
    obtain ⟨r, f, hl, hR, _⟩ := w.one hi
    rw [← Shard.at_get hi] at hR hp
    obtain ⟨x1, p1, x2, p2, rfl, _⟩ := hR
    exact .inr ⟨i, e, hi, hp, w.idx hi, x1, x2, hl⟩
  · exact .inl (findI_no (by omega))
end
end Go.Proofs.Ytgfclcpnefinoaa.A
namespace Go.Proofs.Ytgfclcpnefinoaa.A
open Go
set_option linter.unusedSimpArgs false
set_option linter.unusedVariables false
section
variable {F : Nat → Option RF} {Z : CallF} {h : Heap} {x : Cell} {xs : List Account} {fp fq : List Nat} {cs : List Cell} {t : Shard}
theorem copyShard_c (hI10 : Has F tI10) (hI13 : Has F tI13) (hf : h.floor ≤ h.next) (v : Shard.RI h cs t fp) (sm : t.Small) : ∃ cs' h' fq, call F Z 229 [.agg cs] h = some (.agg cs', h') ∧ On h h' ∧ Shard.RI h' cs' t fq ∧ Fre h fq := by
  obtain ⟨x, p, y, q, rfl, rfl, w, u⟩ := v
  obtain ⟨y1, h1, q1, e1, o1, u1, f1⟩ := copyBook_c (Z := Z) hI10 hf w sm.1
  have sm2 : t.finished.length ≤ 1048576 := sm.2
  have hf1 := o1.le hf
  have a0 := Acc.lit0 (tag := 9) (On.refl h1)
  have w' := (u.on (Fl.ok _) o1).on (Fl.ok _) (On.push h1 [])
  have ce := a0.cat_eq (bytes := 16) (y := y) (new := t.finished.map Fin.enc) hf1 w'.isTag w'.rows (by simp; omega)
  have ac := a0.cat (new := t.finished.map Fin.enc) hf1 (by simp; omega)
  simp only [List.nil_append] at ac
  obtain ⟨o, fq, u2, f⟩ := ac.flat
  rw [call_run F Z (hI13.lk (g := 229) rfl) _ _ rfl]
  simp only [run0, run1, run2, run3, run4, noSlot, ownS, ownK, memN, RO.dst, lk, drop, forget, number, Nat.reduceBEq, cut?, splice?, builds, Nat.reduceAdd, Nat.reduceLeDiff, ↓reduceIte, reduceCtorEq, qqa, qqb, qqc, qqd, qqe, qqf, qqg, qqh, qqi, qqj, qqk, qql, qqm, qqn, qqo, qqp, qqq, qqr, qqs, qqt, qqu, qqv, qqw, qqx, qqy, e1, List.replicate_zero, fills, ce]
  exact ⟨_, _, _, rfl, o1.trans o, ⟨_, _, _, _, rfl, rfl, u1.on (Fl.ok _) o, u2⟩, f1.app (u1.lt (Fl.ok _)) f o1.ext.1⟩
theorem l13CopyShard_c (hS10 : Has F tS10) (hS13 : Has F tS13) (hf : h.floor ≤ h.next) (v : Shard.RI h cs t fp) (sm : t.Small) : ∃ cs' h' fq, call F Z 228 [.agg cs] h = some (.agg cs', h') ∧ On h h' ∧ Shard.RI h' cs' t fq ∧ Fre h fq := by
  obtain ⟨x, p, y, q, rfl, rfl, w, u⟩ := v
  obtain ⟨y1, h1, q1, e1, o1, u1, f1⟩ := l10Copy_c (Z := Z) hS10 hf w sm.1
  have sm2 : t.finished.length ≤ 1048576 := sm.2
  have hf1 := o1.le hf
  rw [call_run F Z (hS13.lk (g := 228) rfl) _ _ rfl]
  simp only [run0, run1, run2, run3, run4, noSlot, ownS, ownK, memN, RO.dst, lk, drop, forget, number, Nat.reduceBEq, cut?, splice?, builds, Nat.reduceAdd, Nat.reduceLeDiff, ↓reduceIte, reduceCtorEq, qqa, qqb, qqc, qqd, qqe, qqf, qqg, qqh, qqi, qqj, qqk, qql, qqm, qqn, qqo, qqp, qqq, qqr, qqs, qqt, qqu, qqv, qqw, qqx, qqy, e1, List.replicate_zero, fills]
  obtain ⟨y2, h2, a2, l2⟩ := loop_acc (F := F) (Z := Z) (live := [1, 2, 3, 4]) (b := r228L0) t.finished (fun r => [r.enc]) 9 h1 (fun i z g => ⟨[(3, .c z), (4, .c (.int .i64 (i : Nat)))], [(1, 1, 0), (2, 2, 0)], [(1, [.int .u64 t.lo, .int .u64 t.hi, .int .i64 t.state, .int .i64 t.epoch, y1, y]), (2, [.int .u64 0, .int .u64 0, .int .i64 0, .int .i64 0, .nil, .nil])], g⟩) (fun r => by simp) (fun i hi z g rows a hr => by
    have e1 := a.one_eq hf1 (bytes := 16) (by omega)
    have a1 := a.one hf1 (by omega)
    have hlt : (i : Int) < t.finished.length := by omega
    have wg := (u.on (Fl.ok _) o1).on (Fl.ok _) a.on
    rw [loop_run]
    conv in (codeF _ _ r228L0 _) => unfold r228L0
    simp only [run0, run1, run2, run3, run4, noSlot, ownS, ownK, memN, RO.dst, lk, drop, forget, number, Nat.reduceBEq, cut?, splice?, builds, Nat.reduceAdd, Nat.reduceLeDiff, ↓reduceIte, reduceCtorEq, qqa, qqb, qqc, qqd, qqe, qqf, qqg, qqh, qqi, qqj, qqk, qql, qqm, qqn, qqo, qqp, qqq, qqr, qqs, qqt, qqu, qqv, qqw, qqx, qqy, u.len, hlt, u.idx hi, wg.load hi, Fin.len, Fin.tak, wrapS i (by omega), List.replicate_succ, List.replicate_zero, fills, and_self, Nat.zero_lt_one, List.set_cons_zero, e1]
    exact ⟨_, _, a1 _, rfl⟩) (Acc.lit0 (On.refl h1))
  simp only [show ((0 : Nat) : Int) = 0 from rfl] at l2
  have hlt : ¬ (t.finished.length : Int) < t.finished.length := by omega
  rw [l2, loop_run]
  conv in (codeF _ _ r228L0 _) => unfold r228L0
  simp only [run0, run1, run2, run3, run4, noSlot, ownS, ownK, memN, RO.dst, lk, drop, forget, number, Nat.reduceBEq, cut?, splice?, builds, Nat.reduceAdd, Nat.reduceLeDiff, ↓reduceIte, reduceCtorEq, qqa, qqb, qqc, qqd, qqe, qqf, qqg, qqh, qqi, qqj, qqk, qql, qqm, qqn, qqo, qqp, qqq, qqr, qqs, qqt, qqu, qqv, qqw, qqx, qqy, u.len, hlt]
  rw [flatMap_one] at a2
  obtain ⟨o, fq, u2, f⟩ := a2.flat
  exact ⟨_, _, _, rfl, o1.trans o, ⟨_, _, _, _, rfl, rfl, u1.on (Fl.ok _) o, u2⟩, f1.app (u1.lt (Fl.ok _)) f o1.ext.1⟩
theorem Shard.none_R (h : Heap) : Shard.RI h [.int .u64 0, .int .u64 0, .int .i64 0, .int .i64 0, .nil, .nil] Shard.none_ [] := ⟨.nil, [], .nil, [], rfl, rfl, SlR.nil _ _ _, SlR.nil _ _ _⟩
def exportShard (s : Store) (lo : Int) : Shard × Bool := bif s.good && decide (0 ≤ findAt s.shards lo 1) then (Shard.at_ s.shards (findAt s.shards lo 1).toNat, true) else (Shard.none_, false)
variable {s : Store}
theorem Store.at_small (sm : s.Small) {i : Nat} (hi : i < s.shards.length) : (Shard.at_ s.shards i).Small := by
  rw [Shard.at_get hi]
  exact sm.2 _ (List.getElem_mem hi)
theorem Store.at_ok (ok : s.Ok) {i : Nat} (hi : i < s.shards.length) : (Shard.at_ s.shards i).Ok := by
  rw [Shard.at_get hi]
  exact ok.shards _ (List.getElem_mem hi)
theorem exportShard_small {lo : Int} (sm : s.Small) : (exportShard s lo).1.Small := by
  unfold exportShard
  cases h : (s.good && decide (0 ≤ findAt s.shards lo 1)) with
  | false => exact ⟨show (0 : Nat) ≤ 1048576 by omega, show (0 : Nat) ≤ 1048576 by omega⟩
  | true =>
    simp only [Bool.and_eq_true, decide_eq_true_eq] at h
    obtain ⟨i, e, hi, _⟩ := findI_at h.2
    have e' : findAt s.shards lo 1 = (i : Int) := e
    simp only [cond_true, e', Int.toNat_natCast]
    exact Store.at_small sm hi
theorem SlR.atR {ys : List Shard} (w : SlR 16 Shard.RI h x ys fp) {i : Nat} (hi : i < ys.length) : ∃ r f, (∀ j n, loadP h x.sid i j n = cut? r j n) ∧ Shard.RI h r (Shard.at_ ys i) f ∧ ∀ id, id ∈ f → id ∈ fp := by
  rw [Shard.at_get hi]
  exact w.one hi
set_option maxHeartbeats 1000000 in
theorem ExportShard_c (k : KI F) (hL : Has F tLibslicesIndexFuncimplShardimplShard) (hf : h.floor ≤ h.next) (v : Store.RI h cs s fp) (lo : Int) (ok : s.Ok) (sm : s.Small) :
    ∃ cs' h' fq, call F Z 190 [.agg cs, .c (.int .u64 lo)] h = some (.tup [.agg cs', .c (.bool (exportShard s lo).2)], h') ∧ On h h' ∧ Shard.RI h' cs' (exportShard s lo).1 fq ∧ Fre h fq := by
  obtain ⟨h1, e1, o1⟩ := shardAt_on (Z := Z) k.i13 hL v lo 1
  have v1 := Store.okI.on v o1
  obtain ⟨h2, e2, o2⟩ := isStore_run (Z := Z) k v1 ok
  have v2 := Store.okI.on v1 o2
  have hf2 := (o1.trans o2).le hf
  obtain ⟨x, p, rfl, rfl, w⟩ := v2
  rw [call_run F Z (k.i13.lk (g := 190) rfl) _ _ rfl]
  have hdef : exportShard s lo = bif s.good && decide (0 ≤ findAt s.shards lo 1) then (Shard.at_ s.shards (findAt s.shards lo 1).toNat, true) else (Shard.none_, false) := rfl
  cases gd : s.good with
  | false =>
    rw [gd] at e2
    have hd : exportShard s lo = (Shard.none_, false) := by rw [hdef, gd]; rfl
    rw [hd]
    simp only [run0, run1, run2, run3, run4, noSlot, ownS, ownK, memN, RO.dst, lk, drop, forget, number, Nat.reduceBEq, cut?, splice?, builds, Nat.reduceAdd, Nat.reduceLeDiff, ↓reduceIte, reduceCtorEq, qqa, qqb, qqc, qqd, qqe, qqf, qqg, qqh, qqi, qqj, qqk, qql, qqm, qqn, qqo, qqp, qqq, qqr, qqs, qqt, qqu, qqv, qqw, qqx, qqy, e1, e2]
    exact ⟨_, _, _, rfl, o1.trans o2, Shard.none_R _, Fre.nil h⟩
  | true =>
    rw [gd] at e2
    rcases w.found (fun t => (t.lo == lo) && (t.state == 1)) with e | ⟨i, e, hi, _, hx, _⟩
    · change findAt s.shards lo 1 = -1 at e
      have hd : exportShard s lo = (Shard.none_, false) := by rw [hdef, gd, e]; rfl
      rw [hd]
      rw [e] at e1
      simp only [run0, run1, run2, run3, run4, noSlot, ownS, ownK, memN, RO.dst, lk, drop, forget, number, Nat.reduceBEq, cut?, splice?, builds, Nat.reduceAdd, Nat.reduceLeDiff, ↓reduceIte, reduceCtorEq, qqa, qqb, qqc, qqd, qqe, qqf, qqg, qqh, qqi, qqj, qqk, qql, qqm, qqn, qqo, qqp, qqq, qqr, qqs, qqt, qqu, qqv, qqw, qqx, qqy, e1, e2, Int.reduceLT, Int.reduceNeg]
      exact ⟨_, _, _, rfl, o1.trans o2, Shard.none_R _, Fre.nil h⟩
    · change findAt s.shards lo 1 = (i : Int) at e
      have hd : exportShard s lo = (Shard.at_ s.shards i, true) := by
        rw [hdef, gd, e]
        have : decide (0 ≤ (i : Int)) = true := by simp
        rw [this]; rfl
      rw [hd]
      rw [e] at e1
      obtain ⟨r, f, hl, hR, _⟩ := w.atR hi
      obtain ⟨cs', h3, fq, e3, o3, u3, f3⟩ := copyShard_c (Z := Z) k.i10 k.i13 hf2 hR (Store.at_small sm hi)
      obtain ⟨r1, r2, r3⟩ := Shard.lenI hR
      obtain ⟨c1, c2, c3⟩ := Shard.lenI u3
      have g0 : ¬ (i : Int) < 0 := by omega
      simp only [run0, run1, run2, run3, run4, noSlot, ownS, ownK, memN, RO.dst, lk, drop, forget, number, Nat.reduceBEq, cut?, splice?, builds, Nat.reduceAdd, Nat.reduceLeDiff, ↓reduceIte, reduceCtorEq, qqa, qqb, qqc, qqd, qqe, qqf, qqg, qqh, qqi, qqj, qqk, qql, qqm, qqn, qqo, qqp, qqq, qqr, qqs, qqt, qqu, qqv, qqw, qqx, qqy, e1, e2, g0, hx, hl, r1, r2, r3, e3, c1, c2, c3]
      exact ⟨_, _, _, rfl, (o1.trans o2).trans o3, u3, ⟨fun id hid => Nat.le_trans (o1.trans o2).ext.1 (f3.lo id hid), f3.nd⟩⟩
set_option maxHeartbeats 1000000 in
theorem sExportShard_c (k : KS F) (hf : h.floor ≤ h.next) (v : Store.RI h cs s fp) (lo : Int) (ok : s.Ok) (sm : s.Small) :
    ∃ cs' h' fq, call F Z 189 [.agg cs, .c (.int .u64 lo)] h = some (.tup [.agg cs', .c (.bool (exportShard s lo).2)], h') ∧ On h h' ∧ Shard.RI h' cs' (exportShard s lo).1 fq ∧ Fre h fq := by
  have e1 := l13At_run (Z := Z) k.s13 v lo 1
  have e2 := sStoreOk_run (Z := Z) k v ok
  obtain ⟨x, p, rfl, rfl, w⟩ := v
  rw [call_run F Z (k.s13.lk (g := 189) rfl) _ _ rfl]
  have hdef : exportShard s lo = bif s.good && decide (0 ≤ findAt s.shards lo 1) then (Shard.at_ s.shards (findAt s.shards lo 1).toNat, true) else (Shard.none_, false) := rfl
  cases gd : s.good with
  | false =>
    rw [gd] at e2
    have hd : exportShard s lo = (Shard.none_, false) := by rw [hdef, gd]; rfl
    rw [hd]
    simp only [run0, run1, run2, run3, run4, noSlot, ownS, ownK, memN, RO.dst, lk, drop, forget, number, Nat.reduceBEq, cut?, splice?, builds, Nat.reduceAdd, Nat.reduceLeDiff, ↓reduceIte, reduceCtorEq, qqa, qqb, qqc, qqd, qqe, qqf, qqg, qqh, qqi, qqj, qqk, qql, qqm, qqn, qqo, qqp, qqq, qqr, qqs, qqt, qqu, qqv, qqw, qqx, qqy, e1, e2]
    exact ⟨_, _, _, rfl, On.refl h, Shard.none_R _, Fre.nil h⟩
  | true =>
    rw [gd] at e2
    rcases w.found (fun t => (t.lo == lo) && (t.state == 1)) with e | ⟨i, e, hi, _, hx, _⟩
    · change findAt s.shards lo 1 = -1 at e
      have hd : exportShard s lo = (Shard.none_, false) := by rw [hdef, gd, e]; rfl
      rw [hd]
      rw [e] at e1
      simp only [run0, run1, run2, run3, run4, noSlot, ownS, ownK, memN, RO.dst, lk, drop, forget, number, Nat.reduceBEq, cut?, splice?, builds, Nat.reduceAdd, Nat.reduceLeDiff, ↓reduceIte, reduceCtorEq, qqa, qqb, qqc, qqd, qqe, qqf, qqg, qqh, qqi, qqj, qqk, qql, qqm, qqn, qqo, qqp, qqq, qqr, qqs, qqt, qqu, qqv, qqw, qqx, qqy, e1, e2, Int.reduceLT, Int.reduceNeg]
      exact ⟨_, _, _, rfl, On.refl h, Shard.none_R _, Fre.nil h⟩
    · change findAt s.shards lo 1 = (i : Int) at e
      have hd : exportShard s lo = (Shard.at_ s.shards i, true) := by
        rw [hdef, gd, e]
        have : decide (0 ≤ (i : Int)) = true := by simp
        rw [this]; rfl
      rw [hd]
      rw [e] at e1
      obtain ⟨r, f, hl, hR, _⟩ := w.atR hi
      obtain ⟨cs', h3, fq, e3, o3, u3, f3⟩ := l13CopyShard_c (Z := Z) k.s10 k.s13 hf hR (Store.at_small sm hi)
      obtain ⟨r1, r2, r3⟩ := Shard.lenI hR
      obtain ⟨c1, c2, c3⟩ := Shard.lenI u3
      have g0 : ¬ (i : Int) < 0 := by omega
      simp only [run0, run1, run2, run3, run4, noSlot, ownS, ownK, memN, RO.dst, lk, drop, forget, number, Nat.reduceBEq, cut?, splice?, builds, Nat.reduceAdd, Nat.reduceLeDiff, ↓reduceIte, reduceCtorEq, qqa, qqb, qqc, qqd, qqe, qqf, qqg, qqh, qqi, qqj, qqk, qql, qqm, qqn, qqo, qqp, qqq, qqr, qqs, qqt, qqu, qqv, qqw, qqx, qqy, e1, e2, g0, hx, hl, r1, r2, r3, e3, c1, c2, c3]
      exact ⟨_, _, _, rfl, o3, u3, f3⟩
end
end Go.Proofs.Ytgfclcpnefinoaa.A
namespace Go.Proofs.Ytgfclcpnefinoaa.A
open Go
set_option linter.unusedSimpArgs false
set_option linter.unusedVariables false
section
variable {F : Nat → Option RF} {Z : CallF} {h : Heap} {x : Cell} {xs : List Shard} {fp fq : List Nat} {cs : List Cell} {s : Store} {t : Shard}
theorem copyShard_q (hI10 : Has F tI10) (hI13 : Has F tI13) (v : Shard.RI h cs t fp) (sm : t.Small) :
    ∃ cs' h' g fq, call F Z 229 [.agg cs] ⟨h.next, h.next, h.get⟩ = some (.agg cs', h') ∧ Heap.mk h'.next h.floor h'.get = g ∧ On h g ∧ Shard.RI g cs' t fq ∧ Fre h fq ∧ cs'.length = 6 := by
  obtain ⟨cs', h', fq, e, o, u, f⟩ := copyShard_c (Z := Z) (h := ⟨h.next, h.next, h.get⟩) hI10 hI13 (Nat.le_refl _) (Shard.okI.up v h.next) sm
  exact ⟨cs', h', _, fq, e, rfl, ⟨⟨o.ext.1, o.ext.2⟩, rfl⟩, Shard.okI.up u h.floor, ⟨f.lo, f.nd⟩, (Shard.lenI u).1⟩
theorem l13CopyShard_q (hS10 : Has F tS10) (hS13 : Has F tS13) (v : Shard.RI h cs t fp) (sm : t.Small) :
    ∃ cs' h' g fq, call F Z 228 [.agg cs] ⟨h.next, h.next, h.get⟩ = some (.agg cs', h') ∧ Heap.mk h'.next h.floor h'.get = g ∧ On h g ∧ Shard.RI g cs' t fq ∧ Fre h fq ∧ cs'.length = 6 := by
  obtain ⟨cs', h', fq, e, o, u, f⟩ := l13CopyShard_c (Z := Z) (h := ⟨h.next, h.next, h.get⟩) hS10 hS13 (Nat.le_refl _) (Shard.okI.up v h.next) sm
  exact ⟨cs', h', _, fq, e, rfl, ⟨⟨o.ext.1, o.ext.2⟩, rfl⟩, Shard.okI.up u h.floor, ⟨f.lo, f.nd⟩, (Shard.lenI u).1⟩
theorem AccM.next {g k : Heap} {y : Cell} {ys : List Shard} (a : AccM Shard.RI 16 h g y ys fp) (hf : h.floor ≤ h.next) (hl : ys.length ≤ 1048576) (o : On g k) {cs' : List Cell} (u : Shard.RI k cs' t fq) (f : Fre g fq) :
    ∃ y' g' fp', appF (k.push [cs']) 16 80 y (.sl 16 k.next 0 1) = some (y', g') ∧ AccM Shard.RI 16 h g' y' (ys ++ [t]) fp' := by
  have hlt : ∀ id, id ∈ fp → id < g.next := a.sh.lt Shard.okI
  obtain ⟨y', g', fp', e, a', _⟩ := a.one Shard.okI hf (bytes := 80) (by omega) (by omega) o u ⟨fun id hid => Nat.le_trans a.on.ext.1 (f.lo id hid), f.nd⟩ (fun id h1 h2 => by
    have := hlt id h2
    have := f.lo id h1
    omega)
  exact ⟨y', g', fp', e, a'⟩
set_option maxHeartbeats 1000000 in
theorem copyStore_c (k : KI F) (hf : h.floor ≤ h.next) (v : Store.RI h cs s fp) (sm : s.Small) :
    ∃ cs' h' fq, call F Z 320 [.agg cs] h = some (.agg cs', h') ∧ On h h' ∧ Store.RI h' cs' s fq ∧ Fre h fq := by
  obtain ⟨x, p, rfl, rfl, w⟩ := v
  have hle := w.le2
  have hwl := w.len
  rw [call_run F Z (k.i13.lk (g := 320) rfl) _ _ rfl]
  simp only [run0, run1, run2, run3, run4, noSlot, ownS, ownK, memN, RO.dst, lk, drop, forget, number, Nat.reduceBEq, cut?, splice?, builds, Nat.reduceAdd, Nat.reduceLeDiff, ↓reduceIte, reduceCtorEq, qqa, qqb, qqc, qqd, qqe, qqf, qqg, qqh, qqi, qqj, qqk, qql, qqm, qqn, qqo, qqp, qqq, qqr, qqs, qqt, qqu, qqv, qqw, qqx, qqy, hwl]
  obtain ⟨s', ⟨y, g, fq, hs, a⟩, l1⟩ := loop_goes (F := F) (Z := Z) (live := [2, 3, 12, 13, 14]) (b := r320L0) s.shards.length (fun i st => ∃ y g fq, st = ⟨[(12, .c x), (13, .c (.int .i64 (s.shards.length : Nat))), (14, .c (.int .i64 (i : Nat)))], [(2, 2, 0), (3, 3, 0)], [(2, [.int .i64 0, .int .i64 0, .nil]), (3, [.int .i64 s.group, .int .i64 s.seen, y])], g⟩ ∧ AccM Shard.RI 16 h g y (s.shards.take i) fq) (fun i st hi ⟨y, g, fq, hs, a⟩ => by
    subst hs
    have hlt : (i : Int) < s.shards.length := by omega
    have hws := wrapS i (by omega)
    have hxi := w.idx hi
    obtain ⟨r, f, hld, hR, _⟩ := (w.on Shard.okI a.on).one hi
    obtain ⟨r1, r2, r3⟩ := Shard.lenI hR
    obtain ⟨cs', h', g1, fr, e1, hg1, o1, u1, f1, c1⟩ := copyShard_q (Z := Z) k.i10 k.i13 hR (sm.2 _ (List.getElem_mem hi))
    obtain ⟨y', g', fp', e2, a2⟩ := a.next hf (by rw [List.length_take]; have := sm.1; omega) o1 u1 f1
    have ht : s.shards.take (i + 1) = s.shards.take i ++ [s.shards[i]] := by rw [List.take_add_one, List.getElem?_eq_getElem hi]; rfl
    rw [← ht] at a2
    rw [loop_run]
    conv in (codeF _ _ r320L0 _) => unfold r320L0
    simp only [run0, run1, run2, run3, run4, noSlot, ownS, ownK, memN, RO.dst, lk, drop, forget, number, Nat.reduceBEq, cut?, splice?, builds, Nat.reduceAdd, Nat.reduceLeDiff, ↓reduceIte, reduceCtorEq, qqa, qqb, qqc, qqd, qqe, qqf, qqg, qqh, qqi, qqj, qqk, qql, qqm, qqn, qqo, qqp, qqq, qqr, qqs, qqt, qqu, qqv, qqw, qqx, qqy, hlt, hxi, hld, r1, r2, r3, e1, hg1, List.replicate_succ, List.replicate_zero, fills, and_self, Nat.zero_lt_one, c1, List.set_cons_zero, e2, hws]
    exact ⟨_, ⟨_, _, _, rfl, a2⟩, rfl⟩) (s := ⟨[(12, .c x), (13, .c (.int .i64 (s.shards.length : Nat))), (14, .c (.int .i64 (0 : Nat)))], [(2, 2, 0), (3, 3, 0)], [(2, [.int .i64 0, .int .i64 0, .nil]), (3, [.int .i64 s.group, .int .i64 s.seen, .nil])], h⟩) ⟨_, _, _, rfl, by simpa using AccM.nil Shard.RI 16 h⟩
  subst hs
  simp only [show ((0 : Nat) : Int) = 0 from rfl] at l1
  rw [List.take_length] at a
  have hlt : ¬ (s.shards.length : Int) < s.shards.length := by omega
  rw [l1, loop_run]
  conv in (codeF _ _ r320L0 _) => unfold r320L0
  simp only [run0, run1, run2, run3, run4, noSlot, ownS, ownK, memN, RO.dst, lk, drop, forget, number, Nat.reduceBEq, cut?, splice?, builds, Nat.reduceAdd, Nat.reduceLeDiff, ↓reduceIte, reduceCtorEq, qqa, qqb, qqc, qqd, qqe, qqf, qqg, qqh, qqi, qqj, qqk, qql, qqm, qqn, qqo, qqp, qqq, qqr, qqs, qqt, qqu, qqv, qqw, qqx, qqy, hlt]
  exact ⟨_, _, _, rfl, a.on, ⟨_, _, rfl, rfl, a.sh⟩, a.fr⟩
set_option maxHeartbeats 1000000 in
theorem l13Copy_c (k : KS F) (hf : h.floor ≤ h.next) (v : Store.RI h cs s fp) (sm : s.Small) :
    ∃ cs' h' fq, call F Z 317 [.agg cs] h = some (.agg cs', h') ∧ On h h' ∧ Store.RI h' cs' s fq ∧ Fre h fq := by
  obtain ⟨x, p, rfl, rfl, w⟩ := v
  have hle := w.le2
  have hwl := w.len
  rw [call_run F Z (k.s13.lk (g := 317) rfl) _ _ rfl]
  simp only [run0, run1, run2, run3, run4, noSlot, ownS, ownK, memN, RO.dst, lk, drop, forget, number, Nat.reduceBEq, cut?, splice?, builds, Nat.reduceAdd, Nat.reduceLeDiff, ↓reduceIte, reduceCtorEq, qqa, qqb, qqc, qqd, qqe, qqf, qqg, qqh, qqi, qqj, qqk, qql, qqm, qqn, qqo, qqp, qqq, qqr, qqs, qqt, qqu, qqv, qqw, qqx, qqy]
  obtain ⟨s', ⟨y, g, fq, hs, a⟩, l1⟩ := loop_goes (F := F) (Z := Z) (live := [1, 2, 3, 4]) (b := r317L0) s.shards.length (fun i st => ∃ y g fq, st = ⟨[(4, .c (.int .i64 (i : Nat)))], [(1, 1, 0), (2, 2, 0), (3, 3, 0)], [(1, [.int .i64 s.group, .int .i64 s.seen, x]), (2, [.int .i64 0, .int .i64 0, .nil]), (3, [.int .i64 s.group, .int .i64 s.seen, y])], g⟩ ∧ AccM Shard.RI 16 h g y (s.shards.take i) fq) (fun i st hi ⟨y, g, fq, hs, a⟩ => by
    subst hs
    have hlt : (i : Int) < s.shards.length := by omega
    have hws := wrapS i (by omega)
    have hxi := w.idx hi
    obtain ⟨r, f, hld, hR, _⟩ := (w.on Shard.okI a.on).one hi
    obtain ⟨r1, r2, r3⟩ := Shard.lenI hR
    obtain ⟨cs', h', g1, fr, e1, hg1, o1, u1, f1, c1⟩ := l13CopyShard_q (Z := Z) k.s10 k.s13 hR (sm.2 _ (List.getElem_mem hi))
    obtain ⟨y', g', fp', e2, a2⟩ := a.next hf (by rw [List.length_take]; have := sm.1; omega) o1 u1 f1
    have ht : s.shards.take (i + 1) = s.shards.take i ++ [s.shards[i]] := by rw [List.take_add_one, List.getElem?_eq_getElem hi]; rfl
    rw [← ht] at a2
    rw [loop_run]
    conv in (codeF _ _ r317L0 _) => unfold r317L0
    simp only [run0, run1, run2, run3, run4, noSlot, ownS, ownK, memN, RO.dst, lk, drop, forget, number, Nat.reduceBEq, cut?, splice?, builds, Nat.reduceAdd, Nat.reduceLeDiff, ↓reduceIte, reduceCtorEq, qqa, qqb, qqc, qqd, qqe, qqf, qqg, qqh, qqi, qqj, qqk, qql, qqm, qqn, qqo, qqp, qqq, qqr, qqs, qqt, qqu, qqv, qqw, qqx, qqy, hwl, hlt, hxi, hld, r1, r2, r3, e1, hg1, List.replicate_succ, List.replicate_zero, fills, and_self, Nat.zero_lt_one, c1, List.set_cons_zero, e2, hws]
    exact ⟨_, ⟨_, _, _, rfl, a2⟩, rfl⟩) (s := ⟨[(4, .c (.int .i64 (0 : Nat)))], [(1, 1, 0), (2, 2, 0), (3, 3, 0)], [(1, [.int .i64 s.group, .int .i64 s.seen, x]), (2, [.int .i64 0, .int .i64 0, .nil]), (3, [.int .i64 s.group, .int .i64 s.seen, .nil])], h⟩) ⟨_, _, _, rfl, by simpa using AccM.nil Shard.RI 16 h⟩
  subst hs
  simp only [show ((0 : Nat) : Int) = 0 from rfl] at l1
  rw [List.take_length] at a
  have hlt : ¬ (s.shards.length : Int) < s.shards.length := by omega
  rw [l1, loop_run]
  conv in (codeF _ _ r317L0 _) => unfold r317L0
  simp only [run0, run1, run2, run3, run4, noSlot, ownS, ownK, memN, RO.dst, lk, drop, forget, number, Nat.reduceBEq, cut?, splice?, builds, Nat.reduceAdd, Nat.reduceLeDiff, ↓reduceIte, reduceCtorEq, qqa, qqb, qqc, qqd, qqe, qqf, qqg, qqh, qqi, qqj, qqk, qql, qqm, qqn, qqo, qqp, qqq, qqr, qqs, qqt, qqu, qqv, qqw, qqx, qqy, hwl, hlt]
  exact ⟨_, _, _, rfl, a.on, ⟨_, _, rfl, rfl, a.sh⟩, a.fr⟩
end
end Go.Proofs.Ytgfclcpnefinoaa.A
namespace Go.Proofs.Ytgfclcpnefinoaa.A
open Go
set_option linter.unusedSimpArgs false
set_option linter.unusedVariables false
def Shard.renew (e : Int) (t : Shard) : Shard := bif t.state == 0 then { t with epoch := e } else t
def Store.renew (s : Store) (e : Int) : Store := ⟨s.group, e, s.shards.map (Shard.renew e)⟩
def Store.next (s : Store) (e : Int) : Bool := s.good && (decide (s.seen < e) && decide (e ≤ 1000000))
section
variable {F : Nat → Option RF} {Z : CallF} {h : Heap} {x : Cell} {xs : List Shard} {fp fq : List Nat} {cs : List Cell} {s : Store} {t : Shard}
set_option maxHeartbeats 1000000 in
theorem renewed_turn (e gr sn : Int) {n : Nat} (hn : xs.length = n) (w : SlR 16 Shard.RI h x xs fp) (nd : fp.Nodup) (hfl : ∀ id, id ∈ fp → h.floor ≤ id) {i : Nat} (hi : i < xs.length) :
    ∃ g, loop F Z [1, 2, 4, 10, 11] r321L0 ⟨[(1, .c (.int .i64 e)), (10, .c (.int .i64 (n : Nat))), (11, .c (.int .i64 (i : Nat)))], [(2, 2, 0), (4, 4, 0)], [(2, [.int .i64 gr, .int .i64 sn, x]), (4, [.int .i64 0, .int .i64 0, .nil])], h⟩
      = loop F Z [1, 2, 4, 10, 11] r321L0 ⟨[(1, .c (.int .i64 e)), (10, .c (.int .i64 (n : Nat))), (11, .c (.int .i64 ((i + 1 : Nat) : Int)))], [(2, 2, 0), (4, 4, 0)], [(2, [.int .i64 gr, .int .i64 sn, x]), (4, [.int .i64 0, .int .i64 0, .nil])], g⟩ ∧
      Mk h g fp ∧ SlR 16 Shard.RI g x (xs.set i (xs[i].renew e)) fp := by
  have hle := w.le2
  have hlt : (i : Int) < (n : Int) := by omega
  have hws := wrapS i (by omega)
  have hxi := w.idx hi
  obtain ⟨r, f, rows, hR, hs, hld, hself, hst, hl2, fin⟩ := w.putRow Shard.okI nd hfl hi
  have hset := set_same xs hi
  obtain ⟨x1, p1, x2, p2, rfl, rfl, w1, w2⟩ := hR
  have hd : xs[i].renew e = bif xs[i].state == 0 then { xs[i] with epoch := e } else xs[i] := rfl
  rw [loop_run]
  conv in (codeF _ _ r321L0 _) => unfold r321L0
  by_cases c : xs[i].state = 0
  · have c' : (xs[i].state == 0) = true := by simp [c]
    obtain ⟨f1, f2⟩ := fin [.int .u64 xs[i].lo, .int .u64 xs[i].hi, .int .i64 xs[i].state, .int .i64 e, x1, x2] { xs[i] with epoch := e } ⟨x1, p1, x2, p2, rfl, rfl, w1, w2⟩
    rw [hd, c']
    clear hd fin w w1 w2 hset
    generalize xs[i] = a at *
    have hst' := hst [.int .u64 a.lo, .int .u64 a.hi, .int .i64 a.state, .int .i64 a.epoch, x1, x2]
    rw [hself] at hst'
    simp only [run0, run1, run2, run3, run4, noSlot, ownS, ownK, memN, RO.dst, lk, drop, forget, number, Nat.reduceBEq, cut?, splice?, builds, Nat.reduceAdd, Nat.reduceLeDiff, ↓reduceIte, reduceCtorEq, qqa, qqb, qqc, qqd, qqe, qqf, qqg, qqh, qqi, qqj, qqk, qql, qqm, qqn, qqo, qqp, qqq, qqr, qqs, qqt, qqu, qqv, qqw, qqx, qqy, hlt, hxi, hld, c', hst', putM_s, hws]
    exact ⟨_, rfl, f2, f1⟩
  · have c' : (xs[i].state == 0) = false := by simp [c]
    rw [hd, c']
    simp only [cond_false, hset]
    clear hd fin w1 w2 hset
    generalize xs[i] = a at *
    simp only [run0, run1, run2, run3, run4, noSlot, ownS, ownK, memN, RO.dst, lk, drop, forget, number, Nat.reduceBEq, cut?, splice?, builds, Nat.reduceAdd, Nat.reduceLeDiff, ↓reduceIte, reduceCtorEq, qqa, qqb, qqc, qqd, qqe, qqf, qqg, qqh, qqi, qqj, qqk, qql, qqm, qqn, qqo, qqp, qqq, qqr, qqs, qqt, qqu, qqv, qqw, qqx, qqy, hlt, hxi, hld, c', hws]
    exact ⟨_, rfl, Mk.refl _ _, w⟩
theorem renewed_c (k : KI F) (v : Store.RI h cs s fp) (nd : fp.Nodup) (hfl : ∀ id, id ∈ fp → h.floor ≤ id) (e : Int) :
    ∃ cs' h', call F Z 321 [.agg cs, .c (.int .i64 e)] h = some (.agg cs', h') ∧ Mk h h' fp ∧ Store.RI h' cs' (s.renew e) fp := by
  obtain ⟨x, p, rfl, rfl, w⟩ := v
  have hwl := w.len
  rw [call_run F Z (k.i13.lk (g := 321) rfl) _ _ rfl]
  simp only [run0, run1, run2, run3, run4, noSlot, ownS, ownK, memN, RO.dst, lk, drop, forget, number, Nat.reduceBEq, cut?, splice?, builds, Nat.reduceAdd, Nat.reduceLeDiff, ↓reduceIte, reduceCtorEq, qqa, qqb, qqc, qqd, qqe, qqf, qqg, qqh, qqi, qqj, qqk, qql, qqm, qqn, qqo, qqp, qqq, qqr, qqs, qqt, qqu, qqv, qqw, qqx, qqy, hwl]
  obtain ⟨s', ⟨g, hs, m, u⟩, l1⟩ := loop_goes (F := F) (Z := Z) (live := [1, 2, 4, 10, 11]) (b := r321L0) s.shards.length (fun i st => ∃ g, st = ⟨[(1, .c (.int .i64 e)), (10, .c (.int .i64 (s.shards.length : Nat))), (11, .c (.int .i64 (i : Nat)))], [(2, 2, 0), (4, 4, 0)], [(2, [.int .i64 s.group, .int .i64 e, x]), (4, [.int .i64 0, .int .i64 0, .nil])], g⟩ ∧ Mk h g fp ∧ SlR 16 Shard.RI g x ((s.shards.take i).map (Shard.renew e) ++ s.shards.drop i) fp) (fun i st hi ⟨g, hs, m, u⟩ => by
    subst hs
    have hl : ((s.shards.take i).map (Shard.renew e) ++ s.shards.drop i).length = s.shards.length := by simp; omega
    have hi' : i < ((s.shards.take i).map (Shard.renew e) ++ s.shards.drop i).length := by omega
    obtain ⟨g', e1, m1, u1⟩ := renewed_turn (F := F) (Z := Z) e s.group e hl u nd (fun id hid => by rw [m.fl]; exact hfl id hid) hi'
    rw [mix_at _ _ hi hi', mix_set _ _ hi] at u1
    exact ⟨_, ⟨g', rfl, m.then m1, u1⟩, e1⟩) (s := ⟨[(1, .c (.int .i64 e)), (10, .c (.int .i64 (s.shards.length : Nat))), (11, .c (.int .i64 (0 : Nat)))], [(2, 2, 0), (4, 4, 0)], [(2, [.int .i64 s.group, .int .i64 e, x]), (4, [.int .i64 0, .int .i64 0, .nil])], h⟩) ⟨h, rfl, Mk.refl _ _, by simpa using w⟩
  subst hs
  simp only [show ((0 : Nat) : Int) = 0 from rfl] at l1
  rw [List.take_length, List.drop_length, List.append_nil] at u
  have hlt : ¬ (s.shards.length : Int) < s.shards.length := by omega
  rw [l1, loop_run]
  conv in (codeF _ _ r321L0 _) => unfold r321L0
  simp only [run0, run1, run2, run3, run4, noSlot, ownS, ownK, memN, RO.dst, lk, drop, forget, number, Nat.reduceBEq, cut?, splice?, builds, Nat.reduceAdd, Nat.reduceLeDiff, ↓reduceIte, reduceCtorEq, qqa, qqb, qqc, qqd, qqe, qqf, qqg, qqh, qqi, qqj, qqk, qql, qqm, qqn, qqo, qqp, qqq, qqr, qqs, qqt, qqu, qqv, qqw, qqx, qqy, hlt]
  exact ⟨_, _, rfl, m, ⟨_, _, rfl, rfl, u⟩⟩
set_option maxHeartbeats 1000000 in
theorem l13Renew_turn (e gr sn : Int) (w : SlR 16 Shard.RI h x xs fp) (nd : fp.Nodup) (hfl : ∀ id, id ∈ fp → h.floor ≤ id) {i : Nat} (hi : i < xs.length) :
    ∃ g, loop F Z [1, 4, 5, 6] r318L0 ⟨[(1, .c (.int .i64 e)), (6, .c (.int .i64 (i : Nat)))], [(4, 4, 0), (5, 5, 0)], [(4, [.int .i64 0, .int .i64 0, .nil]), (5, [.int .i64 gr, .int .i64 sn, x])], h⟩
      = loop F Z [1, 4, 5, 6] r318L0 ⟨[(1, .c (.int .i64 e)), (6, .c (.int .i64 ((i + 1 : Nat) : Int)))], [(4, 4, 0), (5, 5, 0)], [(4, [.int .i64 0, .int .i64 0, .nil]), (5, [.int .i64 gr, .int .i64 sn, x])], g⟩ ∧
      Mk h g fp ∧ SlR 16 Shard.RI g x (xs.set i (xs[i].renew e)) fp := by
  have hle := w.le2
  have hwl := w.len
  have hlt : (i : Int) < (xs.length : Int) := by omega
  have hws := wrapS i (by omega)
  have hxi := w.idx hi
  obtain ⟨r, f, rows, hR, hs, hld, hself, hst, hl2, fin⟩ := w.putRow Shard.okI nd hfl hi
  have hset := set_same xs hi
  obtain ⟨x1, p1, x2, p2, rfl, rfl, w1, w2⟩ := hR
  have hd : xs[i].renew e = bif xs[i].state == 0 then { xs[i] with epoch := e } else xs[i] := rfl
  rw [loop_run]
  conv in (codeF _ _ r318L0 _) => unfold r318L0
  by_cases c : xs[i].state = 0
  · have c' : (xs[i].state == 0) = true := by simp [c]
    obtain ⟨f1, f2⟩ := fin [.int .u64 xs[i].lo, .int .u64 xs[i].hi, .int .i64 xs[i].state, .int .i64 e, x1, x2] { xs[i] with epoch := e } ⟨x1, p1, x2, p2, rfl, rfl, w1, w2⟩
    rw [hd, c']
    clear hd fin w w1 w2 hset
    generalize xs[i] = a at *
    have hst' := hst [.int .u64 a.lo, .int .u64 a.hi, .int .i64 a.state, .int .i64 a.epoch, x1, x2]
    rw [hself] at hst'
    simp only [run0, run1, run2, run3, run4, noSlot, ownS, ownK, memN, RO.dst, lk, drop, forget, number, Nat.reduceBEq, cut?, splice?, builds, Nat.reduceAdd, Nat.reduceLeDiff, ↓reduceIte, reduceCtorEq, qqa, qqb, qqc, qqd, qqe, qqf, qqg, qqh, qqi, qqj, qqk, qql, qqm, qqn, qqo, qqp, qqq, qqr, qqs, qqt, qqu, qqv, qqw, qqx, qqy, hwl, hlt, hxi, hld, c', hst', putM_s, hws]
    exact ⟨_, rfl, f2, f1⟩
  · have c' : (xs[i].state == 0) = false := by simp [c]
    rw [hd, c']
    simp only [cond_false, hset]
    clear hd fin w1 w2 hset
    generalize xs[i] = a at *
    simp only [run0, run1, run2, run3, run4, noSlot, ownS, ownK, memN, RO.dst, lk, drop, forget, number, Nat.reduceBEq, cut?, splice?, builds, Nat.reduceAdd, Nat.reduceLeDiff, ↓reduceIte, reduceCtorEq, qqa, qqb, qqc, qqd, qqe, qqf, qqg, qqh, qqi, qqj, qqk, qql, qqm, qqn, qqo, qqp, qqq, qqr, qqs, qqt, qqu, qqv, qqw, qqx, qqy, hwl, hlt, hxi, hld, c', hws]
    exact ⟨_, rfl, Mk.refl _ _, w⟩
theorem l13Renew_c (k : KS F) (hf : h.floor ≤ h.next) (v : Store.RI h cs s fp) (sm : s.Small) (e : Int) :
    ∃ cs' h' fq, call F Z 318 [.agg cs, .c (.int .i64 e)] h = some (.agg cs', h') ∧ On h h' ∧ Store.RI h' cs' (s.renew e) fq ∧ Fre h fq := by
  obtain ⟨cs1, h1, fq, e1, o1, v1, f1⟩ := l13Copy_c (Z := Z) k hf v sm
  obtain ⟨l1, l2, l3⟩ := Store.lenI v
  obtain ⟨x, p, rfl, rfl, w⟩ := v1
  have hwl := w.len
  rw [call_run F Z (k.s13.lk (g := 318) rfl) _ _ rfl]
  simp only [run0, run1, run2, run3, run4, noSlot, ownS, ownK, memN, RO.dst, lk, drop, forget, number, Nat.reduceBEq, cut?, splice?, builds, Nat.reduceAdd, Nat.reduceLeDiff, ↓reduceIte, reduceCtorEq, qqa, qqb, qqc, qqd, qqe, qqf, qqg, qqh, qqi, qqj, qqk, qql, qqm, qqn, qqo, qqp, qqq, qqr, qqs, qqt, qqu, qqv, qqw, qqx, qqy, l1, l2, l3, e1]
  obtain ⟨s', ⟨g, hs, m, u⟩, lp⟩ := loop_goes (F := F) (Z := Z) (live := [1, 4, 5, 6]) (b := r318L0) s.shards.length (fun i st => ∃ g, st = ⟨[(1, .c (.int .i64 e)), (6, .c (.int .i64 (i : Nat)))], [(4, 4, 0), (5, 5, 0)], [(4, [.int .i64 0, .int .i64 0, .nil]), (5, [.int .i64 s.group, .int .i64 e, x])], g⟩ ∧ Mk h1 g fq ∧ SlR 16 Shard.RI g x ((s.shards.take i).map (Shard.renew e) ++ s.shards.drop i) fq) (fun i st hi ⟨g, hs, m, u⟩ => by
    subst hs
    have hi' : i < ((s.shards.take i).map (Shard.renew e) ++ s.shards.drop i).length := by simp; omega
    obtain ⟨g', e1, m1, u1⟩ := l13Renew_turn (F := F) (Z := Z) e s.group e u f1.nd (fun id hid => by rw [m.fl]; exact f1.own o1 hf id hid) hi'
    rw [mix_at _ _ hi hi', mix_set _ _ hi] at u1
    exact ⟨_, ⟨g', rfl, m.then m1, u1⟩, e1⟩) (s := ⟨[(1, .c (.int .i64 e)), (6, .c (.int .i64 (0 : Nat)))], [(4, 4, 0), (5, 5, 0)], [(4, [.int .i64 0, .int .i64 0, .nil]), (5, [.int .i64 s.group, .int .i64 e, x])], h1⟩) ⟨h1, rfl, Mk.refl _ _, by simpa using w⟩
  subst hs
  simp only [show ((0 : Nat) : Int) = 0 from rfl] at lp
  rw [List.take_length, List.drop_length, List.append_nil] at u
  have hul := u.len
  rw [List.length_map] at hul
  have hlt : ¬ (s.shards.length : Int) < s.shards.length := by omega
  rw [lp, loop_run]
  conv in (codeF _ _ r318L0 _) => unfold r318L0
  simp only [run0, run1, run2, run3, run4, noSlot, ownS, ownK, memN, RO.dst, lk, drop, forget, number, Nat.reduceBEq, cut?, splice?, builds, Nat.reduceAdd, Nat.reduceLeDiff, ↓reduceIte, reduceCtorEq, qqa, qqb, qqc, qqd, qqe, qqf, qqg, qqh, qqi, qqj, qqk, qql, qqm, qqn, qqo, qqp, qqq, qqr, qqs, qqt, qqu, qqv, qqw, qqx, qqy, hul, hlt]
  exact ⟨_, _, _, rfl, o1.turned m f1, ⟨_, _, rfl, rfl, u⟩, f1⟩
end
end Go.Proofs.Ytgfclcpnefinoaa.A
namespace Go.Proofs.Ytgfclcpnefinoaa.A
open Go
set_option linter.unusedSimpArgs false
set_option linter.unusedVariables false
def Store.frozen (s : Store) (i : Nat) (e : Int) : Store := { s with shards := s.shards.set i { Shard.at_ s.shards i with state := 1, epoch := e } }
def freezeShard (s : Store) (lo e : Int) : Store × Bool := bif s.next e && decide (0 ≤ findAt s.shards lo 0) then ((s.frozen (findAt s.shards lo 0).toNat e).renew e, true) else (s, false)
theorem Store.renew_small {s : Store} (sm : s.Small) (e : Int) : (s.renew e).Small := by
  refine ⟨by simpa [Store.renew] using sm.1, fun a ha => ?_⟩
  obtain ⟨t, ht, rfl⟩ := List.mem_map.1 (show a ∈ s.shards.map (Shard.renew e) from ha)
  unfold Shard.renew
  cases (t.state == 0) <;> exact sm.2 t ht
theorem Store.frozen_small {s : Store} (sm : s.Small) {i : Nat} (hi : i < s.shards.length) (e : Int) : (s.frozen i e).Small := by
  refine ⟨by simpa [Store.frozen] using sm.1, fun a ha => ?_⟩
  rcases List.mem_or_eq_of_mem_set (show a ∈ s.shards.set i _ from ha) with h | h
  · exact sm.2 a h
  · subst h; exact Store.at_small sm hi
theorem freezeShard_small {s : Store} (sm : s.Small) (lo e : Int) : (freezeShard s lo e).1.Small := by
  unfold freezeShard
  cases h : (s.next e && decide (0 ≤ findAt s.shards lo 0)) with
  | false => exact sm
  | true =>
    simp only [Bool.and_eq_true, decide_eq_true_eq] at h
    obtain ⟨i, e', hi, _⟩ := findI_at h.2
    have e'' : findAt s.shards lo 0 = (i : Int) := e'
    simp only [cond_true, e'', Int.toNat_natCast]
    exact Store.renew_small (Store.frozen_small sm hi e) e
section
variable {F : Nat → Option RF} {Z : CallF} {h : Heap} {x : Cell} {xs : List Shard} {fp fq : List Nat} {cs : List Cell} {s : Store} {t : Shard}
theorem isNewEpoch_run (k : KI F) (v : Store.RI h cs s fp) (ok : s.Ok) (e : Int) : ∃ h', call F Z 319 [.agg cs, .c (.int .i64 e)] h = some (.c (.bool (s.next e)), h') ∧ On h h' := by
  obtain ⟨h1, e1, o1⟩ := isStore_run (Z := Z) k v ok
  obtain ⟨x, p, rfl, rfl, w⟩ := v
  refine ⟨h1, ?_, o1⟩
  rw [call_run F Z (k.i13.lk (g := 319) rfl) _ _ rfl]
  have hd : s.next e = (s.good && (decide (s.seen < e) && decide (e ≤ 1000000))) := rfl
  rw [hd]
  generalize s.good = gd at *
  simp only [run0, run1, run2, run3, run4, noSlot, ownS, ownK, memN, RO.dst, lk, drop, forget, number, Nat.reduceBEq, cut?, splice?, builds, Nat.reduceAdd, Nat.reduceLeDiff, ↓reduceIte, reduceCtorEq, qqa, qqb, qqc, qqd, qqe, qqf, qqg, qqh, qqi, qqj, qqk, qql, qqm, qqn, qqo, qqp, qqq, qqr, qqs, qqt, qqu, qqv, qqw, qqx, qqy, e1]
  cases gd with
  | false => simp only [run0, run1, run2, run3, run4, noSlot, ownS, ownK, memN, RO.dst, lk, drop, forget, number, Nat.reduceBEq, cut?, splice?, builds, Nat.reduceAdd, Nat.reduceLeDiff, ↓reduceIte, reduceCtorEq, qqa, qqb, qqc, qqd, qqe, qqf, qqg, qqh, qqi, qqj, qqk, qql, qqm, qqn, qqo, qqp, qqq, qqr, qqs, qqt, qqu, qqv, qqw, qqx, qqy, Bool.false_and]
  | true =>
    simp only [run0, run1, run2, run3, run4, noSlot, ownS, ownK, memN, RO.dst, lk, drop, forget, number, Nat.reduceBEq, cut?, splice?, builds, Nat.reduceAdd, Nat.reduceLeDiff, ↓reduceIte, reduceCtorEq, qqa, qqb, qqc, qqd, qqe, qqf, qqg, qqh, qqi, qqj, qqk, qql, qqm, qqn, qqo, qqp, qqq, qqr, qqs, qqt, qqu, qqv, qqw, qqx, qqy]
    (repeat' ((first | (rw [gF_if]; split) | (rw [condC_if]; split) | (rw [pickR_if]; split)) <;> (rename_i hh; (try simp only [Bool.not_eq_true, decide_eq_true_eq] at hh); simp only [hh, run0, run1, run2, run3, run4, noSlot, ownS, ownK, memN, RO.dst, lk, drop, forget, number, Nat.reduceBEq, cut?, splice?, builds, Nat.reduceAdd, Nat.reduceLeDiff, ↓reduceIte, reduceCtorEq, qqa, qqb, qqc, qqd, qqe, qqf, qqg, qqh, qqi, qqj, qqk, qql, qqm, qqn, qqo, qqp, qqq, qqr, qqs, qqt, qqu, qqv, qqw, qqx, qqy, e1]))) <;> simp_all
theorem l13Next_run (k : KS F) (v : Store.RI h cs s fp) (ok : s.Ok) (e : Int) : call F Z 316 [.agg cs, .c (.int .i64 e)] h = some (.c (.bool (s.next e)), h) := by
  have e1 := sStoreOk_run (Z := Z) k v ok
  obtain ⟨x, p, rfl, rfl, w⟩ := v
  rw [call_run F Z (k.s13.lk (g := 316) rfl) _ _ rfl]
  have hd : s.next e = (s.good && (decide (s.seen < e) && decide (e ≤ 1000000))) := rfl
  rw [hd]
  cases hg : s.good with
  | false =>
    rw [hg] at e1
    simp only [run0, run1, run2, run3, run4, noSlot, ownS, ownK, memN, RO.dst, lk, drop, forget, number, Nat.reduceBEq, cut?, splice?, builds, Nat.reduceAdd, Nat.reduceLeDiff, ↓reduceIte, reduceCtorEq, qqa, qqb, qqc, qqd, qqe, qqf, qqg, qqh, qqi, qqj, qqk, qql, qqm, qqn, qqo, qqp, qqq, qqr, qqs, qqt, qqu, qqv, qqw, qqx, qqy, e1, Bool.false_and]
  | true =>
    rw [hg] at e1
    have hs : inR s.seen 0 1000000 = true := by simp only [Store.good, Bool.and_eq_true] at hg; exact hg.2.1
    simp only [inR, Bool.and_eq_true, decide_eq_true_eq] at hs
    have hw : IntKind.i64.wrap (s.seen + 1) = s.seen + 1 := wrapI _ (by omega) (by omega)
    simp only [run0, run1, run2, run3, run4, noSlot, ownS, ownK, memN, RO.dst, lk, drop, forget, number, Nat.reduceBEq, cut?, splice?, builds, Nat.reduceAdd, Nat.reduceLeDiff, ↓reduceIte, reduceCtorEq, qqa, qqb, qqc, qqd, qqe, qqf, qqg, qqh, qqi, qqj, qqk, qql, qqm, qqn, qqo, qqp, qqq, qqr, qqs, qqt, qqu, qqv, qqw, qqx, qqy, e1, hw, l01In_run k.s01]
    have : inR e (s.seen + 1) 1000000 = (true && (decide (s.seen < e) && decide (e ≤ 1000000))) := by
      simp only [inR, Bool.true_and]
      congr 1
    rw [this]
theorem SlR.freeze (w : SlR 16 Shard.RI h x s.shards fp) (nd : fp.Nodup) (hfl : ∀ id, id ∈ fp → h.floor ≤ id) {i : Nat} (hi : i < s.shards.length) (e : Int) :
    ∃ g1 g2, storeP h x.sid i 2 [.int .i64 1] = some g1 ∧ storeP g1 x.sid i 3 [.int .i64 e] = some g2 ∧ Mk h g2 fp ∧ SlR 16 Shard.RI g2 x (s.frozen i e).shards fp := by
  obtain ⟨r, f, rows, hR, hs, hld, hself, hst, hl2, fin⟩ := w.putRow Shard.okI nd hfl hi
  obtain ⟨x1, p1, x2, p2, rfl, rfl, w1, w2⟩ := hR
  obtain ⟨f1, f2⟩ := fin [.int .u64 s.shards[i].lo, .int .u64 s.shards[i].hi, .int .i64 1, .int .i64 e, x1, x2] { s.shards[i] with state := 1, epoch := e } ⟨x1, p1, x2, p2, rfl, rfl, w1, w2⟩
  have h1 := hst [.int .u64 s.shards[i].lo, .int .u64 s.shards[i].hi, .int .i64 s.shards[i].state, .int .i64 s.shards[i].epoch, x1, x2] 2 [.int .i64 1]
  rw [hself] at h1
  have h2 := hst [.int .u64 s.shards[i].lo, .int .u64 s.shards[i].hi, .int .i64 1, .int .i64 s.shards[i].epoch, x1, x2] 3 [.int .i64 e]
  refine ⟨_, _, h1, h2, f2, ?_⟩
  have : (s.frozen i e).shards = s.shards.set i { s.shards[i] with state := 1, epoch := e } := by simp only [Store.frozen, Shard.at_get hi]
  rw [this]
  exact f1
set_option maxHeartbeats 1000000 in
theorem FreezeShard_c (k : KI F) (hL : Has F tLibslicesIndexFuncimplShardimplShard) (hf : h.floor ≤ h.next) (v : Store.RI h cs s fp) (lo e : Int) (ok : s.Ok) (sm : s.Small) :
    ∃ cs' h' fq, call F Z 301 [.agg cs, .c (.int .u64 lo), .c (.int .i64 e)] h = some (.tup [.agg cs', .c (.bool (freezeShard s lo e).2)], h') ∧ On h h' ∧ Store.RI h' cs' (freezeShard s lo e).1 fq ∧ Fre h fq := by
  obtain ⟨l1, l2, l3⟩ := Store.lenI v
  obtain ⟨cs1, h1, fq, e1, o1, v1, f1⟩ := copyStore_c (Z := Z) k hf v sm
  obtain ⟨h2, e2, o2⟩ := shardAt_on (Z := Z) k.i13 hL (Store.okI.on v o1) lo 0
  obtain ⟨h3, e3, o3⟩ := isNewEpoch_run (Z := Z) k (Store.okI.on (Store.okI.on v o1) o2) ok e
  have o13 := (o1.trans o2).trans o3
  have v3 := Store.okI.on (Store.okI.on v1 o2) o3
  rw [call_run F Z (k.i13.lk (g := 301) rfl) _ _ rfl]
  have hd : freezeShard s lo e = bif s.next e && decide (0 ≤ findAt s.shards lo 0) then ((s.frozen (findAt s.shards lo 0).toNat e).renew e, true) else (s, false) := rfl
  obtain ⟨x, p, rfl, hp, w⟩ := v3
  subst hp
  cases hn : s.next e with
  | false =>
    rw [hn] at e3
    have hd' : freezeShard s lo e = (s, false) := by rw [hd, hn]; rfl
    rw [hd']
    simp only [run0, run1, run2, run3, run4, noSlot, ownS, ownK, memN, RO.dst, lk, drop, forget, number, Nat.reduceBEq, cut?, splice?, builds, Nat.reduceAdd, Nat.reduceLeDiff, ↓reduceIte, reduceCtorEq, qqa, qqb, qqc, qqd, qqe, qqf, qqg, qqh, qqi, qqj, qqk, qql, qqm, qqn, qqo, qqp, qqq, qqr, qqs, qqt, qqu, qqv, qqw, qqx, qqy, l1, l2, l3, e1, e2, e3]
    exact ⟨_, _, _, rfl, o13, ⟨x, _, rfl, rfl, w⟩, f1⟩
  | true =>
    rw [hn] at e3
    rcases w.found (fun t => (t.lo == lo) && (t.state == 0)) with q | ⟨i, q, hi, _, hx, _⟩
    · change findAt s.shards lo 0 = -1 at q
      have hd' : freezeShard s lo e = (s, false) := by rw [hd, hn, q]; rfl
      rw [hd']
      rw [q] at e2
      simp only [run0, run1, run2, run3, run4, noSlot, ownS, ownK, memN, RO.dst, lk, drop, forget, number, Nat.reduceBEq, cut?, splice?, builds, Nat.reduceAdd, Nat.reduceLeDiff, ↓reduceIte, reduceCtorEq, qqa, qqb, qqc, qqd, qqe, qqf, qqg, qqh, qqi, qqj, qqk, qql, qqm, qqn, qqo, qqp, qqq, qqr, qqs, qqt, qqu, qqv, qqw, qqx, qqy, l1, l2, l3, e1, e2, e3, Int.reduceLT, Int.reduceNeg]
      exact ⟨_, _, _, rfl, o13, ⟨x, _, rfl, rfl, w⟩, f1⟩
    · change findAt s.shards lo 0 = (i : Int) at q
      have hd' : freezeShard s lo e = ((s.frozen i e).renew e, true) := by
        rw [hd, hn, q]
        have : decide (0 ≤ (i : Int)) = true := by simp
        rw [this]; rfl
      rw [hd']
      rw [q] at e2
      obtain ⟨g1, g2, s1, s2, mk, w2⟩ := w.freeze f1.nd (f1.own o13 hf) hi e
      obtain ⟨cs5, h5, e5, mk5, v5⟩ := renewed_c (Z := Z) k (s := s.frozen i e) ⟨x, _, rfl, rfl, w2⟩ f1.nd (fun id hid => by rw [mk.fl]; exact f1.own o13 hf id hid) e
      obtain ⟨n1, n2, n3⟩ := Store.lenI v5
      have g0 : ¬ (i : Int) < 0 := by omega
      change call F Z 321 [.agg [.int .i64 s.group, .int .i64 s.seen, x], _] g2 = _ at e5
      simp only [run0, run1, run2, run3, run4, noSlot, ownS, ownK, memN, RO.dst, lk, drop, forget, number, Nat.reduceBEq, cut?, splice?, builds, Nat.reduceAdd, Nat.reduceLeDiff, ↓reduceIte, reduceCtorEq, qqa, qqb, qqc, qqd, qqe, qqf, qqg, qqh, qqi, qqj, qqk, qql, qqm, qqn, qqo, qqp, qqq, qqr, qqs, qqt, qqu, qqv, qqw, qqx, qqy, l1, l2, l3, e1, e2, e3, g0, hx, s1, s2, e5, n1, n2, n3]
      exact ⟨_, _, _, rfl, o13.turned (mk.then mk5) f1, v5, f1⟩
set_option maxHeartbeats 1000000 in
theorem sFreezeShard_c (k : KS F) (hf : h.floor ≤ h.next) (v : Store.RI h cs s fp) (lo e : Int) (ok : s.Ok) (sm : s.Small) :
    ∃ cs' h' fq, call F Z 300 [.agg cs, .c (.int .u64 lo), .c (.int .i64 e)] h = some (.tup [.agg cs', .c (.bool (freezeShard s lo e).2)], h') ∧ On h h' ∧ Store.RI h' cs' (freezeShard s lo e).1 fq ∧ Fre h fq := by
  obtain ⟨l1, l2, l3⟩ := Store.lenI v
  obtain ⟨cs1, h1, fq, e1, o1, v1, f1⟩ := l13Copy_c (Z := Z) k hf v sm
  have e2 := l13At_run (Z := Z) k.s13 (Store.okI.on v o1) lo 0
  have e3 := l13Next_run (Z := Z) k (Store.okI.on v o1) ok e
  rw [call_run F Z (k.s13.lk (g := 300) rfl) _ _ rfl]
  have hd : freezeShard s lo e = bif s.next e && decide (0 ≤ findAt s.shards lo 0) then ((s.frozen (findAt s.shards lo 0).toNat e).renew e, true) else (s, false) := rfl
  obtain ⟨x, p, rfl, hp, w⟩ := v1
  subst hp
  cases hn : s.next e with
  | false =>
    rw [hn] at e3
    have hd' : freezeShard s lo e = (s, false) := by rw [hd, hn]; rfl
    rw [hd']
    simp only [run0, run1, run2, run3, run4, noSlot, ownS, ownK, memN, RO.dst, lk, drop, forget, number, Nat.reduceBEq, cut?, splice?, builds, Nat.reduceAdd, Nat.reduceLeDiff, ↓reduceIte, reduceCtorEq, qqa, qqb, qqc, qqd, qqe, qqf, qqg, qqh, qqi, qqj, qqk, qql, qqm, qqn, qqo, qqp, qqq, qqr, qqs, qqt, qqu, qqv, qqw, qqx, qqy, l1, l2, l3, e1, e2, e3]
    exact ⟨_, _, _, rfl, o1, ⟨x, _, rfl, rfl, w⟩, f1⟩
  | true =>
    rw [hn] at e3
    rcases w.found (fun t => (t.lo == lo) && (t.state == 0)) with q | ⟨i, q, hi, _, hx, _⟩
    · change findAt s.shards lo 0 = -1 at q
      have hd' : freezeShard s lo e = (s, false) := by rw [hd, hn, q]; rfl
      rw [hd']
      rw [q] at e2
      simp only [run0, run1, run2, run3, run4, noSlot, ownS, ownK, memN, RO.dst, lk, drop, forget, number, Nat.reduceBEq, cut?, splice?, builds, Nat.reduceAdd, Nat.reduceLeDiff, ↓reduceIte, reduceCtorEq, qqa, qqb, qqc, qqd, qqe, qqf, qqg, qqh, qqi, qqj, qqk, qql, qqm, qqn, qqo, qqp, qqq, qqr, qqs, qqt, qqu, qqv, qqw, qqx, qqy, l1, l2, l3, e1, e2, e3, Int.reduceLT, Int.reduceNeg]
      exact ⟨_, _, _, rfl, o1, ⟨x, _, rfl, rfl, w⟩, f1⟩
    · change findAt s.shards lo 0 = (i : Int) at q
      have hd' : freezeShard s lo e = ((s.frozen i e).renew e, true) := by
        rw [hd, hn, q]
        have : decide (0 ≤ (i : Int)) = true := by simp
        rw [this]; rfl
      rw [hd']
      rw [q] at e2
      obtain ⟨g1, g2, s1, s2, mk, w2⟩ := w.freeze f1.nd (f1.own o1 hf) hi e
      have o2 := o1.turned mk f1
      obtain ⟨cs5, h5, f5, e5, o5, v5, r5⟩ := l13Renew_c (Z := Z) k (s := s.frozen i e) (o2.le hf) ⟨x, _, rfl, rfl, w2⟩ (Store.frozen_small sm hi e) e
      obtain ⟨n1, n2, n3⟩ := Store.lenI v5
      have g0 : ¬ (i : Int) < 0 := by omega
      change call F Z 318 [.agg [.int .i64 s.group, .int .i64 s.seen, x], _] g2 = _ at e5
      simp only [run0, run1, run2, run3, run4, noSlot, ownS, ownK, memN, RO.dst, lk, drop, forget, number, Nat.reduceBEq, cut?, splice?, builds, Nat.reduceAdd, Nat.reduceLeDiff, ↓reduceIte, reduceCtorEq, qqa, qqb, qqc, qqd, qqe, qqf, qqg, qqh, qqi, qqj, qqk, qql, qqm, qqn, qqo, qqp, qqq, qqr, qqs, qqt, qqu, qqv, qqw, qqx, qqy, l1, l2, l3, e1, e2, e3, g0, hx, s1, s2, e5, n1, n2, n3]
      exact ⟨_, _, _, rfl, o2.trans o5, v5, ⟨fun id hid => Nat.le_trans o2.ext.1 (r5.lo id hid), r5.nd⟩⟩
end
end Go.Proofs.Ytgfclcpnefinoaa.A
namespace Go.Proofs.Ytgfclcpnefinoaa.A
open Go
set_option linter.unusedSimpArgs false
set_option linter.unusedVariables false
theorem count_pre {α : Type} (p : α → Bool) : ∀ (xs : List α), (∀ i j (hj : j < xs.length) (hij : i < j), p xs[j] = true → p (xs[i]'(by omega)) = true) → ∀ i (hi : i < xs.length), (p xs[i] = true ↔ i < xs.countP p)
  | [], _, i, hi => absurd hi (Nat.not_lt_zero _)
  | a :: r, h, i, hi => by
    have hr : ∀ i j (hj : j < r.length) (hij : i < j), p r[j] = true → p (r[i]'(by omega)) = true := fun i j hj hij hp => by
      have := h (i + 1) (j + 1) (by simpa using hj) (by omega) (by simpa using hp)
      simpa using this
    cases ha : p a with
    | true =>
      rw [List.countP_cons_of_pos ha]
      cases i with
      | zero => simp [ha]
      | succ i =>
        have := count_pre p r hr i (by simpa using hi)
        simp only [List.getElem_cons_succ, this]; omega
    | false =>
      have h0 : ∀ j (hj : j < r.length), p r[j] = false := fun j hj => by
        cases hp : p r[j] with
        | false => rfl
        | true =>
          have := h 0 (j + 1) (by simpa using hj) (by omega) (by simpa using hp)
          simp [ha] at this
      have hc : r.countP p = 0 := List.countP_eq_zero.2 fun b hb => by
        obtain ⟨j, hj, rfl⟩ := List.mem_iff_getElem.1 hb
        simp [h0 j hj]
      rw [List.countP_cons_of_neg (by simp [ha]), hc]
      cases i with
      | zero => simp [ha]
      | succ i => simp [h0 i (by simpa using hi)]
theorem Store.fit_at {s : Store} (g : s.good = true) {j : Nat} (hj : j < s.shards.length) : s.fits j = true := by
  simp only [Store.good, Bool.and_eq_true, List.all_eq_true, List.mem_range] at g
  exact g.2.2.2 j hj
theorem Store.lo_hi {s : Store} (g : s.good = true) {j : Nat} (hj : j < s.shards.length) : s.shards[j].lo ≤ s.shards[j].hi := by
  have := Store.fit_at g hj
  simp only [Store.fits, Shard.at_get hj, Shard.good, Shard.head, Bool.and_eq_true, decide_eq_true_eq] at this
  omega
theorem Store.gap {s : Store} (g : s.good = true) {j : Nat} (hj : j + 1 < s.shards.length) : s.shards[j].hi < s.shards[j + 1].lo := by
  have := Store.fit_at g hj
  simp only [Store.fits, Bool.and_eq_true, Bool.or_eq_true, decide_eq_true_eq, beq_iff_eq] at this
  rcases this.2.2 with h | h
  · omega
  · simp only [Nat.add_sub_cancel] at h
    rw [Shard.at_get hj, Shard.at_get (by omega)] at h
    exact h
theorem Store.sorted {s : Store} (g : s.good = true) (i : Nat) : ∀ (d : Nat) (hj : i + d + 1 < s.shards.length), s.shards[i].hi < s.shards[i + d + 1].lo
  | 0, hj => Store.gap g hj
  | d + 1, hj => by
    have h1 := Store.sorted g i d (by omega)
    have h2 := Store.gap g (j := i + d + 1) hj
    have h3 := Store.lo_hi g (j := i + d + 1) (by omega)
    have e : i + (d + 1) + 1 = i + d + 1 + 1 := by omega
    simp only [e]
    omega
def Shard.over (x t : Shard) : Bool := decide (t.lo ≤ x.hi) && decide (x.lo ≤ t.hi)
def Shard.left (x t : Shard) : Bool := decide (t.lo < x.lo)
def Store.spot (s : Store) (x : Shard) : Nat := s.shards.countP x.left
def Shard.awake (x : Shard) : Shard := { x with state := 0 }
def Store.plus (s : Store) (x : Shard) : Store := { s with shards := s.shards.take (s.spot x) ++ [x.awake] ++ s.shards.drop (s.spot x) }
def installable (s : Store) (x : Shard) (e : Int) : Bool := s.next e && (x.good && ((x.state == 1) && (decide (x.epoch < e) && !((s.shards.length : Int) == 8))))
def installShard (s : Store) (x : Shard) (e : Int) : Store × Bool := bif installable s x e && !(s.shards.any x.over) then ((s.plus x).renew e, true) else (s, false)
theorem Store.spot_le (s : Store) (x : Shard) : s.spot x ≤ s.shards.length := List.countP_le_length
theorem Store.spot_iff {s : Store} (g : s.good = true) (x : Shard) {i : Nat} (hi : i < s.shards.length) : s.shards[i].lo < x.lo ↔ i < s.spot x := by
  have := count_pre x.left s.shards (fun i j hj hij hp => by
    obtain ⟨d, rfl⟩ : ∃ d, j = i + d + 1 := ⟨j - i - 1, by omega⟩
    have h1 := Store.sorted g i d hj
    have h2 := Store.lo_hi g (j := i) (by omega)
    simp only [Shard.left, decide_eq_true_eq] at hp ⊢
    omega) i hi
  simp only [Shard.left, decide_eq_true_eq] at this
  exact this
theorem Store.spot_gt {s : Store} (g : s.good = true) {x : Shard} (gx : x.good = true) (ho : s.shards.any x.over = false) {i : Nat} (hi : i < s.shards.length) : x.lo < s.shards[i].lo ↔ s.spot x ≤ i := by
  have h1 := Store.spot_iff g x hi
  have h2 := Store.lo_hi g hi
  have h3 : x.lo ≤ x.hi := by
    simp only [Shard.good, Shard.head, Bool.and_eq_true, decide_eq_true_eq] at gx
    omega
  have h4 : x.over s.shards[i] = false := by
    rw [List.any_eq_false] at ho
    simpa using ho _ (List.getElem_mem hi)
  simp only [Shard.over, Bool.and_eq_false_iff, decide_eq_false_iff_not] at h4
  omega
theorem Store.plus_small {s : Store} (sm : s.Small) {x : Shard} (sx : x.Small) (hl : s.shards.length ≤ 8) : (s.plus x).Small := by
  refine ⟨?_, fun a ha => ?_⟩
  · simp only [Store.plus, List.length_append, List.length_take, List.length_drop, List.length_cons, List.length_nil]; omega
  · simp only [Store.plus, List.mem_append, List.mem_singleton] at ha
    rcases ha with (ha | ha) | ha
    · exact sm.2 a (List.mem_of_mem_take ha)
    · subst ha; exact sx
    · exact sm.2 a (List.mem_of_mem_drop ha)
theorem installShard_small {s : Store} (sm : s.Small) {x : Shard} (sx : x.Small) (e : Int) : (installShard s x e).1.Small := by
  unfold installShard
  cases h : (installable s x e && !(s.shards.any x.over)) with
  | false => exact sm
  | true =>
    refine Store.renew_small (Store.plus_small sm sx ?_) e
    simp only [installable, Store.next, Store.good, Bool.and_eq_true, decide_eq_true_eq] at h
    omega
def Store.part (s : Store) (y : Shard) (k i : Nat) : List Shard := if k < i then s.shards.take k ++ [y] ++ (s.shards.take i).drop k else s.shards.take i
theorem Store.part_no {s : Store} {y : Shard} {k i : Nat} (hi : i < s.shards.length) (h : ¬ k ≤ i) : s.part y k (i + 1) = s.part y k i ++ [s.shards[i]] := by
  simp only [Store.part]
  rw [if_neg (by omega), if_neg (by omega), List.take_add_one, List.getElem?_eq_getElem hi]; rfl
theorem Store.part_at {s : Store} {y : Shard} {i : Nat} (hi : i < s.shards.length) : s.part y i (i + 1) = s.part y i i ++ [y] ++ [s.shards[i]] := by
  simp only [Store.part]
  rw [if_pos (by omega), if_neg (by omega), List.take_add_one, List.getElem?_eq_getElem hi, List.drop_append_of_le_length (by rw [List.length_take]; omega), List.drop_eq_nil_of_le (by rw [List.length_take]; omega)]; rfl
theorem Store.part_yes {s : Store} {y : Shard} {k i : Nat} (hi : i < s.shards.length) (h : k < i) : s.part y k (i + 1) = s.part y k i ++ [s.shards[i]] := by
  simp only [Store.part]
  rw [if_pos (by omega), if_pos h, List.take_add_one, List.getElem?_eq_getElem hi, List.drop_append_of_le_length (by rw [List.length_take]; omega), ← List.append_assoc]; rfl
theorem Store.part_end {s : Store} {y : Shard} {k : Nat} (h : k < s.shards.length) : s.part y k s.shards.length = s.shards.take k ++ [y] ++ s.shards.drop k := by
  simp only [Store.part]; rw [if_pos h, List.take_length]
theorem Store.part_last {s : Store} {y : Shard} {k : Nat} (h : k = s.shards.length) : s.part y k s.shards.length ++ [y] = s.shards.take k ++ [y] ++ s.shards.drop k := by
  simp only [Store.part]; subst h; rw [if_neg (by omega), List.take_length, List.drop_length, List.append_nil]
theorem Store.part_len (s : Store) (y : Shard) (k i : Nat) : (s.part y k i).length ≤ s.shards.length + 1 := by
  simp only [Store.part]
  split <;> simp only [List.length_append, List.length_take, List.length_drop, List.length_cons, List.length_nil] <;> omega
end Go.Proofs.Ytgfclcpnefinoaa.A
namespace Go.Proofs.Ytgfclcpnefinoaa.A
open Go
set_option linter.unusedSimpArgs false
set_option linter.unusedVariables false
section
variable {α : Type} {R : Rel α} {tag : Nat} {h0 h g : Heap} {x y : Cell} {xs ys : List α} {fp fq : List Nat}
theorem AllR.take : ∀ {rows : List (List Cell)} {xs : List α} {fps : List (List Nat)}, AllR R h rows xs fps → ∀ (i : Nat), AllR R h (rows.take i) (xs.take i) (fps.take i)
  | [], [], [], _, i => by simp only [List.take_nil]; trivial
  | _ :: _, _ :: _, _ :: _, _, 0 => trivial
  | _ :: _, _ :: _, _ :: _, ⟨w0, w⟩, i + 1 => ⟨w0, AllR.take w i⟩
  | [], [], _ :: _, w, _ => w.elim
  | [], _ :: _, _, w, _ => w.elim
  | _ :: _, [], _, w, _ => w.elim
  | _ :: _, _ :: _, [], w, _ => w.elim
theorem AllR.drop : ∀ {rows : List (List Cell)} {xs : List α} {fps : List (List Nat)}, AllR R h rows xs fps → ∀ (i : Nat), AllR R h (rows.drop i) (xs.drop i) (fps.drop i)
  | [], [], [], _, i => by simp only [List.drop_nil]; trivial
  | _ :: _, _ :: _, _ :: _, w, 0 => w
  | _ :: _, _ :: _, _ :: _, ⟨w0, w⟩, i + 1 => AllR.drop w i
  | [], [], _ :: _, w, _ => w.elim
  | [], _ :: _, _, w, _ => w.elim
  | _ :: _, [], _, w, _ => w.elim
  | _ :: _, _ :: _, [], w, _ => w.elim
theorem flat_parts {fps : List (List Nat)} (i : Nat) : (fps.take i).flatten ++ (fps.drop i).flatten = fps.flatten := by rw [← List.flatten_append, List.take_append_drop]
structure Re (h g : Heap) (fp fq : List Nat) : Prop where
  le : h.next ≤ g.next
  fl : g.floor = h.floor
  get : ∀ id, id < h.next → id ∉ fp → g.get id = h.get id
  nd : fq.Nodup
  of : ∀ id, id ∈ fq → id ∈ fp ∨ h.next ≤ id
theorem Re.on (r : Re h g fp fq) (o : On h0 h) (f : Fre h0 fp) : On h0 g :=
  ⟨⟨Nat.le_trans o.ext.1 r.le, fun id hid => by rw [r.get id (Nat.lt_of_lt_of_le hid o.ext.1) (f.gt id hid)]; exact o.ext.2 id hid⟩, r.fl.trans o.fl⟩
theorem Re.fre (r : Re h g fp fq) (o : On h0 h) (f : Fre h0 fp) : Fre h0 fq :=
  ⟨fun id hid => by rcases r.of id hid with h1 | h1; exact f.lo id h1; exact Nat.le_trans o.ext.1 h1, r.nd⟩
theorem SlR.del (ok : RelOk R) (w : SlR tag R h x xs fp) (nd : fp.Nodup) (hfl : ∀ id, id ∈ fp → h.floor ≤ id) {i : Nat} (hi : i < xs.length) :
    ∃ y g fq, delF tag [.c x, .c (.int .i64 (i : Nat)), .c (.int .i64 ((i + 1 : Nat) : Int))] h = some (.c y, g) ∧ SlR tag R g y (xs.eraseIdx i) fq ∧ Re h g fp fq := by
  rcases w with ⟨hl, ⟨rfl, rfl, rfl⟩ | ⟨id, rows, fps, rfl, q1, q2, rfl, q3⟩⟩
  · exact absurd hi (Nat.not_lt_zero _)
  have hn := List.nodup_cons.1 nd
  have hrl := q3.len
  have hfid := hfl id (by simp)
  have hlen : (rows.take i ++ rows.drop (i + 1)).length = i + (xs.length - (i + 1)) := by simp only [List.length_append, List.length_take, List.length_drop, hrl]; omega
  have he : xs.eraseIdx i = xs.take i ++ xs.drop (i + 1) := List.eraseIdx_eq_take_drop_succ ..
  have hel : (xs.eraseIdx i).length = i + (xs.length - (i + 1)) := by rw [List.length_eraseIdx_of_lt hi]; omega
  have hflt := q3.lt ok
  have hsub : ∀ j, j ∈ (fps.take i ++ fps.drop (i + 1)).flatten → j ∈ fps.flatten := fun j hj => by
    rw [List.flatten_append, List.mem_append] at hj
    rw [← flat_parts (fps := fps) i, List.mem_append]
    rcases hj with hj | hj
    · exact .inl hj
    · right
      rw [List.mem_flatten] at hj ⊢
      obtain ⟨l, hl1, hl2⟩ := hj
      exact ⟨l, List.mem_of_mem_drop (i := 1) (by rw [List.drop_drop]; exact hl1), hl2⟩
  refine ⟨.sl tag h.next 0 (i + (xs.length - (i + 1))), (h.kill id).push (rows.take i ++ rows.drop (i + 1)), h.next :: (fps.take i ++ fps.drop (i + 1)).flatten, ?_, ?_, ?_⟩
  · simp only [delF, q1, Option.bind_some, Int.toNat_natCast]
    rw [if_pos ⟨trivial, trivial, hfid, by omega, by omega, by omega, hrl⟩]
  · refine ⟨by rw [hel]; omega, .inr ⟨h.next, rows.take i ++ rows.drop (i + 1), fps.take i ++ fps.drop (i + 1), by rw [hel], by simp [Heap.push, Heap.kill], by simp [Heap.push, Heap.kill], rfl, ?_⟩⟩
    rw [he]
    refine ((q3.take i).app (q3.drop (i + 1))).mv ok (by simp [Heap.push, Heap.kill]) fun j hj => ?_
    have hj' := hsub j hj
    have h1 := hflt j hj'
    rw [push_ne _ (by rw [kill_next]; omega), kill_ne (h := h) (k := id) (id := j) fun e => hn.1 (e ▸ hj')]
  · refine ⟨by simp [Heap.push, Heap.kill], rfl, fun j hj hjn => ?_, ?_, ?_⟩
    · rw [push_ne _ (by rw [kill_next]; omega), kill_ne (h := h) (k := id) (id := j) fun e => hjn (by rw [e]; exact List.mem_cons_self)]
    · rw [List.nodup_cons]
      refine ⟨fun hc => ?_, ?_⟩
      · have := hflt _ (hsub _ hc); omega
      · rw [List.flatten_append]
        have := hn.2
        rw [← flat_parts (fps := fps) i] at this
        obtain ⟨n1, n2, n3⟩ := List.nodup_append.1 this
        have hs2 : (fps.drop (i + 1)).flatten.Sublist (fps.drop i).flatten := by
          obtain ⟨_, f, _, e2, _⟩ := q3.at i hi
          rw [List.drop_eq_getElem_cons (List.getElem?_eq_some_iff.1 e2).1, List.flatten_cons]
          exact List.sublist_append_right _ _
        exact List.nodup_append.2 ⟨n1, n2.sublist hs2, fun a ha b hb => n3 a ha b (hs2.subset hb)⟩
    · intro j hj
      rcases List.mem_cons.1 hj with rfl | hj
      · exact .inr (Nat.le_refl _)
      · exact .inl (List.mem_cons_of_mem _ (hsub j hj))
theorem SlR.ins (ok : RelOk R) (w : SlR tag R h x xs fp) (nd : fp.Nodup) (hfl : ∀ id, id ∈ fp → h.floor ≤ id) (v : SlR tag R h y ys fq) (nq : fq.Nodup) (hfq : ∀ id, id ∈ fq → h.floor ≤ id) (hd : ∀ id, id ∈ fq → id ∉ fp) (hy : 0 < ys.length)
    {bytes : Nat} (hb : (xs.length + ys.length) * bytes ≤ 140737488355328) (hm : xs.length + ys.length ≤ maxLen) {i : Nat} (hi : i ≤ xs.length) :
    ∃ z g fr, insF tag bytes [.c x, .c (.int .i64 (i : Nat)), .c y] h = some (.c z, g) ∧ SlR tag R g z (xs.take i ++ ys ++ xs.drop i) fr ∧ Re h g (fp ++ fq) fr := by
  rcases v with ⟨hvl, ⟨rfl, rfl, rfl⟩ | ⟨idv, new, fps2, rfl, v1, v2, rfl, v3⟩⟩
  · exact absurd hy (Nat.not_lt_zero _)
  have hnv := List.nodup_cons.1 nq
  have hvrl := v3.len
  have hvlt := v3.lt ok
  have hfv := hfq idv (by simp)
  rcases w with ⟨hl, ⟨rfl, rfl, rfl⟩ | ⟨id, rows, fps, rfl, q1, q2, rfl, q3⟩⟩
  · have hi0 : i = 0 := by simpa using hi
    subst hi0
    simp only [List.length_nil, Nat.zero_add] at hb hm
    refine ⟨.sl tag h.next 0 ys.length, h.push new, h.next :: fps2.flatten, ?_, ?_, ?_⟩
    · simp only [insF]
      rw [if_pos ⟨trivial, trivial, hfv, hy⟩]
      simp only [v1, Option.bind_some]
      rw [if_pos hvrl, if_pos ⟨rfl, hb, hm⟩]
    · refine ⟨by simpa using hm, .inr ⟨h.next, new, fps2, by simp, by simp [Heap.push], by simp [Heap.push], rfl, ?_⟩⟩
      simp only [List.take_nil, List.drop_nil, List.nil_append, List.append_nil]
      exact v3.mv ok (by simp [Heap.push]) fun j hj => push_ne _ (by have := hvlt j hj; omega)
    · refine ⟨by simp [Heap.push], rfl, fun j hj _ => push_ne _ (by omega), List.nodup_cons.2 ⟨fun hc => by have := hvlt _ hc; omega, hnv.2⟩, fun j hj => ?_⟩
      rcases List.mem_cons.1 hj with rfl | hj
      · exact .inr (Nat.le_refl _)
      · exact .inl (by simp [hj])
  · have hn := List.nodup_cons.1 nd
    have hrl := q3.len
    have hflt := q3.lt ok
    have hfid := hfl id (by simp)
    have hne : id ≠ idv := fun e => hd idv (by simp) (by simp [e])
    refine ⟨.sl tag h.next 0 (xs.length + ys.length), (h.kill id).push (rows.take i ++ new ++ rows.drop i), h.next :: (fps.take i ++ fps2 ++ fps.drop i).flatten, ?_, ?_, ?_⟩
    · simp only [insF]
      rw [if_pos ⟨trivial, trivial, hfv, hy⟩]
      simp only [v1, Option.bind_some]
      rw [if_pos hvrl]
      simp only [q1, Option.bind_some, Int.toNat_natCast]
      rw [if_pos ⟨trivial, trivial, hfid, hne, by omega, by omega, hb, hm, hrl⟩]
    · have hlen : (xs.take i ++ ys ++ xs.drop i).length = xs.length + ys.length := by simp only [List.length_append, List.length_take, List.length_drop]; omega
      refine ⟨by rw [hlen]; exact hm, .inr ⟨h.next, rows.take i ++ new ++ rows.drop i, fps.take i ++ fps2 ++ fps.drop i, by rw [hlen], by simp [Heap.push, Heap.kill], by simp [Heap.push, Heap.kill], rfl, ?_⟩⟩
      refine (((q3.take i).app v3).app (q3.drop i)).mv ok (by simp [Heap.push, Heap.kill]) fun j hj => ?_
      have : j ∈ fps.flatten ∨ j ∈ fps2.flatten := by
        rw [List.flatten_append, List.flatten_append, List.mem_append, List.mem_append] at hj
        rw [← flat_parts (fps := fps) i, List.mem_append]
        rcases hj with (hj | hj) | hj
        · exact .inl (.inl hj)
        · exact .inr hj
        · exact .inl (.inr hj)
      rcases this with hj' | hj'
      · have h1 := hflt j hj'
        rw [push_ne _ (by rw [kill_next]; omega), kill_ne (h := h) (k := id) (id := j) fun e => hn.1 (e ▸ hj')]
      · have h1 := hvlt j hj'
        rw [push_ne _ (by rw [kill_next]; omega), kill_ne (h := h) (k := id) (id := j) fun e => hd j (by simp [hj']) (by rw [e]; simp)]
    · refine ⟨by simp [Heap.push, Heap.kill], rfl, fun j hj hjn => ?_, ?_, ?_⟩
      · rw [push_ne _ (by rw [kill_next]; omega), kill_ne (h := h) (k := id) (id := j) fun e => hjn (by rw [e]; simp)]
      · rw [List.nodup_cons]
        have hn2 := hn.2
        rw [← flat_parts (fps := fps) i] at hn2
        obtain ⟨n1, n2, n3⟩ := List.nodup_append.1 hn2
        have hd1 : ∀ a, a ∈ fps2.flatten → a ∉ fps.flatten := fun a ha hb => hd a (by simp [ha]) (by simp [hb])
        have hin1 : ∀ a, a ∈ (fps.take i).flatten → a ∈ fps.flatten := fun a ha => by rw [← flat_parts (fps := fps) i, List.mem_append]; exact .inl ha
        have hin2 : ∀ a, a ∈ (fps.drop i).flatten → a ∈ fps.flatten := fun a ha => by rw [← flat_parts (fps := fps) i, List.mem_append]; exact .inr ha
        rw [List.flatten_append, List.flatten_append]
        refine ⟨fun hc => ?_, ?_⟩
        · rw [List.mem_append, List.mem_append] at hc
          rcases hc with (hc | hc) | hc
          · have := hflt _ (hin1 _ hc); omega
          · have := hvlt _ hc; omega
          · have := hflt _ (hin2 _ hc); omega
        · refine List.nodup_append.2 ⟨List.nodup_append.2 ⟨n1, hnv.2, fun a ha b hb e => hd1 b hb (e ▸ hin1 a ha)⟩, n2, fun a ha b hb e => ?_⟩
          rcases List.mem_append.1 ha with ha | ha
          · exact n3 a ha b hb e
          · exact hd1 a ha (e ▸ hin2 b hb)
      · intro j hj
        rcases List.mem_cons.1 hj with rfl | hj
        · exact .inr (Nat.le_refl _)
        · left
          rw [List.flatten_append, List.flatten_append, List.mem_append, List.mem_append] at hj
          rw [List.mem_append]
          rcases hj with (hj | hj) | hj
          · exact .inl (List.mem_cons_of_mem _ (by rw [← flat_parts (fps := fps) i, List.mem_append]; exact .inl hj))
          · exact .inr (by simp [hj])
          · exact .inl (List.mem_cons_of_mem _ (by rw [← flat_parts (fps := fps) i, List.mem_append]; exact .inr hj))
end
end Go.Proofs.Ytgfclcpnefinoaa.A
namespace Go.Proofs.Ytgfclcpnefinoaa.A
open Go
set_option linter.unusedSimpArgs false
set_option linter.unusedVariables false
section
variable {F : Nat → Option RF} {Z : CallF} {h : Heap} {c : Cell} {xs : List Shard} {fp fq fr : List Nat} {cs ds : List Cell} {s : Store} {x t : Shard}
theorem count_take {α : Type} (p : α → Bool) {xs : List α} {i : Nat} (hi : i < xs.length) : (xs.take (i + 1)).countP p = (xs.take i).countP p + (if p xs[i] then 1 else 0) := by
  rw [List.take_add_one, List.getElem?_eq_getElem hi, List.countP_append]
  simp [List.countP_cons]
theorem inst_turn (w : SlR 16 Shard.RI h c s.shards fp) (e : Int) (b f y : Cell) {i : Nat} (hi : i < s.shards.length) :
    Turn (loop F Z [2, 4, 6, 8, 9, 42, 43, 44] r309L0 ⟨[(2, .c (.int .i64 e)), (9, .c (.int .i64 ((s.shards.take i).countP x.left : Nat))), (42, .c c), (43, .c (.int .i64 (s.shards.length : Nat))), (44, .c (.int .i64 (i : Nat)))], [(4, 4, 0), (6, 6, 0), (8, 8, 0)], [(4, x.cells b f), (6, [.int .i64 0, .int .i64 0, .nil]), (8, [.int .i64 s.group, .int .i64 s.seen, y])], h⟩)
      (loop F Z [2, 4, 6, 8, 9, 42, 43, 44] r309L0 ⟨[(2, .c (.int .i64 e)), (9, .c (.int .i64 ((s.shards.take (i + 1)).countP x.left : Nat))), (42, .c c), (43, .c (.int .i64 (s.shards.length : Nat))), (44, .c (.int .i64 ((i + 1 : Nat) : Int)))], [(4, 4, 0), (6, 6, 0), (8, 8, 0)], [(4, x.cells b f), (6, [.int .i64 0, .int .i64 0, .nil]), (8, [.int .i64 s.group, .int .i64 s.seen, y])], h⟩)
      (!x.over s.shards[i]) (fun s' => lk s'.env 7 = some (.c (.bool false)) ∧ lk s'.adr 6 = some (6, 0) ∧ lk s'.loc 6 = some [.int .i64 s.group, .int .i64 s.seen, y] ∧ s'.hp = h) := by
  have hle := w.le2
  have hlt : (i : Int) < s.shards.length := by omega
  have hws := wrapS i (by omega)
  have hxi := w.idx hi
  obtain ⟨r, q, hld, hR, _⟩ := w.one hi
  obtain ⟨x1, p1, x2, p2, rfl, _⟩ := hR
  have hct := count_take x.left hi
  have hcl : (s.shards.take i).countP x.left ≤ i := Nat.le_trans List.countP_le_length (by rw [List.length_take]; omega)
  have hwc := wrapS ((s.shards.take i).countP x.left) (by omega)
  rw [hct]
  generalize (s.shards.take i).countP x.left = n at *
  clear w hct
  generalize s.shards[i] = a at *
  rw [loop_run]
  conv in (codeF _ _ r309L0 _) => unfold r309L0
  have ho : x.over a = (decide (a.lo ≤ x.hi) && decide (x.lo ≤ a.hi)) := rfl
  have hl : x.left a = decide (a.lo < x.lo) := rfl
  simp only [Shard.cells]
  by_cases c1 : a.lo ≤ x.hi
  · by_cases c2 : x.lo ≤ a.hi
    · simp only [run0, run1, run2, run3, run4, noSlot, ownS, ownK, memN, RO.dst, lk, drop, forget, number, Nat.reduceBEq, cut?, splice?, builds, Nat.reduceAdd, Nat.reduceLeDiff, ↓reduceIte, reduceCtorEq, qqa, qqb, qqc, qqd, qqe, qqf, qqg, qqh, qqi, qqj, qqk, qql, qqm, qqn, qqo, qqp, qqq, qqr, qqs, qqt, qqu, qqv, qqw, qqx, qqy, hlt, hxi, hld, c1, c2]
      exact .inr ⟨by simp [ho, c1, c2], _, rfl, rfl, rfl, rfl, rfl⟩
    · by_cases c3 : a.lo < x.lo
      · simp only [run0, run1, run2, run3, run4, noSlot, ownS, ownK, memN, RO.dst, lk, drop, forget, number, Nat.reduceBEq, cut?, splice?, builds, Nat.reduceAdd, Nat.reduceLeDiff, ↓reduceIte, reduceCtorEq, qqa, qqb, qqc, qqd, qqe, qqf, qqg, qqh, qqi, qqj, qqk, qql, qqm, qqn, qqo, qqp, qqq, qqr, qqs, qqt, qqu, qqv, qqw, qqx, qqy, hlt, hxi, hld, c1, c2, c3, hwc, hws, hl, if_pos]
        exact .inl ⟨by simp [ho, c2], rfl⟩
      · simp only [run0, run1, run2, run3, run4, noSlot, ownS, ownK, memN, RO.dst, lk, drop, forget, number, Nat.reduceBEq, cut?, splice?, builds, Nat.reduceAdd, Nat.reduceLeDiff, ↓reduceIte, reduceCtorEq, qqa, qqb, qqc, qqd, qqe, qqf, qqg, qqh, qqi, qqj, qqk, qql, qqm, qqn, qqo, qqp, qqq, qqr, qqs, qqt, qqu, qqv, qqw, qqx, qqy, hlt, hxi, hld, c1, c2, c3, hwc, hws, hl, Bool.false_eq_true, if_false, Nat.add_zero]
        exact .inl ⟨by simp [ho, c2], rfl⟩
  · by_cases c3 : a.lo < x.lo
    · simp only [run0, run1, run2, run3, run4, noSlot, ownS, ownK, memN, RO.dst, lk, drop, forget, number, Nat.reduceBEq, cut?, splice?, builds, Nat.reduceAdd, Nat.reduceLeDiff, ↓reduceIte, reduceCtorEq, qqa, qqb, qqc, qqd, qqe, qqf, qqg, qqh, qqi, qqj, qqk, qql, qqm, qqn, qqo, qqp, qqq, qqr, qqs, qqt, qqu, qqv, qqw, qqx, qqy, hlt, hxi, hld, c1, c3, hwc, hws, hl, if_pos]
      exact .inl ⟨by simp [ho, c1], rfl⟩
    · simp only [run0, run1, run2, run3, run4, noSlot, ownS, ownK, memN, RO.dst, lk, drop, forget, number, Nat.reduceBEq, cut?, splice?, builds, Nat.reduceAdd, Nat.reduceLeDiff, ↓reduceIte, reduceCtorEq, qqa, qqb, qqc, qqd, qqe, qqf, qqg, qqh, qqi, qqj, qqk, qql, qqm, qqn, qqo, qqp, qqq, qqr, qqs, qqt, qqu, qqv, qqw, qqx, qqy, hlt, hxi, hld, c1, c3, hwc, hws, hl, Bool.false_eq_true, if_false, Nat.add_zero]
      exact .inl ⟨by simp [ho, c1], rfl⟩
theorem all_not {α : Type} (p : α → Bool) (xs : List α) : xs.all (fun a => !p a) = !xs.any p := by
  induction xs with
  | nil => rfl
  | cons a r ih => simp [ih, Bool.not_or]
theorem install_no {e : Int} (h : installable s x e = false) : installShard s x e = (s, false) := by simp [installShard, h]
theorem install_over {e : Int} (h : s.shards.any x.over = true) : installShard s x e = (s, false) := by simp [installShard, h]
theorem install_yes {e : Int} (h : installable s x e = true) (h2 : s.shards.any x.over = false) : installShard s x e = ((s.plus x).renew e, true) := by simp [installShard, h, h2]
set_option maxHeartbeats 2000000 in
theorem InstallShard_c (k : KI F) (pr : PrimAt F Z 332 (insF 16 80)) (hf : h.floor ≤ h.next) (v : Store.RI h cs s fp) (u : Shard.RI h ds x fq) (e : Int) (ok : s.Ok) (sm : s.Small) (okx : x.Ok) (smx : x.Small) :
    ∃ cs' h' fq, call F Z 309 [.agg cs, .agg ds, .c (.int .i64 e)] h = some (.tup [.agg cs', .c (.bool (installShard s x e).2)], h') ∧ On h h' ∧ Store.RI h' cs' (installShard s x e).1 fq ∧ Fre h fq := by
  obtain ⟨l1, l2, l3⟩ := Store.lenI v
  obtain ⟨d1, d2, d3⟩ := Shard.lenI u
  obtain ⟨cs1, h1, fr, e1, o1, v1, f1⟩ := copyStore_c (Z := Z) k hf v sm
  obtain ⟨h2, e2, o2⟩ := isNewEpoch_run (Z := Z) k (Store.okI.on v o1) ok e
  obtain ⟨h3, e3, o3⟩ := isShard_run (Z := Z) k.i10 k.i13 k.c1 k.c2 k.c3 k.c4 k.c5 k.li k.lc (Shard.okI.on (Shard.okI.on u o1) o2) okx
  rw [call_run F Z (k.i13.lk (g := 309) rfl) _ _ rfl]
  cases hn : s.next e with
  | false =>
    rw [hn] at e2
    rw [install_no (by simp [installable, hn])]
    obtain ⟨y, p, rfl, hp, w⟩ := Store.okI.on v1 o2
    subst hp
    simp only [run0, run1, run2, run3, run4, noSlot, ownS, ownK, memN, RO.dst, lk, drop, forget, number, Nat.reduceBEq, cut?, splice?, builds, Nat.reduceAdd, Nat.reduceLeDiff, ↓reduceIte, reduceCtorEq, qqa, qqb, qqc, qqd, qqe, qqf, qqg, qqh, qqi, qqj, qqk, qql, qqm, qqn, qqo, qqp, qqq, qqr, qqs, qqt, qqu, qqv, qqw, qqx, qqy, l1, l2, l3, d1, d2, d3, e1, e2]
    exact ⟨_, _, _, rfl, o1.trans o2, ⟨y, _, rfl, rfl, w⟩, f1⟩
  | true =>
    rw [hn] at e2
    have o13 := (o1.trans o2).trans o3
    obtain ⟨y, p, rfl, hp, w⟩ := Store.okI.on (Store.okI.on v1 o2) o3
    subst hp
    cases gd : x.good with
    | false =>
      rw [gd] at e3
      rw [install_no (by simp [installable, gd])]
      simp only [run0, run1, run2, run3, run4, noSlot, ownS, ownK, memN, RO.dst, lk, drop, forget, number, Nat.reduceBEq, cut?, splice?, builds, Nat.reduceAdd, Nat.reduceLeDiff, ↓reduceIte, reduceCtorEq, qqa, qqb, qqc, qqd, qqe, qqf, qqg, qqh, qqi, qqj, qqk, qql, qqm, qqn, qqo, qqp, qqq, qqr, qqs, qqt, qqu, qqv, qqw, qqx, qqy, l1, l2, l3, d1, d2, d3, e1, e2, e3]
      exact ⟨_, _, _, rfl, o13, ⟨y, _, rfl, rfl, w⟩, f1⟩
    | true =>
      rw [gd] at e3
      have v3 := Store.okI.on v o13
      have u3 := Shard.okI.on u o13
      obtain ⟨xc, p, rfl, hp, wx⟩ := v3
      subst hp
      obtain ⟨cs4, h4, ft, e4, o4, u4, f4⟩ := copyShard_c (Z := Z) k.i10 k.i13 (o13.le hf) u3 smx
      obtain ⟨b, pb, f, pf, rfl, hq, _⟩ := u3
      have hwl := wx.len
      by_cases c1 : x.state = 1
      case neg =>
        have hb : (x.state != 1) = true := by simpa using c1
        rw [install_no (by simp [installable, c1])]
        simp only [run0, run1, run2, run3, run4, noSlot, ownS, ownK, memN, RO.dst, lk, drop, forget, number, Nat.reduceBEq, cut?, splice?, builds, Nat.reduceAdd, Nat.reduceLeDiff, ↓reduceIte, reduceCtorEq, qqa, qqb, qqc, qqd, qqe, qqf, qqg, qqh, qqi, qqj, qqk, qql, qqm, qqn, qqo, qqp, qqq, qqr, qqs, qqt, qqu, qqv, qqw, qqx, qqy, l1, l2, l3, d1, d2, d3, e1, e2, e3, hb]
        exact ⟨_, _, _, rfl, o13, ⟨y, _, rfl, rfl, w⟩, f1⟩
      have hb : (x.state != 1) = false := by simpa using c1
      by_cases c2 : e ≤ x.epoch
      case pos =>
        have c2' : ¬ x.epoch < e := by omega
        rw [install_no (by simp [installable, c2'])]
        simp only [run0, run1, run2, run3, run4, noSlot, ownS, ownK, memN, RO.dst, lk, drop, forget, number, Nat.reduceBEq, cut?, splice?, builds, Nat.reduceAdd, Nat.reduceLeDiff, ↓reduceIte, reduceCtorEq, qqa, qqb, qqc, qqd, qqe, qqf, qqg, qqh, qqi, qqj, qqk, qql, qqm, qqn, qqo, qqp, qqq, qqr, qqs, qqt, qqu, qqv, qqw, qqx, qqy, l1, l2, l3, d1, d2, d3, e1, e2, e3, hb, c2]
        exact ⟨_, _, _, rfl, o13, ⟨y, _, rfl, rfl, w⟩, f1⟩
      by_cases c3 : ((s.shards.length : Int) == 8) = true
      case pos =>
        rw [install_no (by simp [installable, c3])]
        simp only [run0, run1, run2, run3, run4, noSlot, ownS, ownK, memN, RO.dst, lk, drop, forget, number, Nat.reduceBEq, cut?, splice?, builds, Nat.reduceAdd, Nat.reduceLeDiff, ↓reduceIte, reduceCtorEq, qqa, qqb, qqc, qqd, qqe, qqf, qqg, qqh, qqi, qqj, qqk, qql, qqm, qqn, qqo, qqp, qqq, qqr, qqs, qqt, qqu, qqv, qqw, qqx, qqy, l1, l2, l3, d1, d2, d3, e1, e2, e3, hb, c2, hwl, c3]
        exact ⟨_, _, _, rfl, o13, ⟨y, _, rfl, rfl, w⟩, f1⟩
      have c3' : ((s.shards.length : Int) == 8) = false := by simpa using c3
      have hi : installable s x e = true := by
        have : x.epoch < e := by omega
        simp only [installable, hn, gd, c1, c3', this, decide_true, Bool.true_and, Bool.not_false, beq_self_eq_true]
      simp only [run0, run1, run2, run3, run4, noSlot, ownS, ownK, memN, RO.dst, lk, drop, forget, number, Nat.reduceBEq, cut?, splice?, builds, Nat.reduceAdd, Nat.reduceLeDiff, ↓reduceIte, reduceCtorEq, qqa, qqb, qqc, qqd, qqe, qqf, qqg, qqh, qqi, qqj, qqk, qql, qqm, qqn, qqo, qqp, qqq, qqr, qqs, qqt, qqu, qqv, qqw, qqx, qqy, l1, l2, l3, d1, d2, d3, e1, e2, e3, hb, c2, hwl, c3']
      have key := loop_all (F := F) (Z := Z) (live := [2, 4, 6, 8, 9, 42, 43, 44]) (b := r309L0) s.shards (fun i => ⟨[(2, .c (.int .i64 e)), (9, .c (.int .i64 ((s.shards.take i).countP x.left : Nat))), (42, .c xc), (43, .c (.int .i64 (s.shards.length : Nat))), (44, .c (.int .i64 (i : Nat)))], [(4, 4, 0), (6, 6, 0), (8, 8, 0)], [(4, x.cells b f), (6, [.int .i64 0, .int .i64 0, .nil]), (8, [.int .i64 s.group, .int .i64 s.seen, y])], h3⟩) (fun a => !x.over a) _ (fun i hi => inst_turn wx e b f y hi)
      rw [all_not] at key
      simp only [List.take_zero, List.countP_nil, show ((0 : Nat) : Int) = 0 from rfl, Shard.cells] at key
      rcases key with ⟨a1, a2⟩ | ⟨a1, s', a2, a3, a4, a5, a6⟩
      case inr =>
        rw [install_over (by simpa using a1), a2]
        simp only [run0, run1, run2, run3, run4, noSlot, ownS, ownK, memN, RO.dst, lk, drop, forget, number, Nat.reduceBEq, cut?, splice?, builds, Nat.reduceAdd, Nat.reduceLeDiff, ↓reduceIte, reduceCtorEq, qqa, qqb, qqc, qqd, qqe, qqf, qqg, qqh, qqi, qqj, qqk, qql, qqm, qqn, qqo, qqp, qqq, qqr, qqs, qqt, qqu, qqv, qqw, qqx, qqy, a3, a4, a5, a6]
        exact ⟨_, _, _, rfl, o13, ⟨y, _, rfl, rfl, w⟩, f1⟩
      rw [install_yes hi (by simpa using a1), a2, loop_run]
      conv in (codeF _ _ r309L0 _) => unfold r309L0
      have hlt : ¬ (s.shards.length : Int) < s.shards.length := by omega
      obtain ⟨b4, pb4, f4c, pf4, rfl, hq4, wb4, wf4⟩ := u4
      subst hq4
      obtain ⟨L, ndL⟩ := SlR.lit1 (tag := 16) Shard.okI (h := h4) (cs := [.int .u64 x.lo, .int .u64 x.hi, .int .i64 0, .int .i64 x.epoch, b4, f4c]) (t := x.awake) ⟨b4, pb4, f4c, pf4, rfl, rfl, wb4, wf4⟩ f4.nd
      have o5 := o4.trans (On.push h4 [[.int .u64 x.lo, .int .u64 x.hi, .int .i64 0, .int .i64 x.epoch, b4, f4c]])
      have w5 := w.on Shard.okI o5
      have hlt3 : ∀ id, id ∈ fr → id < h3.next := w.lt Shard.okI
      have fL : Fre h3 (h4.next :: (pb4 ++ pf4)) := ⟨fun id hid => by rcases List.mem_cons.1 hid with rfl | hid; exact o4.ext.1; exact f4.lo id hid, ndL⟩
      have o0 := o13.trans o5
      have hs8 : s.shards.length < 9 := by
        simp only [installable, Store.next, Store.good, Bool.and_eq_true, decide_eq_true_eq] at hi
        omega
      obtain ⟨z, g6, fz, e6, w6, re⟩ := w5.ins Shard.okI f1.nd (f1.own o0 hf) L ndL (fun id hid => by rw [o5.fl]; exact Nat.le_trans (o13.le hf) (fL.lo id hid)) (fun id h1 h2 => by have := hlt3 id h2; have := fL.lo id h1; omega) (by simp) (bytes := 80) (by simp; omega) (by simp [maxLen]; omega) (s.spot_le x)
      have fA : Fre h (fr ++ h4.next :: (pb4 ++ pf4)) := ⟨fun id hid => by
          rcases List.mem_append.1 hid with h1 | h1
          · exact f1.lo id h1
          · exact Nat.le_trans o13.ext.1 (fL.lo id h1), List.nodup_append.2 ⟨f1.nd, ndL, fun a ha b hb eq => by have := hlt3 a ha; have := fL.lo b hb; omega⟩⟩
      have o6 := re.on o0 fA
      have f6 := re.fre o0 fA
      obtain ⟨cs7, h7, e7, m7, v7⟩ := renewed_c (Z := Z) k (s := s.plus x) ⟨z, _, rfl, rfl, w6⟩ f6.nd (f6.own o6 hf) e
      obtain ⟨n1, n2, n3⟩ := Store.lenI v7
      simp only [Store.spot] at e6
      change call F Z 321 [.agg [.int .i64 s.group, .int .i64 s.seen, z], _] g6 = _ at e7
      simp only [run0, run1, run2, run3, run4, noSlot, ownS, ownK, memN, RO.dst, lk, drop, forget, number, Nat.reduceBEq, cut?, splice?, builds, Nat.reduceAdd, Nat.reduceLeDiff, ↓reduceIte, reduceCtorEq, qqa, qqb, qqc, qqd, qqe, qqf, qqg, qqh, qqi, qqj, qqk, qql, qqm, qqn, qqo, qqp, qqq, qqr, qqs, qqt, qqu, qqv, qqw, qqx, qqy, hlt, List.take_length, e4, Shard.cells, List.replicate_succ, List.replicate_zero, fills, and_self, Nat.zero_lt_one, List.set_cons_zero, pr _ _, e6, e7, n1, n2, n3]
      exact ⟨_, _, _, rfl, o6.turned m7 f6, v7, f6⟩
end
end Go.Proofs.Ytgfclcpnefinoaa.A
namespace Go.Proofs.Ytgfclcpnefinoaa.A
open Go
set_option linter.unusedSimpArgs false
set_option linter.unusedVariables false
section
variable {F : Nat → Option RF} {Z : CallF} {h h1 : Heap} {c : Cell} {xs : List Shard} {fp fq fr : List Nat} {cs ds : List Cell} {s : Store} {x t : Shard}
theorem AccM.base {α : Type} {R : Rel α} {tag : Nat} {h0 h1 g : Heap} {y : Cell} {xs : List α} {fp : List Nat} (a : AccM R tag h1 g y xs fp) (o : On h0 h1) : AccM R tag h0 g y xs fp :=
  ⟨o.trans a.on, a.sh, ⟨fun id hid => Nat.le_trans o.ext.1 (a.fr.lo id hid), a.fr.nd⟩⟩
theorem AccM.old {α : Type} {R : Rel α} {tag : Nat} {h0 h1 g : Heap} {y : Cell} {xs : List α} {fp : List Nat} (a : AccM R tag h1 g y xs fp) (h : On h0 h1) {fy : List Nat} (hy : ∀ id, id ∈ fy → id < h1.next) : ∀ id, id ∈ fy → id ∉ fp := fun id h1 h2 => by
  have := hy id h1; have := a.fr.lo id h2; omega
theorem sinst_turn (w : SlR 16 Shard.RI h c s.shards fp) (e1 : call F Z 317 [.agg [.int .i64 s.group, .int .i64 s.seen, c]] h = some (.agg ds, h1)) (hd : ds.length = 3) (e : Int) (b f : Cell) {i : Nat} (hi : i < s.shards.length) :
    Turn (loop F Z [2, 3, 4, 6, 8] r308L1 ⟨[(2, .c (.int .i64 e)), (8, .c (.int .i64 (i : Nat)))], [(3, 3, 0), (4, 4, 0), (6, 6, 0)], [(3, [.int .i64 s.group, .int .i64 s.seen, c]), (4, x.cells b f), (6, [.int .i64 0, .int .i64 0, .nil])], h⟩)
      (loop F Z [2, 3, 4, 6, 8] r308L1 ⟨[(2, .c (.int .i64 e)), (8, .c (.int .i64 ((i + 1 : Nat) : Int)))], [(3, 3, 0), (4, 4, 0), (6, 6, 0)], [(3, [.int .i64 s.group, .int .i64 s.seen, c]), (4, x.cells b f), (6, [.int .i64 0, .int .i64 0, .nil])], h⟩)
      (!x.over s.shards[i]) (fun s' => lk s'.env 7 = some (.c (.bool false)) ∧ lk s'.adr 6 = some (6, 0) ∧ lk s'.loc 6 = some ds ∧ s'.hp = h1) := by
  have hle := w.le2
  have hwl := w.len
  have hlt : (i : Int) < s.shards.length := by omega
  have hws := wrapS i (by omega)
  have hxi := w.idx hi
  obtain ⟨r, q, hld, hR, _⟩ := w.one hi
  obtain ⟨x1, p1, x2, p2, rfl, _⟩ := hR
  clear w
  generalize s.shards[i] = a at *
  obtain ⟨d0, d1, d2, rfl⟩ : ∃ a b c, ds = [a, b, c] := by
    match ds, hd with
    | [a, b, c], _ => exact ⟨a, b, c, rfl⟩
  rw [loop_run]
  conv in (codeF _ _ r308L1 _) => unfold r308L1
  have ho : x.over a = (decide (a.lo ≤ x.hi) && decide (x.lo ≤ a.hi)) := rfl
  simp only [Shard.cells]
  by_cases c1 : a.lo ≤ x.hi
  · by_cases c2 : x.lo ≤ a.hi
    · simp only [run0, run1, run2, run3, run4, noSlot, ownS, ownK, memN, RO.dst, lk, drop, forget, number, Nat.reduceBEq, cut?, splice?, builds, Nat.reduceAdd, Nat.reduceLeDiff, ↓reduceIte, reduceCtorEq, qqa, qqb, qqc, qqd, qqe, qqf, qqg, qqh, qqi, qqj, qqk, qql, qqm, qqn, qqo, qqp, qqq, qqr, qqs, qqt, qqu, qqv, qqw, qqx, qqy, hwl, hlt, hxi, hld, c1, c2, e1]
      exact .inr ⟨by simp [ho, c1, c2], _, rfl, rfl, rfl, rfl, rfl⟩
    · simp only [run0, run1, run2, run3, run4, noSlot, ownS, ownK, memN, RO.dst, lk, drop, forget, number, Nat.reduceBEq, cut?, splice?, builds, Nat.reduceAdd, Nat.reduceLeDiff, ↓reduceIte, reduceCtorEq, qqa, qqb, qqc, qqd, qqe, qqf, qqg, qqh, qqi, qqj, qqk, qql, qqm, qqn, qqo, qqp, qqq, qqr, qqs, qqt, qqu, qqv, qqw, qqx, qqy, hwl, hlt, hxi, hld, c1, c2, hws]
      exact .inl ⟨by simp [ho, c2], rfl⟩
  · simp only [run0, run1, run2, run3, run4, noSlot, ownS, ownK, memN, RO.dst, lk, drop, forget, number, Nat.reduceBEq, cut?, splice?, builds, Nat.reduceAdd, Nat.reduceLeDiff, ↓reduceIte, reduceCtorEq, qqa, qqb, qqc, qqd, qqe, qqf, qqg, qqh, qqi, qqj, qqk, qql, qqm, qqn, qqo, qqp, qqq, qqr, qqs, qqt, qqu, qqv, qqw, qqx, qqy, hwl, hlt, hxi, hld, c1, hws]
    exact .inl ⟨by simp [ho, c1], rfl⟩
theorem Shard.renew_awake (x : Shard) (e : Int) : Shard.renew e { x with state := 0, epoch := e } = Shard.renew e x.awake := rfl
theorem Store.plus_renew (s : Store) (x : Shard) (e : Int) : (⟨s.group, e, s.shards.take (s.spot x) ++ [{ x with state := 0, epoch := e }] ++ s.shards.drop (s.spot x)⟩ : Store).renew e = (s.plus x).renew e := by
  simp only [Store.renew, Store.plus, List.map_append, List.map_cons, List.map_nil, Shard.renew_awake]
set_option maxHeartbeats 2000000 in
theorem sInstallShard_c (k : KS F) (hf : h.floor ≤ h.next) (v : Store.RI h cs s fp) (u : Shard.RI h ds x fq) (e : Int) (ok : s.Ok) (sm : s.Small) (okx : x.Ok) (smx : x.Small) :
    ∃ cs' h' fq, call F Z 308 [.agg cs, .agg ds, .c (.int .i64 e)] h = some (.tup [.agg cs', .c (.bool (installShard s x e).2)], h') ∧ On h h' ∧ Store.RI h' cs' (installShard s x e).1 fq ∧ Fre h fq := by
  obtain ⟨l1, l2, l3⟩ := Store.lenI v
  obtain ⟨d1, d2, d3⟩ := Shard.lenI u
  obtain ⟨cs1, h1, fr, e1, o1, v1, f1⟩ := l13Copy_c (Z := Z) k hf v sm
  obtain ⟨m1, m2, m3⟩ := Store.lenI v1
  have e2 := l13Next_run (Z := Z) k v ok e
  have e3 := l13Shard_run (Z := Z) k.s01 k.s10 k.s13 u okx
  rw [call_run F Z (k.s13.lk (g := 308) rfl) _ _ rfl]
  cases hn : s.next e with
  | false =>
    rw [hn] at e2
    rw [install_no (by simp [installable, hn])]
    simp only [run0, run1, run2, run3, run4, noSlot, ownS, ownK, memN, RO.dst, lk, drop, forget, number, Nat.reduceBEq, cut?, splice?, builds, Nat.reduceAdd, Nat.reduceLeDiff, ↓reduceIte, reduceCtorEq, qqa, qqb, qqc, qqd, qqe, qqf, qqg, qqh, qqi, qqj, qqk, qql, qqm, qqn, qqo, qqp, qqq, qqr, qqs, qqt, qqu, qqv, qqw, qqx, qqy, l1, l2, l3, d1, d2, d3, m1, m2, m3, e1, e2]
    exact ⟨_, _, _, rfl, o1, v1, f1⟩
  | true =>
    rw [hn] at e2
    cases gd : x.good with
    | false =>
      rw [gd] at e3
      rw [install_no (by simp [installable, gd])]
      simp only [run0, run1, run2, run3, run4, noSlot, ownS, ownK, memN, RO.dst, lk, drop, forget, number, Nat.reduceBEq, cut?, splice?, builds, Nat.reduceAdd, Nat.reduceLeDiff, ↓reduceIte, reduceCtorEq, qqa, qqb, qqc, qqd, qqe, qqf, qqg, qqh, qqi, qqj, qqk, qql, qqm, qqn, qqo, qqp, qqq, qqr, qqs, qqt, qqu, qqv, qqw, qqx, qqy, l1, l2, l3, d1, d2, d3, m1, m2, m3, e1, e2, e3]
      exact ⟨_, _, _, rfl, o1, v1, f1⟩
    | true =>
      rw [gd] at e3
      obtain ⟨xc, p, rfl, hp, wx⟩ := v
      subst hp
      obtain ⟨cs4, h4, ft, e4, o4, u4, f4⟩ := l13CopyShard_c (Z := Z) k.s10 k.s13 hf u smx
      obtain ⟨b, pb, f, pf, rfl, hq, _⟩ := u
      have hwl := wx.len
      by_cases c1 : x.state = 1
      case neg =>
        have hb : (x.state != 1) = true := by simpa using c1
        rw [install_no (by simp [installable, c1])]
        simp only [run0, run1, run2, run3, run4, noSlot, ownS, ownK, memN, RO.dst, lk, drop, forget, number, Nat.reduceBEq, cut?, splice?, builds, Nat.reduceAdd, Nat.reduceLeDiff, ↓reduceIte, reduceCtorEq, qqa, qqb, qqc, qqd, qqe, qqf, qqg, qqh, qqi, qqj, qqk, qql, qqm, qqn, qqo, qqp, qqq, qqr, qqs, qqt, qqu, qqv, qqw, qqx, qqy, l1, l2, l3, d1, d2, d3, m1, m2, m3, e1, e2, e3, hb]
        exact ⟨_, _, _, rfl, o1, v1, f1⟩
      have hb : (x.state != 1) = false := by simpa using c1
      by_cases c2 : e ≤ x.epoch
      case pos =>
        have c2' : ¬ x.epoch < e := by omega
        rw [install_no (by simp [installable, c2'])]
        simp only [run0, run1, run2, run3, run4, noSlot, ownS, ownK, memN, RO.dst, lk, drop, forget, number, Nat.reduceBEq, cut?, splice?, builds, Nat.reduceAdd, Nat.reduceLeDiff, ↓reduceIte, reduceCtorEq, qqa, qqb, qqc, qqd, qqe, qqf, qqg, qqh, qqi, qqj, qqk, qql, qqm, qqn, qqo, qqp, qqq, qqr, qqs, qqt, qqu, qqv, qqw, qqx, qqy, l1, l2, l3, d1, d2, d3, m1, m2, m3, e1, e2, e3, hb, c2]
        exact ⟨_, _, _, rfl, o1, v1, f1⟩
      by_cases c3 : ((s.shards.length : Int) == 8) = true
      case pos =>
        rw [install_no (by simp [installable, c3])]
        simp only [run0, run1, run2, run3, run4, noSlot, ownS, ownK, memN, RO.dst, lk, drop, forget, number, Nat.reduceBEq, cut?, splice?, builds, Nat.reduceAdd, Nat.reduceLeDiff, ↓reduceIte, reduceCtorEq, qqa, qqb, qqc, qqd, qqe, qqf, qqg, qqh, qqi, qqj, qqk, qql, qqm, qqn, qqo, qqp, qqq, qqr, qqs, qqt, qqu, qqv, qqw, qqx, qqy, l1, l2, l3, d1, d2, d3, m1, m2, m3, e1, e2, e3, hb, c2, hwl, c3]
        exact ⟨_, _, _, rfl, o1, v1, f1⟩
      have c3' : ((s.shards.length : Int) == 8) = false := by simpa using c3
      have hi : installable s x e = true := by
        have : x.epoch < e := by omega
        simp only [installable, hn, gd, c1, c3', this, decide_true, Bool.true_and, Bool.not_false, beq_self_eq_true]
      simp only [run0, run1, run2, run3, run4, noSlot, ownS, ownK, memN, RO.dst, lk, drop, forget, number, Nat.reduceBEq, cut?, splice?, builds, Nat.reduceAdd, Nat.reduceLeDiff, ↓reduceIte, reduceCtorEq, qqa, qqb, qqc, qqd, qqe, qqf, qqg, qqh, qqi, qqj, qqk, qql, qqm, qqn, qqo, qqp, qqq, qqr, qqs, qqt, qqu, qqv, qqw, qqx, qqy, l1, l2, l3, d1, d2, d3, e2, e3, hb, c2, hwl, c3']
      have key := loop_all (F := F) (Z := Z) (live := [2, 3, 4, 6, 8]) (b := r308L1) s.shards (fun i => ⟨[(2, .c (.int .i64 e)), (8, .c (.int .i64 (i : Nat)))], [(3, 3, 0), (4, 4, 0), (6, 6, 0)], [(3, [.int .i64 s.group, .int .i64 s.seen, xc]), (4, x.cells b f), (6, [.int .i64 0, .int .i64 0, .nil])], h⟩) (fun a => !x.over a) _ (fun i hi => sinst_turn wx e1 m1 e b f hi)
      rw [all_not] at key
      simp only [show ((0 : Nat) : Int) = 0 from rfl, Shard.cells] at key
      rcases key with ⟨a1, a2⟩ | ⟨a1, s', a2, a3, a4, a5, a6⟩
      case inr =>
        rw [install_over (by simpa using a1), a2]
        simp only [run0, run1, run2, run3, run4, noSlot, ownS, ownK, memN, RO.dst, lk, drop, forget, number, Nat.reduceBEq, cut?, splice?, builds, Nat.reduceAdd, Nat.reduceLeDiff, ↓reduceIte, reduceCtorEq, qqa, qqb, qqc, qqd, qqe, qqf, qqg, qqh, qqi, qqj, qqk, qql, qqm, qqn, qqo, qqp, qqq, qqr, qqs, qqt, qqu, qqv, qqw, qqx, qqy, a3, a4, a5, a6, m1, m2, m3]
        exact ⟨_, _, _, rfl, o1, v1, f1⟩
      have ho : s.shards.any x.over = false := by simpa using a1
      have hgood : s.good = true := by
        simp only [Store.next, Bool.and_eq_true] at hn
        exact hn.1
      rw [install_yes hi ho, a2, loop_run]
      conv in (codeF _ _ r308L1 _) => unfold r308L1
      have hlt : ¬ (s.shards.length : Int) < s.shards.length := by omega
      obtain ⟨b4, pb4, f4c, pf4, rfl, hq4, wb4, wf4⟩ := u4
      subst hq4
      have hs8 : s.shards.length < 9 := by
        simp only [installable, Store.next, Store.good, Bool.and_eq_true, decide_eq_true_eq] at hi
        omega
      have hy : Shard.RI h4 [.int .u64 x.lo, .int .u64 x.hi, .int .i64 0, .int .i64 e, b4, f4c] { x with state := 0, epoch := e } (pb4 ++ pf4) := ⟨b4, pb4, f4c, pf4, rfl, rfl, wb4, wf4⟩
      have hylt : ∀ id, id ∈ pb4 ++ pf4 → id < h4.next := Shard.okI.lt hy
      simp only [run0, run1, run2, run3, run4, noSlot, ownS, ownK, memN, RO.dst, lk, drop, forget, number, Nat.reduceBEq, cut?, splice?, builds, Nat.reduceAdd, Nat.reduceLeDiff, ↓reduceIte, reduceCtorEq, qqa, qqb, qqc, qqd, qqe, qqf, qqg, qqh, qqi, qqj, qqk, qql, qqm, qqn, qqo, qqp, qqq, qqr, qqs, qqt, qqu, qqv, qqw, qqx, qqy, hwl, hlt, e4]
      clear a2 e2 e3 d1 d2 d3 l1 l2 l3 m1 m2 m3 e1 o1 v1 f1 e4
      obtain ⟨s', ⟨y, g, fq, hs, a, ap⟩, lp⟩ := loop_goes (F := F) (Z := Z) (live := [2, 3, 6, 9, 10, 11, 12]) (b := r308L0) s.shards.length (fun i st => ∃ y g fq, st = ⟨[(2, .c (.int .i64 e)), (11, .c (.bool (decide (s.spot x < i)))), (12, .c (.int .i64 (i : Nat)))], [(3, 3, 0), (6, 6, 0), (9, 9, 0), (10, 10, 0)], [(3, [.int .i64 s.group, .int .i64 s.seen, xc]), (6, [.int .i64 0, .int .i64 0, .nil]), (9, [.int .i64 s.group, .int .i64 e, y]), (10, [.int .u64 x.lo, .int .u64 x.hi, .int .i64 0, .int .i64 e, b4, f4c])], g⟩ ∧
          AccM Shard.RI 16 h g y (s.part { x with state := 0, epoch := e } (s.spot x) i) fq ∧ (i ≤ s.spot x → AccM Shard.RI 16 h4 g y (s.part { x with state := 0, epoch := e } (s.spot x) i) fq)) (fun i st hi ⟨y, g, fq, hs, a, ap⟩ => by
        subst hs
        have hlt : (i : Int) < s.shards.length := by omega
        have hle := wx.le2
        have hws := wrapS i (by omega)
        have hxi := wx.idx hi
        have hgt := Store.spot_gt hgood gd ho hi
        have hpl := s.part_len { x with state := 0, epoch := e } (s.spot x) i
        obtain ⟨q1, qf, hld0, hR0, _⟩ := (wx.on Shard.okI a.on).one hi
        rw [loop_run]
        conv in (codeF _ _ r308L0 _) => unfold r308L0
        by_cases hp : s.spot x < i
        · obtain ⟨r1, r2, r3⟩ := Shard.lenI hR0
          obtain ⟨cs', h', g1, fr, e1, hg1, o1, u1, f1, c1⟩ := l13CopyShard_q (Z := Z) k.s10 k.s13 hR0 (sm.2 _ (List.getElem_mem hi))
          obtain ⟨y', g', fp', e2, a2⟩ := a.next hf (by omega) o1 u1 f1
          rw [← Store.part_yes hi hp] at a2
          have hd1 : decide (s.spot x < i) = true := by simpa using hp
          have hd2 : decide (s.spot x < i + 1) = true := by simp; omega
          simp only [run0, run1, run2, run3, run4, noSlot, ownS, ownK, memN, RO.dst, lk, drop, forget, number, Nat.reduceBEq, cut?, splice?, builds, Nat.reduceAdd, Nat.reduceLeDiff, ↓reduceIte, reduceCtorEq, qqa, qqb, qqc, qqd, qqe, qqf, qqg, qqh, qqi, qqj, qqk, qql, qqm, qqn, qqo, qqp, qqq, qqr, qqs, qqt, qqu, qqv, qqw, qqx, qqy, hwl, hlt, hxi, hd1, hd2, hld0, r1, r2, r3, e1, hg1, List.replicate_succ, List.replicate_zero, fills, and_self, Nat.zero_lt_one, c1, List.set_cons_zero, e2, hws]
          exact ⟨_, ⟨_, _, _, rfl, a2, fun hc => by omega⟩, rfl⟩
        · have hd1 : decide (s.spot x < i) = false := by simpa using hp
          have ap := ap (by omega)
          have hR0' := hR0
          obtain ⟨z1, zp1, z2, zp2, rfl, _⟩ := hR0'
          by_cases hq : s.spot x = i
          · subst hq
            have hgt' : s.shards[s.spot x].lo > x.lo := hgt.2 (Nat.le_refl _)
            obtain ⟨y', g', fp', e2, a2, _⟩ := a.one (g := g) Shard.okI hf (bytes := 80) (by omega) (by omega) (On.refl g) (Shard.okI.on hy ap.on) ⟨fun id hid => f4.lo id hid, f4.nd⟩ (ap.old (On.refl h4) hylt)
            obtain ⟨q2, qf2, hld2, hR2, _⟩ := (wx.on Shard.okI a2.on).one hi
            obtain ⟨r1, r2, r3⟩ := Shard.lenI hR2
            obtain ⟨cs', h', g1, fr, e1, hg1, o1, u1, f1, c1⟩ := l13CopyShard_q (Z := Z) k.s10 k.s13 hR2 (sm.2 _ (List.getElem_mem hi))
            obtain ⟨y3, g3, fp3, e3, a3⟩ := a2.next hf (by simp; omega) o1 u1 f1
            rw [← Store.part_at hi] at a3
            have hd2 : decide (s.spot x < s.spot x + 1) = true := by simp
            simp only [run0, run1, run2, run3, run4, noSlot, ownS, ownK, memN, RO.dst, lk, drop, forget, number, Nat.reduceBEq, cut?, splice?, builds, Nat.reduceAdd, Nat.reduceLeDiff, ↓reduceIte, reduceCtorEq, qqa, qqb, qqc, qqd, qqe, qqf, qqg, qqh, qqi, qqj, qqk, qql, qqm, qqn, qqo, qqp, qqq, qqr, qqs, qqt, qqu, qqv, qqw, qqx, qqy, hwl, hlt, hxi, hd1, hd2, hld0, hgt', List.replicate_succ, List.replicate_zero, fills, and_self, Nat.zero_lt_one, List.set_cons_zero, e2, hld2, r1, r2, r3, e1, hg1, c1, e3, hws]
            exact ⟨_, ⟨_, _, _, rfl, a3, fun hc => by omega⟩, rfl⟩
          · have hgt' : ¬ s.shards[i].lo > x.lo := fun hc => by have := hgt.1 hc; omega
            obtain ⟨r1, r2, r3⟩ := Shard.lenI hR0
            obtain ⟨cs', h', g1, fr, e1, hg1, o1, u1, f1, c1⟩ := l13CopyShard_q (Z := Z) k.s10 k.s13 hR0 (sm.2 _ (List.getElem_mem hi))
            obtain ⟨y', g', fp', e2, a2⟩ := ap.next (o4.le hf) (by omega) o1 u1 f1
            rw [← Store.part_no hi (by omega)] at a2
            have hd2 : decide (s.spot x < i + 1) = false := by simp; omega
            simp only [run0, run1, run2, run3, run4, noSlot, ownS, ownK, memN, RO.dst, lk, drop, forget, number, Nat.reduceBEq, cut?, splice?, builds, Nat.reduceAdd, Nat.reduceLeDiff, ↓reduceIte, reduceCtorEq, qqa, qqb, qqc, qqd, qqe, qqf, qqg, qqh, qqi, qqj, qqk, qql, qqm, qqn, qqo, qqp, qqq, qqr, qqs, qqt, qqu, qqv, qqw, qqx, qqy, hwl, hlt, hxi, hd1, hd2, hld0, hgt', r1, r2, r3, e1, hg1, List.replicate_succ, List.replicate_zero, fills, and_self, Nat.zero_lt_one, c1, List.set_cons_zero, e2, hws]
            exact ⟨_, ⟨_, _, _, rfl, a2.base o4, fun _ => a2⟩, rfl⟩) (s := ⟨[(2, .c (.int .i64 e)), (11, .c (.bool false)), (12, .c (.int .i64 (0 : Nat)))], [(3, 3, 0), (6, 6, 0), (9, 9, 0), (10, 10, 0)], [(3, [.int .i64 s.group, .int .i64 s.seen, xc]), (6, [.int .i64 0, .int .i64 0, .nil]), (9, [.int .i64 s.group, .int .i64 e, .nil]), (10, [.int .u64 x.lo, .int .u64 x.hi, .int .i64 0, .int .i64 e, b4, f4c])], h4⟩) ⟨.nil, h4, [], by simp, by simpa [Store.part] using AccM.none Shard.RI 16 o4, fun _ => by simpa [Store.part] using AccM.nil Shard.RI 16 h4⟩
      subst hs
      simp only [show ((0 : Nat) : Int) = 0 from rfl] at lp
      have hlt : ¬ (s.shards.length : Int) < s.shards.length := by omega
      rw [lp, loop_run]
      conv in (codeF _ _ r308L0 _) => unfold r308L0
      have hfin : ∀ {z : Cell} {g' : Heap} {fz : List Nat}, AccM Shard.RI 16 h g' z (s.shards.take (s.spot x) ++ [{ x with state := 0, epoch := e }] ++ s.shards.drop (s.spot x)) fz →
          ∃ cs5 h5 f5, call F Z 318 [.agg [.int .i64 s.group, .int .i64 e, z], .c (.int .i64 e)] g' = some (.agg cs5, h5) ∧ On h h5 ∧ Store.RI h5 cs5 ((s.plus x).renew e) f5 ∧ Fre h f5 ∧ cs5.length = 3 ∧ cs5.take 3 = cs5 ∧ cs5.drop 3 = [] := fun {z g' fz} az => by
        obtain ⟨cs5, h5, f5, e5, o5, v5, r5⟩ := l13Renew_c (Z := Z) k (s := ⟨s.group, e, s.shards.take (s.spot x) ++ [{ x with state := 0, epoch := e }] ++ s.shards.drop (s.spot x)⟩) (az.on.le hf) ⟨z, _, rfl, rfl, az.sh⟩ (by
          refine ⟨?_, fun a ha => ?_⟩
          · simp only [List.length_append, List.length_take, List.length_drop, List.length_cons, List.length_nil]; omega
          · simp only [List.mem_append, List.mem_singleton] at ha
            rcases ha with (ha | ha) | ha
            · exact sm.2 a (List.mem_of_mem_take ha)
            · subst ha; exact smx
            · exact sm.2 a (List.mem_of_mem_drop ha)) e
        rw [Store.plus_renew] at v5
        obtain ⟨n1, n2, n3⟩ := Store.lenI v5
        exact ⟨cs5, h5, f5, e5, az.on.trans o5, v5, ⟨fun id hid => Nat.le_trans az.on.ext.1 (r5.lo id hid), r5.nd⟩, n1, n2, n3⟩
      by_cases hp : s.spot x < s.shards.length
      · rw [Store.part_end hp] at a
        obtain ⟨cs5, h5, f5, e5, o5, v5, r5, n1, n2, n3⟩ := hfin a
        have hd1 : decide (s.spot x < s.shards.length) = true := by simpa using hp
        simp only [run0, run1, run2, run3, run4, noSlot, ownS, ownK, memN, RO.dst, lk, drop, forget, number, Nat.reduceBEq, cut?, splice?, builds, Nat.reduceAdd, Nat.reduceLeDiff, ↓reduceIte, reduceCtorEq, qqa, qqb, qqc, qqd, qqe, qqf, qqg, qqh, qqi, qqj, qqk, qql, qqm, qqn, qqo, qqp, qqq, qqr, qqs, qqt, qqu, qqv, qqw, qqx, qqy, hwl, hlt, hd1, e5, n1, n2, n3]
        exact ⟨_, _, _, rfl, o5, v5, r5⟩
      · have hp' : s.spot x = s.shards.length := by have := s.spot_le x; omega
        have ap := ap (by omega)
        have hpl := s.part_len { x with state := 0, epoch := e } (s.spot x) s.shards.length
        obtain ⟨y', g', fp', e2, a2, _⟩ := a.one (g := g) Shard.okI hf (bytes := 80) (by omega) (by omega) (On.refl g) (Shard.okI.on hy ap.on) ⟨fun id hid => f4.lo id hid, f4.nd⟩ (ap.old (On.refl h4) hylt)
        rw [Store.part_last hp'] at a2
        obtain ⟨cs5, h5, f5, e5, o5, v5, r5, n1, n2, n3⟩ := hfin a2
        have hd1 : decide (s.spot x < s.shards.length) = false := by simpa using hp
        simp only [run0, run1, run2, run3, run4, noSlot, ownS, ownK, memN, RO.dst, lk, drop, forget, number, Nat.reduceBEq, cut?, splice?, builds, Nat.reduceAdd, Nat.reduceLeDiff, ↓reduceIte, reduceCtorEq, qqa, qqb, qqc, qqd, qqe, qqf, qqg, qqh, qqi, qqj, qqk, qql, qqm, qqn, qqo, qqp, qqq, qqr, qqs, qqt, qqu, qqv, qqw, qqx, qqy, hwl, hlt, hd1, List.replicate_succ, List.replicate_zero, fills, and_self, Nat.zero_lt_one, List.set_cons_zero, e2, e5, n1, n2, n3]
        exact ⟨_, _, _, rfl, o5, v5, r5⟩
end
end Go.Proofs.Ytgfclcpnefinoaa.A
