/- The data of a Book with its memory, and what its converters compute. -/
import Derived.Test.YtgogajbfiocdbaaVAccount
import Derived.Test.YtgogajbfiocdbaaS2
import Derived.Test.YtgogajbfiocdbaaGLBook
namespace Go.Proofs.Ytgogajbfiocdbaa.A
open Go
set_option linter.unusedSimpArgs false
set_option linter.unusedVariables false
structure Book where
  list : List Account
  deriving DecidableEq
def Book.RL : Rel Book := fun h cs t fp => ∃ x1 p1, cs = [x1] ∧ fp = p1 ∧ SlR 12 (Fl Account.enc) h x1 t.list p1
theorem Book.okL : RelOk Book.RL where
  lt := by
    rintro h cs t fp ⟨x1, p1, rfl, rfl, w1⟩ id hid
    exact w1.lt (Fl.ok _) id hid
  mv := by
    rintro h h' cs t fp ⟨x1, p1, rfl, rfl, w1⟩ hn hg
    exact ⟨x1, _, rfl, rfl, w1.mv (Fl.ok _) hn hg⟩
def Book.RI : Rel Book := fun h cs t fp => ∃ x1 p1, cs = [x1] ∧ fp = p1 ∧ SlR 11 (Fl Account.enc) h x1 t.list p1
theorem Book.okI : RelOk Book.RI where
  lt := by
    rintro h cs t fp ⟨x1, p1, rfl, rfl, w1⟩ id hid
    exact w1.lt (Fl.ok _) id hid
  mv := by
    rintro h h' cs t fp ⟨x1, p1, rfl, rfl, w1⟩ hn hg
    exact ⟨x1, _, rfl, rfl, w1.mv (Fl.ok _) hn hg⟩
theorem Book.lenL {h : Heap} {cs : List Cell} {t : Book} {fp : List Nat} (v : Book.RL h cs t fp) : cs.length = 1 ∧ cs.take 1 = cs ∧ cs.drop 1 = [] := by
  obtain ⟨x1, p1, rfl, _⟩ := v
  exact ⟨rfl, rfl, rfl⟩
theorem Book.lenI {h : Heap} {cs : List Cell} {t : Book} {fp : List Nat} (v : Book.RI h cs t fp) : cs.length = 1 ∧ cs.take 1 = cs ∧ cs.drop 1 = [] := by
  obtain ⟨x1, p1, rfl, _⟩ := v
  exact ⟨rfl, rfl, rfl⟩
namespace Book
/-- The numbers are those of the machine. -/
structure Ok (t : Book) : Prop where
  list : ∀ a, a ∈ t.list → a.Ok
def Small (t : Book) : Prop := t.list.length ≤ 1048576
end Book
theorem Wf.isBook {h : Heap} {n : Nat} {cs : List Cell} (w : Wf h (n + 4) shBook cs) : ∃ t fp, Book.RL h cs t fp ∧ t.Ok := by
  obtain ⟨_, _, rfl, _, m1, rfl⟩ := w
  obtain ⟨x1, l1, p1, rfl, w1, o1⟩ := Wf.isAccountS' m1
  exact ⟨⟨l1⟩, _, ⟨x1, _, rfl, rfl, w1⟩, ⟨o1⟩⟩
section
variable {F : Nat → Option RF} {Z : CallF} {h : Heap} {cs cs' : List Cell} {t u : Book} {fp fq : List Nat}
theorem szBook_c (hLBook : Has F tLBook) (hLAccount : Has F tLAccount) (v : Book.RL h cs t fp) (left : Int) (h1 : 0 ≤ left) (h2 : left ≤ 1048576) : ∃ r, call F Z 128 [.agg cs, .c (.int .i64 left)] h = some (.c (.int .i64 r), h) ∧ r ≤ left ∧ (0 ≤ r → t.Small) := by
  obtain ⟨x1, p1, rfl, rfl, w1⟩ := v
  rw [call_run F Z (hLBook.lk (g := 128) rfl) _ _ rfl]
  simp only [run0, run1, run2, run3, run4, noSlot, memN, RO.dst, lk, drop, forget, number, Nat.reduceBEq, cut?, splice?, builds, List.length_cons, List.length_nil, List.drop_succ_cons, List.drop_zero, List.take_succ_cons, List.take_zero, List.cons_append, List.nil_append, List.append_nil, List.drop_nil, List.take_nil, Nat.reduceAdd, Nat.reduceLeDiff, Nat.zero_add, Nat.add_zero, ↓reduceIte, Bool.not_true, Bool.not_false, decide_true, decide_false, eq_self, bne_self_eq_false, List.getElem?_cons_zero, List.getElem?_cons_succ, decide_eq_true_eq, Bool.false_eq_true, Bool.true_eq_false, reduceCtorEq, Nat.le_refl]
  obtain ⟨l0, s0, a0, b0⟩ := szAccountS_c (Z := Z) hLAccount w1 left (by omega) (by omega)
  simp only [run0, run1, run2, run3, run4, noSlot, memN, RO.dst, lk, drop, forget, number, Nat.reduceBEq, cut?, splice?, builds, List.length_cons, List.length_nil, List.drop_succ_cons, List.drop_zero, List.take_succ_cons, List.take_zero, List.cons_append, List.nil_append, List.append_nil, List.drop_nil, List.take_nil, Nat.reduceAdd, Nat.reduceLeDiff, Nat.zero_add, Nat.add_zero, ↓reduceIte, Bool.not_true, Bool.not_false, decide_true, decide_false, eq_self, bne_self_eq_false, List.getElem?_cons_zero, List.getElem?_cons_succ, decide_eq_true_eq, Bool.false_eq_true, Bool.true_eq_false, reduceCtorEq, Nat.le_refl, s0]
  by_cases n0 : l0 < 0
  · simp only [run0, run1, run2, run3, run4, noSlot, memN, RO.dst, lk, drop, forget, number, Nat.reduceBEq, cut?, splice?, builds, List.length_cons, List.length_nil, List.drop_succ_cons, List.drop_zero, List.take_succ_cons, List.take_zero, List.cons_append, List.nil_append, List.append_nil, List.drop_nil, List.take_nil, Nat.reduceAdd, Nat.reduceLeDiff, Nat.zero_add, Nat.add_zero, ↓reduceIte, Bool.not_true, Bool.not_false, decide_true, decide_false, eq_self, bne_self_eq_false, List.getElem?_cons_zero, List.getElem?_cons_succ, decide_eq_true_eq, Bool.false_eq_true, Bool.true_eq_false, reduceCtorEq, Nat.le_refl, n0]
    exact ⟨_, rfl, by omega, by omega⟩
  simp only [run0, run1, run2, run3, run4, noSlot, memN, RO.dst, lk, drop, forget, number, Nat.reduceBEq, cut?, splice?, builds, List.length_cons, List.length_nil, List.drop_succ_cons, List.drop_zero, List.take_succ_cons, List.take_zero, List.cons_append, List.nil_append, List.append_nil, List.drop_nil, List.take_nil, Nat.reduceAdd, Nat.reduceLeDiff, Nat.zero_add, Nat.add_zero, ↓reduceIte, Bool.not_true, Bool.not_false, decide_true, decide_false, eq_self, bne_self_eq_false, List.getElem?_cons_zero, List.getElem?_cons_succ, decide_eq_true_eq, Bool.false_eq_true, Bool.true_eq_false, reduceCtorEq, Nat.le_refl, n0]
  exact ⟨_, rfl, by omega, fun _ => b0 (by omega)⟩
theorem toBook_c (hLBook : Has F tLBook) (hLAccount : Has F tLAccount) (hf : h.floor ≤ h.next) (v : Book.RL h cs t fp) (sm : t.Small) : ∃ cs' h' fq, call F Z 130 [.agg cs] h = some (.agg cs', h') ∧ On h h' ∧ Book.RI h' cs' t fq ∧ Fre h fq := by
  obtain ⟨x1, p1, rfl, rfl, w1⟩ := v
  have sm0 := sm
  obtain ⟨y1, g0, q1, e0, o0, u1, r0⟩ := toAccountS_c (Z := Z) hLAccount hf w1 sm0
  rw [call_run F Z (hLBook.lk (g := 130) rfl) _ _ rfl]
  simp only [run0, run1, run2, run3, run4, noSlot, memN, RO.dst, lk, drop, forget, number, Nat.reduceBEq, cut?, splice?, builds, List.length_cons, List.length_nil, List.drop_succ_cons, List.drop_zero, List.take_succ_cons, List.take_zero, List.cons_append, List.nil_append, List.append_nil, List.drop_nil, List.take_nil, Nat.reduceAdd, Nat.reduceLeDiff, Nat.zero_add, Nat.add_zero, ↓reduceIte, Bool.not_true, Bool.not_false, decide_true, decide_false, eq_self, bne_self_eq_false, List.getElem?_cons_zero, List.getElem?_cons_succ, decide_eq_true_eq, Bool.false_eq_true, Bool.true_eq_false, reduceCtorEq, Nat.le_refl, e0]
  exact ⟨_, _, _, rfl, o0, ⟨y1, _, rfl, rfl, u1⟩, r0⟩
set_option maxHeartbeats 1000000 in
theorem eqBook_r (hLBook : Has F tLBook) (hLAccount : Has F tLAccount) (v : Book.RI h cs t fp) (v' : Book.RI h cs' u fq) : call F Z 133 [.agg cs, .agg cs'] h = some (.c (.bool (decide (t = u))), h) := by
  obtain ⟨x1, p1, rfl, rfl, w1⟩ := v
  obtain ⟨x1', p1', rfl, rfl, w1'⟩ := v'
  obtain ⟨list1⟩ := t
  obtain ⟨list2⟩ := u
  have e0 := eqAccountS_run (Z := Z) hLAccount w1 w1'
  clear w1 w1'
  rw [call_run F Z (hLBook.lk (g := 133) rfl) _ _ rfl]
  simp only [run0, run1, run2, run3, run4, noSlot, memN, RO.dst, lk, drop, forget, number, Nat.reduceBEq, cut?, splice?, builds, List.length_cons, List.length_nil, List.drop_succ_cons, List.drop_zero, List.take_succ_cons, List.take_zero, List.cons_append, List.nil_append, List.append_nil, List.drop_nil, List.take_nil, Nat.reduceAdd, Nat.reduceLeDiff, Nat.zero_add, Nat.add_zero, ↓reduceIte, Bool.not_true, Bool.not_false, decide_true, decide_false, eq_self, bne_self_eq_false, List.getElem?_cons_zero, List.getElem?_cons_succ, decide_eq_true_eq, Bool.false_eq_true, Bool.true_eq_false, reduceCtorEq, Nat.le_refl, e0]
  (repeat' ((first | (rw [gF_if]; split) | (rw [condC_if]; split) | (rw [pickR_if]; split)) <;> (rename_i hh; (try simp only [Bool.not_eq_true, decide_eq_true_eq] at hh); simp only [hh, run0, run1, run2, run3, run4, noSlot, memN, RO.dst, lk, drop, forget, number, Nat.reduceBEq, cut?, splice?, builds, List.length_cons, List.length_nil, List.drop_succ_cons, List.drop_zero, List.take_succ_cons, List.take_zero, List.cons_append, List.nil_append, List.append_nil, List.drop_nil, List.take_nil, Nat.reduceAdd, Nat.reduceLeDiff, Nat.zero_add, Nat.add_zero, ↓reduceIte, Bool.not_true, Bool.not_false, decide_true, decide_false, eq_self, bne_self_eq_false, List.getElem?_cons_zero, List.getElem?_cons_succ, decide_eq_true_eq, Bool.false_eq_true, Bool.true_eq_false, reduceCtorEq, Nat.le_refl, e0]))) <;> clear e0 <;> refine fin_bool ?_ <;> simp_all <;> (try (intros; omega))
end
end Go.Proofs.Ytgogajbfiocdbaa.A
