/- The functions that the statement reaches, part 2: bodies and what they compute. No condition. -/
import Derived.Test.YtlbagejkjkfkjaaHCExactExportShard1
import Derived.Test.YtlbagejkjkfkjaaA1
/- Is a book right? -/
namespace Go.Proofs.Ytlbagejkjkfkjaa.A
open Go
set_option linter.unusedSimpArgs false
set_option linter.unusedVariables false
def Account.at_ (xs : List Account) (i : Nat) : Account := xs[i]?.getD Account.none_
/-- Is an account right by itself? -/
def Account.fine (a : Account) : Bool := decide (a.bal + a.hold + a.due ≤ 18446744073709551615) && (decide (0 ≤ a.tx) && (a.tx != 0 || (a.hold == 0 && a.due == 0)))
def Account.fits (xs : List Account) (i : Nat) : Bool := (Account.at_ xs i).fine && (i == 0 || decide ((Account.at_ xs (i - 1)).id < (Account.at_ xs i).id))
def bookOk (xs : List Account) : Bool := (List.range xs.length).all (Account.fits xs) && decide ((xs.length : Int) ≤ 40)
section
variable {F : Nat → Option RF} {Z : CallF} {h : Heap} {x : Cell} {xs : List Account} {fp : List Nat}
set_option maxHeartbeats 4000000 in
theorem isBook_turn (w : SlR 11 (Fl Account.enc) h x xs fp) (hok : ∀ t, t ∈ xs → t.Ok) (i : Nat) (hi : i < xs.length) :
    Turn (loop F Z [1, 10, 11, 12] r265L0 ⟨[(10, .c x), (11, .c (.int .i64 (xs.length : Nat))), (12, .c (.int .i64 (i : Nat)))], [(1, 1, 0)], [(1, [x])], h⟩)
      (loop F Z [1, 10, 11, 12] r265L0 ⟨[(10, .c x), (11, .c (.int .i64 (xs.length : Nat))), (12, .c (.int .i64 ((i + 1 : Nat) : Int)))], [(1, 1, 0)], [(1, [x])], h⟩) (Account.fits xs i) (fun s => lk s.env 2 = some (.c (.bool false)) ∧ s.hp = h) := by
  have hle := w.le2
  have hlt : (i : Int) < xs.length := by omega
  have hws := wrapS i (by omega)
  have o1 := hok _ (List.getElem_mem hi)
  have e1 : Account.at_ xs i = xs[i] := by simp [Account.at_, List.getElem?_eq_getElem hi]
  have hfit : Account.fits xs i = (xs[i].fine && (i == 0 || decide ((Account.at_ xs (i - 1)).id < xs[i].id))) := by simp only [Account.fits, e1]
  have hpre : 0 < i → IntKind.i64.wrap ((i : Int) - 1) = ((i - 1 : Nat) : Int) := fun hp => by rw [wrapI _ (by omega) (by omega)]; omega
  rw [hfit]
  have hxi := w.idx hi
  have hld := w.load hi
  have hpi : 0 < i → idxR 11 (some x) (some ((i - 1 : Nat) : Int)) = some (.ptr x.sid (i - 1) 0) := fun hp => w.idx (by omega)
  have hpl : 0 < i → ∀ j n, loadP h x.sid (i - 1) j n = cut? (Account.at_ xs (i - 1)).enc j n := fun hp => w.loadD Account.none_ (by omega)
  clear w hfit e1 hok
  generalize Account.at_ xs (i - 1) = pa at *
  generalize xs[i] = a at *
  obtain ⟨id, bal, hold, due, tx⟩ := a
  obtain ⟨a1, a2, a3, a4, a5⟩ := o1
  dsimp only at a1 a2 a3 a4 a5
  obtain ⟨b1, _⟩ := a2
  obtain ⟨b2, _⟩ := a3
  obtain ⟨b3, _⟩ := a4
  have hwb : IntKind.u64.wrap (bal + hold) = (bal + hold) % 18446744073709551616 := rfl
  have b4 : 0 ≤ (bal + hold) % 18446744073709551616 := by omega
  have b5 : (0 : Int) ≤ 0 := by omega
  have b6 : (0 : Int) ≤ 1 := by omega
  have hwc : IntKind.u64.wrap ((bal + hold + 0) / 18446744073709551616 + ((bal + hold) % 18446744073709551616 + due + 0) / 18446744073709551616) = (bal + hold + 0) / 18446744073709551616 + ((bal + hold) % 18446744073709551616 + due + 0) / 18446744073709551616 := wrapU _ (by omega) (by omega)
  rw [loop_run]
  conv in (codeF _ _ r265L0 _) => unfold r265L0
  simp only [run0, run1, run2, run3, run4, noSlot, memN, RO.dst, lk, drop, forget, number, Nat.reduceBEq, cut?, splice?, builds, List.length_cons, List.length_nil, List.drop_succ_cons, List.drop_zero, List.take_succ_cons, List.take_zero, List.cons_append, List.nil_append, List.append_nil, List.drop_nil, List.take_nil, Nat.reduceAdd, Nat.reduceLeDiff, Nat.zero_add, Nat.add_zero, ↓reduceIte, Bool.not_true, Bool.not_false, decide_true, decide_false, eq_self, bne_self_eq_false, List.getElem?_cons_zero, List.getElem?_cons_succ, decide_eq_true_eq, Bool.false_eq_true, Bool.true_eq_false, reduceCtorEq, Nat.le_refl, hlt, hxi, hld, Account.enc, b1, b2, b3, b4, b5, b6, and_self, hwb, hwc]
  by_cases hp : 0 < i
  · have g1 : (i : Int) > 0 := by omega
    have hi0 : (i == 0) = false := by simp; omega
    have q1 := hpre hp
    have q2 := hpi hp
    have q3 := hpl hp
    clear hxi hld hpre hpi hpl
    (repeat' ((first | (rw [gF_if]; split) | (rw [condC_if]; split) | (rw [pickR_if]; split)) <;> (rename_i hh; (try simp only [Bool.not_eq_true, decide_eq_true_eq] at hh); simp only [hh, run0, run1, run2, run3, run4, noSlot, memN, RO.dst, lk, drop, forget, number, Nat.reduceBEq, cut?, splice?, builds, List.length_cons, List.length_nil, List.drop_succ_cons, List.drop_zero, List.take_succ_cons, List.take_zero, List.cons_append, List.nil_append, List.append_nil, List.drop_nil, List.take_nil, Nat.reduceAdd, Nat.reduceLeDiff, Nat.zero_add, Nat.add_zero, ↓reduceIte, Bool.not_true, Bool.not_false, decide_true, decide_false, eq_self, bne_self_eq_false, List.getElem?_cons_zero, List.getElem?_cons_succ, decide_eq_true_eq, Bool.false_eq_true, Bool.true_eq_false, reduceCtorEq, Nat.le_refl, hws, g1, q1, q2, q3, Account.enc])))
    all_goals clear q2 q3
    all_goals first
      | (exfalso; omega)
      | exact .inl ⟨by simp_all [Account.fine] <;> omega, rfl⟩
      | exact .inr ⟨by simp_all [Account.fine] <;> omega, _, rfl, rfl, rfl⟩
  · have g1 : ¬ (i : Int) > 0 := by omega
    have hi0 : (i == 0) = true := by simp; omega
    clear hxi hld hpre hpi hpl
    (repeat' ((first | (rw [gF_if]; split) | (rw [condC_if]; split) | (rw [pickR_if]; split)) <;> (rename_i hh; (try simp only [Bool.not_eq_true, decide_eq_true_eq] at hh); simp only [hh, run0, run1, run2, run3, run4, noSlot, memN, RO.dst, lk, drop, forget, number, Nat.reduceBEq, cut?, splice?, builds, List.length_cons, List.length_nil, List.drop_succ_cons, List.drop_zero, List.take_succ_cons, List.take_zero, List.cons_append, List.nil_append, List.append_nil, List.drop_nil, List.take_nil, Nat.reduceAdd, Nat.reduceLeDiff, Nat.zero_add, Nat.add_zero, ↓reduceIte, Bool.not_true, Bool.not_false, decide_true, decide_false, eq_self, bne_self_eq_false, List.getElem?_cons_zero, List.getElem?_cons_succ, decide_eq_true_eq, Bool.false_eq_true, Bool.true_eq_false, reduceCtorEq, Nat.le_refl, hws, g1, Account.enc])))
    all_goals first
      | (exfalso; omega)
      | exact .inl ⟨by simp_all [Account.fine] <;> omega, rfl⟩
      | exact .inr ⟨by simp_all [Account.fine] <;> omega, _, rfl, rfl, rfl⟩
theorem isBook_run (hI10 : Has F tI10) (w : SlR 11 (Fl Account.enc) h x xs fp) (hok : ∀ t, t ∈ xs → t.Ok) : call F Z 265 [.agg [x]] h = some (.c (.bool (bookOk xs)), h) := by
  have key := loop_allN (F := F) (Z := Z) (live := [1, 10, 11, 12]) (b := r265L0) xs.length (fun i => ⟨[(10, .c x), (11, .c (.int .i64 (xs.length : Nat))), (12, .c (.int .i64 (i : Nat)))], [(1, 1, 0)], [(1, [x])], h⟩) (Account.fits xs) (fun s => lk s.env 2 = some (.c (.bool false)) ∧ s.hp = h) fun i hi => isBook_turn w hok i hi
  rw [call_run F Z (hI10.lk (g := 265) rfl) _ _ rfl]
  simp only [run0, run1, run2, run3, run4, noSlot, memN, RO.dst, lk, drop, forget, number, Nat.reduceBEq, cut?, splice?, builds, List.length_cons, List.length_nil, List.drop_succ_cons, List.drop_zero, List.take_succ_cons, List.take_zero, List.cons_append, List.nil_append, List.append_nil, List.drop_nil, List.take_nil, Nat.reduceAdd, Nat.reduceLeDiff, Nat.zero_add, Nat.add_zero, ↓reduceIte, Bool.not_true, Bool.not_false, decide_true, decide_false, eq_self, bne_self_eq_false, List.getElem?_cons_zero, List.getElem?_cons_succ, decide_eq_true_eq, Bool.false_eq_true, Bool.true_eq_false, reduceCtorEq, Nat.le_refl, w.len]
  simp only [show ((0 : Nat) : Int) = 0 from rfl] at key
  have hlt : ¬ (xs.length : Int) < xs.length := by omega
  rcases key with ⟨k1, k2⟩ | ⟨k1, s, k2, k3, k4⟩
  · rw [k2, loop_run]
    conv in (codeF _ _ r265L0 _) => unfold r265L0
    simp only [run0, run1, run2, run3, run4, noSlot, memN, RO.dst, lk, drop, forget, number, Nat.reduceBEq, cut?, splice?, builds, List.length_cons, List.length_nil, List.drop_succ_cons, List.drop_zero, List.take_succ_cons, List.take_zero, List.cons_append, List.nil_append, List.append_nil, List.drop_nil, List.take_nil, Nat.reduceAdd, Nat.reduceLeDiff, Nat.zero_add, Nat.add_zero, ↓reduceIte, Bool.not_true, Bool.not_false, decide_true, decide_false, eq_self, bne_self_eq_false, List.getElem?_cons_zero, List.getElem?_cons_succ, decide_eq_true_eq, Bool.false_eq_true, Bool.true_eq_false, reduceCtorEq, Nat.le_refl, w.len, hlt, bookOk, k1, Bool.true_and]
  · rw [k2]
    simp only [run0, run1, run2, run3, run4, noSlot, memN, RO.dst, lk, drop, forget, number, Nat.reduceBEq, cut?, splice?, builds, List.length_cons, List.length_nil, List.drop_succ_cons, List.drop_zero, List.take_succ_cons, List.take_zero, List.cons_append, List.nil_append, List.append_nil, List.drop_nil, List.take_nil, Nat.reduceAdd, Nat.reduceLeDiff, Nat.zero_add, Nat.add_zero, ↓reduceIte, Bool.not_true, Bool.not_false, decide_true, decide_false, eq_self, bne_self_eq_false, List.getElem?_cons_zero, List.getElem?_cons_succ, decide_eq_true_eq, Bool.false_eq_true, Bool.true_eq_false, reduceCtorEq, Nat.le_refl, k3, k4, bookOk, k1, Bool.false_and]
set_option maxHeartbeats 4000000 in
theorem sBookOk_turn (w : SlR 11 (Fl Account.enc) h x xs fp) (hok : ∀ t, t ∈ xs → t.Ok) (i : Nat) (hi : i < xs.length) :
    Turn (loop F Z [1, 3] r241L0 ⟨[(3, .c (.int .i64 (i : Nat)))], [(1, 1, 0)], [(1, [x])], h⟩)
      (loop F Z [1, 3] r241L0 ⟨[(3, .c (.int .i64 ((i + 1 : Nat) : Int)))], [(1, 1, 0)], [(1, [x])], h⟩) (Account.fits xs i) (fun s => lk s.env 2 = some (.c (.bool false)) ∧ s.hp = h) := by
  have hle := w.le2
  have w0 := w.len
  have hlt : (i : Int) < xs.length := by omega
  have hws := wrapS i (by omega)
  have o1 := hok _ (List.getElem_mem hi)
  have e1 : Account.at_ xs i = xs[i] := by simp [Account.at_, List.getElem?_eq_getElem hi]
  have hfit : Account.fits xs i = (xs[i].fine && (i == 0 || decide ((Account.at_ xs (i - 1)).id < xs[i].id))) := by simp only [Account.fits, e1]
  have hpre : 0 < i → IntKind.i64.wrap ((i : Int) - 1) = ((i - 1 : Nat) : Int) := fun hp => by rw [wrapI _ (by omega) (by omega)]; omega
  rw [hfit]
  have hxi := w.idx hi
  have hld := w.load hi
  have hpi : 0 < i → idxR 11 (some x) (some ((i - 1 : Nat) : Int)) = some (.ptr x.sid (i - 1) 0) := fun hp => w.idx (by omega)
  have hpl : 0 < i → ∀ j n, loadP h x.sid (i - 1) j n = cut? (Account.at_ xs (i - 1)).enc j n := fun hp => w.loadD Account.none_ (by omega)
  clear w hfit e1 hok
  generalize Account.at_ xs (i - 1) = pa at *
  generalize xs[i] = a at *
  obtain ⟨id, bal, hold, due, tx⟩ := a
  obtain ⟨a1, a2, a3, a4, a5⟩ := o1
  dsimp only at a1 a2 a3 a4 a5
  obtain ⟨b1, b1'⟩ := a2
  obtain ⟨b2, _⟩ := a3
  obtain ⟨b3, _⟩ := a4
  have hwb : IntKind.u64.wrap (18446744073709551615 - bal) = 18446744073709551615 - bal := wrapU _ (by omega) (by omega)
  have hwc : hold ≤ 18446744073709551615 - bal → IntKind.u64.wrap (18446744073709551615 - bal - hold) = 18446744073709551615 - bal - hold := fun hh => wrapU _ (by omega) (by omega)
  have hwl := w0
  rw [loop_run]
  conv in (codeF _ _ r241L0 _) => unfold r241L0
  simp only [run0, run1, run2, run3, run4, noSlot, memN, RO.dst, lk, drop, forget, number, Nat.reduceBEq, cut?, splice?, builds, List.length_cons, List.length_nil, List.drop_succ_cons, List.drop_zero, List.take_succ_cons, List.take_zero, List.cons_append, List.nil_append, List.append_nil, List.drop_nil, List.take_nil, Nat.reduceAdd, Nat.reduceLeDiff, Nat.zero_add, Nat.add_zero, ↓reduceIte, Bool.not_true, Bool.not_false, decide_true, decide_false, eq_self, bne_self_eq_false, List.getElem?_cons_zero, List.getElem?_cons_succ, decide_eq_true_eq, Bool.false_eq_true, Bool.true_eq_false, reduceCtorEq, Nat.le_refl, hwl, hlt, hxi, hld, Account.enc, hwb]
  by_cases hp : 0 < i
  · have g1 : (i : Int) > 0 := by omega
    have hi0 : (i == 0) = false := by simp; omega
    have q1 := hpre hp
    have q2 := hpi hp
    have q3 := hpl hp
    clear hxi hld hpre hpi hpl
    (repeat' ((first | (rw [gF_if]; split) | (rw [condC_if]; split) | (rw [pickR_if]; split)) <;> (rename_i hh; (try simp only [Bool.not_eq_true, decide_eq_true_eq] at hh); simp only [hh, run0, run1, run2, run3, run4, noSlot, memN, RO.dst, lk, drop, forget, number, Nat.reduceBEq, cut?, splice?, builds, List.length_cons, List.length_nil, List.drop_succ_cons, List.drop_zero, List.take_succ_cons, List.take_zero, List.cons_append, List.nil_append, List.append_nil, List.drop_nil, List.take_nil, Nat.reduceAdd, Nat.reduceLeDiff, Nat.zero_add, Nat.add_zero, ↓reduceIte, Bool.not_true, Bool.not_false, decide_true, decide_false, eq_self, bne_self_eq_false, List.getElem?_cons_zero, List.getElem?_cons_succ, decide_eq_true_eq, Bool.false_eq_true, Bool.true_eq_false, reduceCtorEq, Nat.le_refl, hws, g1, q1, q2, q3, Account.enc, hwb])))
    all_goals clear q2 q3
    all_goals first
      | (exfalso; omega)
      | exact .inl ⟨by simp_all [Account.fine] <;> omega, rfl⟩
      | exact .inr ⟨by simp_all [Account.fine] <;> omega, _, rfl, rfl, rfl⟩
  · have g1 : ¬ (i : Int) > 0 := by omega
    have hi0 : (i == 0) = true := by simp; omega
    clear hxi hld hpre hpi hpl
    (repeat' ((first | (rw [gF_if]; split) | (rw [condC_if]; split) | (rw [pickR_if]; split)) <;> (rename_i hh; (try simp only [Bool.not_eq_true, decide_eq_true_eq] at hh); simp only [hh, run0, run1, run2, run3, run4, noSlot, memN, RO.dst, lk, drop, forget, number, Nat.reduceBEq, cut?, splice?, builds, List.length_cons, List.length_nil, List.drop_succ_cons, List.drop_zero, List.take_succ_cons, List.take_zero, List.cons_append, List.nil_append, List.append_nil, List.drop_nil, List.take_nil, Nat.reduceAdd, Nat.reduceLeDiff, Nat.zero_add, Nat.add_zero, ↓reduceIte, Bool.not_true, Bool.not_false, decide_true, decide_false, eq_self, bne_self_eq_false, List.getElem?_cons_zero, List.getElem?_cons_succ, decide_eq_true_eq, Bool.false_eq_true, Bool.true_eq_false, reduceCtorEq, Nat.le_refl, hws, g1, Account.enc, hwb])))
    all_goals first
      | (exfalso; omega)
      | exact .inl ⟨by simp_all [Account.fine] <;> omega, rfl⟩
      | exact .inr ⟨by simp_all [Account.fine] <;> omega, _, rfl, rfl, rfl⟩
theorem sBookOk_run (hS10 : Has F tS10) (w : SlR 11 (Fl Account.enc) h x xs fp) (hok : ∀ t, t ∈ xs → t.Ok) : call F Z 241 [.agg [x]] h = some (.c (.bool (bookOk xs)), h) := by
  have key := loop_allN (F := F) (Z := Z) (live := [1, 3]) (b := r241L0) xs.length (fun i => ⟨[(3, .c (.int .i64 (i : Nat)))], [(1, 1, 0)], [(1, [x])], h⟩) (Account.fits xs) (fun s => lk s.env 2 = some (.c (.bool false)) ∧ s.hp = h) fun i hi => sBookOk_turn w hok i hi
  rw [call_run F Z (hS10.lk (g := 241) rfl) _ _ rfl]
  simp only [run0, run1, run2, run3, run4, noSlot, memN, RO.dst, lk, drop, forget, number, Nat.reduceBEq, cut?, splice?, builds, List.length_cons, List.length_nil, List.drop_succ_cons, List.drop_zero, List.take_succ_cons, List.take_zero, List.cons_append, List.nil_append, List.append_nil, List.drop_nil, List.take_nil, Nat.reduceAdd, Nat.reduceLeDiff, Nat.zero_add, Nat.add_zero, ↓reduceIte, Bool.not_true, Bool.not_false, decide_true, decide_false, eq_self, bne_self_eq_false, List.getElem?_cons_zero, List.getElem?_cons_succ, decide_eq_true_eq, Bool.false_eq_true, Bool.true_eq_false, reduceCtorEq, Nat.le_refl, w.len]
  simp only [show ((0 : Nat) : Int) = 0 from rfl] at key
  have hlt : ¬ (xs.length : Int) < xs.length := by omega
  by_cases hn : (xs.length : Int) > 40
  · have : ¬ (xs.length : Int) ≤ 40 := by omega
    simp only [run0, run1, run2, run3, run4, noSlot, memN, RO.dst, lk, drop, forget, number, Nat.reduceBEq, cut?, splice?, builds, List.length_cons, List.length_nil, List.drop_succ_cons, List.drop_zero, List.take_succ_cons, List.take_zero, List.cons_append, List.nil_append, List.append_nil, List.drop_nil, List.take_nil, Nat.reduceAdd, Nat.reduceLeDiff, Nat.zero_add, Nat.add_zero, ↓reduceIte, Bool.not_true, Bool.not_false, decide_true, decide_false, eq_self, bne_self_eq_false, List.getElem?_cons_zero, List.getElem?_cons_succ, decide_eq_true_eq, Bool.false_eq_true, Bool.true_eq_false, reduceCtorEq, Nat.le_refl, hn, bookOk, this, Bool.and_false]
  · have h40 : (xs.length : Int) ≤ 40 := by omega
    simp only [run0, run1, run2, run3, run4, noSlot, memN, RO.dst, lk, drop, forget, number, Nat.reduceBEq, cut?, splice?, builds, List.length_cons, List.length_nil, List.drop_succ_cons, List.drop_zero, List.take_succ_cons, List.take_zero, List.cons_append, List.nil_append, List.append_nil, List.drop_nil, List.take_nil, Nat.reduceAdd, Nat.reduceLeDiff, Nat.zero_add, Nat.add_zero, ↓reduceIte, Bool.not_true, Bool.not_false, decide_true, decide_false, eq_self, bne_self_eq_false, List.getElem?_cons_zero, List.getElem?_cons_succ, decide_eq_true_eq, Bool.false_eq_true, Bool.true_eq_false, reduceCtorEq, Nat.le_refl, hn]
    rcases key with ⟨k1, k2⟩ | ⟨k1, s, k2, k3, k4⟩
    · rw [k2, loop_run]
      conv in (codeF _ _ r241L0 _) => unfold r241L0
      simp only [run0, run1, run2, run3, run4, noSlot, memN, RO.dst, lk, drop, forget, number, Nat.reduceBEq, cut?, splice?, builds, List.length_cons, List.length_nil, List.drop_succ_cons, List.drop_zero, List.take_succ_cons, List.take_zero, List.cons_append, List.nil_append, List.append_nil, List.drop_nil, List.take_nil, Nat.reduceAdd, Nat.reduceLeDiff, Nat.zero_add, Nat.add_zero, ↓reduceIte, Bool.not_true, Bool.not_false, decide_true, decide_false, eq_self, bne_self_eq_false, List.getElem?_cons_zero, List.getElem?_cons_succ, decide_eq_true_eq, Bool.false_eq_true, Bool.true_eq_false, reduceCtorEq, Nat.le_refl, w.len, hlt, bookOk, k1, Bool.true_and, h40]
    · rw [k2]
      simp only [run0, run1, run2, run3, run4, noSlot, memN, RO.dst, lk, drop, forget, number, Nat.reduceBEq, cut?, splice?, builds, List.length_cons, List.length_nil, List.drop_succ_cons, List.drop_zero, List.take_succ_cons, List.take_zero, List.cons_append, List.nil_append, List.append_nil, List.drop_nil, List.take_nil, Nat.reduceAdd, Nat.reduceLeDiff, Nat.zero_add, Nat.add_zero, ↓reduceIte, Bool.not_true, Bool.not_false, decide_true, decide_false, eq_self, bne_self_eq_false, List.getElem?_cons_zero, List.getElem?_cons_succ, decide_eq_true_eq, Bool.false_eq_true, Bool.true_eq_false, reduceCtorEq, Nat.le_refl, k3, k4, bookOk, k1, Bool.false_and]
end
end Go.Proofs.Ytlbagejkjkfkjaa.A
/- The data of a Shard with its memory, and what its converters compute. -/
namespace Go.Proofs.Ytlbagejkjkfkjaa.A
open Go
set_option linter.unusedSimpArgs false
set_option linter.unusedVariables false
structure Shard where
  lo : Int
  hi : Int
  state : Int
  epoch : Int
  book : Book
  finished : List Fin
  deriving DecidableEq
def Shard.RL : Rel Shard := fun h cs t fp => ∃ x1 p1 x2 p2, cs = [.int .u64 t.lo, .int .u64 t.hi, .int .i64 t.state, .int .i64 t.epoch, x1, x2] ∧ fp = p1 ++ p2 ∧ SlR 12 (Fl Account.enc) h x1 t.book.list p1 ∧ SlR 10 (Fl Fin.enc) h x2 t.finished p2
theorem Shard.okL : RelOk Shard.RL where
  lt := by
    rintro h cs t fp ⟨x1, p1, x2, p2, rfl, rfl, w1, w2⟩ id hid
    simp only [List.mem_append] at hid
    rcases hid with hid | hid
    · exact w1.lt (Fl.ok _) id hid
    · exact w2.lt (Fl.ok _) id hid
  mv := by
    rintro h h' cs t fp ⟨x1, p1, x2, p2, rfl, rfl, w1, w2⟩ hn hg
    exact ⟨x1, _, x2, _, rfl, rfl, w1.mv (Fl.ok _) hn fun id hid => hg id (by simp [hid]), w2.mv (Fl.ok _) hn fun id hid => hg id (by simp [hid])⟩
def Shard.RI : Rel Shard := fun h cs t fp => ∃ x1 p1 x2 p2, cs = [.int .u64 t.lo, .int .u64 t.hi, .int .i64 t.state, .int .i64 t.epoch, x1, x2] ∧ fp = p1 ++ p2 ∧ SlR 11 (Fl Account.enc) h x1 t.book.list p1 ∧ SlR 9 (Fl Fin.enc) h x2 t.finished p2
theorem Shard.okI : RelOk Shard.RI where
  lt := by
    rintro h cs t fp ⟨x1, p1, x2, p2, rfl, rfl, w1, w2⟩ id hid
    simp only [List.mem_append] at hid
    rcases hid with hid | hid
    · exact w1.lt (Fl.ok _) id hid
    · exact w2.lt (Fl.ok _) id hid
  mv := by
    rintro h h' cs t fp ⟨x1, p1, x2, p2, rfl, rfl, w1, w2⟩ hn hg
    exact ⟨x1, _, x2, _, rfl, rfl, w1.mv (Fl.ok _) hn fun id hid => hg id (by simp [hid]), w2.mv (Fl.ok _) hn fun id hid => hg id (by simp [hid])⟩
theorem Shard.lenL {h : Heap} {cs : List Cell} {t : Shard} {fp : List Nat} (v : Shard.RL h cs t fp) : cs.length = 6 ∧ cs.take 6 = cs ∧ cs.drop 6 = [] := by
  obtain ⟨x1, p1, x2, p2, rfl, _⟩ := v
  exact ⟨rfl, rfl, rfl⟩
theorem Shard.lenI {h : Heap} {cs : List Cell} {t : Shard} {fp : List Nat} (v : Shard.RI h cs t fp) : cs.length = 6 ∧ cs.take 6 = cs ∧ cs.drop 6 = [] := by
  obtain ⟨x1, p1, x2, p2, rfl, _⟩ := v
  exact ⟨rfl, rfl, rfl⟩
namespace Shard
/-- The numbers are those of the machine. -/
structure Ok (t : Shard) : Prop where
  lo : 0 ≤ t.lo ∧ t.lo ≤ 18446744073709551615
  hi : 0 ≤ t.hi ∧ t.hi ≤ 18446744073709551615
  state : -9223372036854775808 ≤ t.state ∧ t.state ≤ 9223372036854775807
  epoch : -9223372036854775808 ≤ t.epoch ∧ t.epoch ≤ 9223372036854775807
  book : t.book.Ok
  finished : ∀ a, a ∈ t.finished → a.Ok
def Small (t : Shard) : Prop := t.book.Small ∧ t.finished.length ≤ 1048576
def wt (t : Shard) : Int := t.book.wt + 2 * ((t.finished.length : Nat) : Int)
def marked (t : Shard) (k : Int) : Shard := { t with book := t.book.marked (k), finished := Fin.marks t.finished.length (k + t.book.wt) }
theorem wt_nn (t : Shard) : 0 ≤ t.wt := by
  have := t.book.wt_nn
  simp only [wt]; omega
theorem wt_le {t : Shard} (sm : t.Small) : t.wt ≤ 7340032 := by
  unfold Small at sm
  have := Book.wt_le sm.1
  simp only [wt]; omega
end Shard
theorem Wf.isShard {h : Heap} {n : Nat} {cs : List Cell} (w : Wf h (n + 5) shShard cs) : ∃ t fp, Shard.RL h cs t fp ∧ t.Ok := by
  obtain ⟨_, _, rfl, _, ⟨i1, rfl, j1⟩, _, _, rfl, _, ⟨i2, rfl, j2⟩, _, _, rfl, _, ⟨i3, rfl, j3⟩, _, _, rfl, _, ⟨i4, rfl, j4⟩, _, _, rfl, _, ⟨_, _, rfl, _, m5, rfl⟩, _, _, rfl, _, m6, rfl⟩ := w
  obtain ⟨x1, l1, p1, rfl, w1, o1⟩ := Wf.isAccountS' m5
  obtain ⟨x2, l2, p2, rfl, w2, o2⟩ := Wf.isFinS' m6
  exact ⟨⟨i1, i2, i3, i4, ⟨l1⟩, l2⟩, _, ⟨x1, _, x2, _, rfl, rfl, w1, w2⟩, ⟨wfU j1, wfU j2, wfI j3, wfI j4, ⟨o1⟩, o2⟩⟩
section
variable {F : Nat → Option RF} {Z : CallF} {h : Heap} {cs cs' : List Cell} {t u : Shard} {fp fq : List Nat}
theorem szShard_c (hLShard : Has F tLShard) (hLBook : Has F tLBook) (hLAccount : Has F tLAccount) (hLFin : Has F tLFin) (v : Shard.RL h cs t fp) (left : Int) (h1 : 0 ≤ left) (h2 : left ≤ 1048576) : ∃ r, call F Z 111 [.agg cs, .c (.int .i64 left)] h = some (.c (.int .i64 r), h) ∧ r ≤ left ∧ (0 ≤ r → t.Small) := by
  obtain ⟨x1, p1, x2, p2, rfl, rfl, w1, w2⟩ := v
  rw [call_run F Z (hLShard.lk (g := 111) rfl) _ _ rfl]
  simp only [run0, run1, run2, run3, run4, noSlot, memN, RO.dst, lk, drop, forget, number, Nat.reduceBEq, cut?, splice?, builds, List.length_cons, List.length_nil, List.drop_succ_cons, List.drop_zero, List.take_succ_cons, List.take_zero, List.cons_append, List.nil_append, List.append_nil, List.drop_nil, List.take_nil, Nat.reduceAdd, Nat.reduceLeDiff, Nat.zero_add, Nat.add_zero, ↓reduceIte, Bool.not_true, Bool.not_false, decide_true, decide_false, eq_self, bne_self_eq_false, List.getElem?_cons_zero, List.getElem?_cons_succ, decide_eq_true_eq, Bool.false_eq_true, Bool.true_eq_false, reduceCtorEq, Nat.le_refl]
  obtain ⟨l0, s0, a0, b0⟩ := szBook_c (Z := Z) hLBook hLAccount (⟨x1, _, rfl, rfl, w1⟩ : Book.RL _ _ _ _) left (by omega) (by omega)
  simp only [run0, run1, run2, run3, run4, noSlot, memN, RO.dst, lk, drop, forget, number, Nat.reduceBEq, cut?, splice?, builds, List.length_cons, List.length_nil, List.drop_succ_cons, List.drop_zero, List.take_succ_cons, List.take_zero, List.cons_append, List.nil_append, List.append_nil, List.drop_nil, List.take_nil, Nat.reduceAdd, Nat.reduceLeDiff, Nat.zero_add, Nat.add_zero, ↓reduceIte, Bool.not_true, Bool.not_false, decide_true, decide_false, eq_self, bne_self_eq_false, List.getElem?_cons_zero, List.getElem?_cons_succ, decide_eq_true_eq, Bool.false_eq_true, Bool.true_eq_false, reduceCtorEq, Nat.le_refl, s0]
  by_cases n0 : l0 < 0
  · simp only [run0, run1, run2, run3, run4, noSlot, memN, RO.dst, lk, drop, forget, number, Nat.reduceBEq, cut?, splice?, builds, List.length_cons, List.length_nil, List.drop_succ_cons, List.drop_zero, List.take_succ_cons, List.take_zero, List.cons_append, List.nil_append, List.append_nil, List.drop_nil, List.take_nil, Nat.reduceAdd, Nat.reduceLeDiff, Nat.zero_add, Nat.add_zero, ↓reduceIte, Bool.not_true, Bool.not_false, decide_true, decide_false, eq_self, bne_self_eq_false, List.getElem?_cons_zero, List.getElem?_cons_succ, decide_eq_true_eq, Bool.false_eq_true, Bool.true_eq_false, reduceCtorEq, Nat.le_refl, n0]
    exact ⟨_, rfl, by omega, by omega⟩
  obtain ⟨l1, s1, a1, b1⟩ := szFinS_c (Z := Z) hLFin w2 l0 (by omega) (by omega)
  simp only [run0, run1, run2, run3, run4, noSlot, memN, RO.dst, lk, drop, forget, number, Nat.reduceBEq, cut?, splice?, builds, List.length_cons, List.length_nil, List.drop_succ_cons, List.drop_zero, List.take_succ_cons, List.take_zero, List.cons_append, List.nil_append, List.append_nil, List.drop_nil, List.take_nil, Nat.reduceAdd, Nat.reduceLeDiff, Nat.zero_add, Nat.add_zero, ↓reduceIte, Bool.not_true, Bool.not_false, decide_true, decide_false, eq_self, bne_self_eq_false, List.getElem?_cons_zero, List.getElem?_cons_succ, decide_eq_true_eq, Bool.false_eq_true, Bool.true_eq_false, reduceCtorEq, Nat.le_refl, s1, n0]
  by_cases n1 : l1 < 0
  · simp only [run0, run1, run2, run3, run4, noSlot, memN, RO.dst, lk, drop, forget, number, Nat.reduceBEq, cut?, splice?, builds, List.length_cons, List.length_nil, List.drop_succ_cons, List.drop_zero, List.take_succ_cons, List.take_zero, List.cons_append, List.nil_append, List.append_nil, List.drop_nil, List.take_nil, Nat.reduceAdd, Nat.reduceLeDiff, Nat.zero_add, Nat.add_zero, ↓reduceIte, Bool.not_true, Bool.not_false, decide_true, decide_false, eq_self, bne_self_eq_false, List.getElem?_cons_zero, List.getElem?_cons_succ, decide_eq_true_eq, Bool.false_eq_true, Bool.true_eq_false, reduceCtorEq, Nat.le_refl, n1]
    exact ⟨_, rfl, by omega, by omega⟩
  simp only [run0, run1, run2, run3, run4, noSlot, memN, RO.dst, lk, drop, forget, number, Nat.reduceBEq, cut?, splice?, builds, List.length_cons, List.length_nil, List.drop_succ_cons, List.drop_zero, List.take_succ_cons, List.take_zero, List.cons_append, List.nil_append, List.append_nil, List.drop_nil, List.take_nil, Nat.reduceAdd, Nat.reduceLeDiff, Nat.zero_add, Nat.add_zero, ↓reduceIte, Bool.not_true, Bool.not_false, decide_true, decide_false, eq_self, bne_self_eq_false, List.getElem?_cons_zero, List.getElem?_cons_succ, decide_eq_true_eq, Bool.false_eq_true, Bool.true_eq_false, reduceCtorEq, Nat.le_refl, n1]
  exact ⟨_, rfl, by omega, fun _ => ⟨b0 (by omega), b1 (by omega)⟩⟩
theorem toShard_c (hLShard : Has F tLShard) (hLBook : Has F tLBook) (hLAccount : Has F tLAccount) (hLFin : Has F tLFin) (hf : h.floor ≤ h.next) (v : Shard.RL h cs t fp) (sm : t.Small) : ∃ cs' h' fq, call F Z 112 [.agg cs] h = some (.agg cs', h') ∧ On h h' ∧ Shard.RI h' cs' t fq ∧ Fre h fq := by
  obtain ⟨x1, p1, x2, p2, rfl, rfl, w1, w2⟩ := v
  obtain ⟨sm0, sm1⟩ := sm
  obtain ⟨_, g0, _, e0, o0, ⟨y1, q1, rfl, rfl, u1⟩, r0⟩ := toBook_c (Z := Z) hLBook hLAccount hf (⟨x1, _, rfl, rfl, w1⟩ : Book.RL _ _ _ _) sm0
  replace w2 := w2.on (Fl.ok _) o0
  have f0 := o0.le hf
  obtain ⟨y2, g1, q2, e1, o1, u2, r1⟩ := toFinS_c (Z := Z) hLFin f0 w2 sm1
  have v1 := u1
  replace u1 := u1.on (Fl.ok _) o1
  rw [call_run F Z (hLShard.lk (g := 112) rfl) _ _ rfl]
  simp only [run0, run1, run2, run3, run4, noSlot, memN, RO.dst, lk, drop, forget, number, Nat.reduceBEq, cut?, splice?, builds, List.length_cons, List.length_nil, List.drop_succ_cons, List.drop_zero, List.take_succ_cons, List.take_zero, List.cons_append, List.nil_append, List.append_nil, List.drop_nil, List.take_nil, Nat.reduceAdd, Nat.reduceLeDiff, Nat.zero_add, Nat.add_zero, ↓reduceIte, Bool.not_true, Bool.not_false, decide_true, decide_false, eq_self, bne_self_eq_false, List.getElem?_cons_zero, List.getElem?_cons_succ, decide_eq_true_eq, Bool.false_eq_true, Bool.true_eq_false, reduceCtorEq, Nat.le_refl, e0, e1]
  exact ⟨_, _, _, rfl, o0.trans o1, ⟨y1, _, y2, _, rfl, rfl, u1, u2⟩, Fre.app r0 (Book.okI.lt (⟨y1, _, rfl, rfl, v1⟩ : Book.RI g0 _ t.book _)) r1 o0.ext.1⟩
set_option maxHeartbeats 1000000 in
theorem eqShard_r (hLShard : Has F tLShard) (hLBook : Has F tLBook) (hLAccount : Has F tLAccount) (hLFin : Has F tLFin) (v : Shard.RI h cs t fp) (v' : Shard.RI h cs' u fq) : call F Z 114 [.agg cs, .agg cs'] h = some (.c (.bool (decide (t = u))), h) := by
  obtain ⟨x1, p1, x2, p2, rfl, rfl, w1, w2⟩ := v
  obtain ⟨x1', p1', x2', p2', rfl, rfl, w1', w2'⟩ := v'
  obtain ⟨lo1, hi1, state1, epoch1, book1, finished1⟩ := t
  obtain ⟨lo2, hi2, state2, epoch2, book2, finished2⟩ := u
  have e0 := eqBook_r (Z := Z) hLBook hLAccount (⟨x1, _, rfl, rfl, w1⟩ : Book.RI h _ book1 _) (⟨x1', _, rfl, rfl, w1'⟩ : Book.RI h _ book2 _)
  have e1 := eqFinS_run (Z := Z) hLFin w2 w2'
  clear w1 w1' w2 w2'
  rw [call_run F Z (hLShard.lk (g := 114) rfl) _ _ rfl]
  simp only [run0, run1, run2, run3, run4, noSlot, memN, RO.dst, lk, drop, forget, number, Nat.reduceBEq, cut?, splice?, builds, List.length_cons, List.length_nil, List.drop_succ_cons, List.drop_zero, List.take_succ_cons, List.take_zero, List.cons_append, List.nil_append, List.append_nil, List.drop_nil, List.take_nil, Nat.reduceAdd, Nat.reduceLeDiff, Nat.zero_add, Nat.add_zero, ↓reduceIte, Bool.not_true, Bool.not_false, decide_true, decide_false, eq_self, bne_self_eq_false, List.getElem?_cons_zero, List.getElem?_cons_succ, decide_eq_true_eq, Bool.false_eq_true, Bool.true_eq_false, reduceCtorEq, Nat.le_refl, e0, e1]
  (repeat' ((first | (rw [gF_if]; split) | (rw [condC_if]; split) | (rw [pickR_if]; split)) <;> (rename_i hh; (try simp only [Bool.not_eq_true, decide_eq_true_eq] at hh); simp only [hh, run0, run1, run2, run3, run4, noSlot, memN, RO.dst, lk, drop, forget, number, Nat.reduceBEq, cut?, splice?, builds, List.length_cons, List.length_nil, List.drop_succ_cons, List.drop_zero, List.take_succ_cons, List.take_zero, List.cons_append, List.nil_append, List.append_nil, List.drop_nil, List.take_nil, Nat.reduceAdd, Nat.reduceLeDiff, Nat.zero_add, Nat.add_zero, ↓reduceIte, Bool.not_true, Bool.not_false, decide_true, decide_false, eq_self, bne_self_eq_false, List.getElem?_cons_zero, List.getElem?_cons_succ, decide_eq_true_eq, Bool.false_eq_true, Bool.true_eq_false, reduceCtorEq, Nat.le_refl, e0, e1]))) <;> clear e0 e1 <;> refine fin_bool ?_ <;> simp_all <;> (try (intros; omega))
theorem markShard_r (hLShard : Has F tLShard) (hLBook : Has F tLBook) (hLAccount : Has F tLAccount) (hLFin : Has F tLFin) (v : Shard.RI h cs t fp) (nd : fp.Nodup) (hlo : ∀ id, id ∈ fp → h.floor ≤ id) (k : Int) (h1 : 0 ≤ k) (h2 : k + t.wt ≤ 4611686018427387904) : ∃ h', call F Z 192 [.agg cs, .c (.int .i64 k)] h = some (.c (.int .i64 (k + t.wt)), h') ∧ Mk h h' fp ∧ Shard.RI h' cs (t.marked k) fp := by
  obtain ⟨x1, p1, x2, p2, rfl, rfl, w1, w2⟩ := v
  simp only [Shard.wt] at h2 ⊢
  obtain ⟨nd1, nd2, nd3⟩ := List.nodup_append.1 nd
  have := t.book.wt_nn
  obtain ⟨g1, e0, m0, ⟨y1, q1, uc, uq, u1⟩⟩ := markBook_r (Z := Z) hLBook hLAccount (⟨x1, _, rfl, rfl, w1⟩ : Book.RI h _ t.book _) nd1 (fun id hid => hlo id (by simp [hid])) (k) (by omega) (by omega)
  simp only [List.cons.injEq, and_true] at uc
  subst uc
  subst uq
  have w2' := w2.mk (Fl.ok _) m0 (fun id h1 h2 => nd3 id h2 id h1 rfl)
  obtain ⟨g2, e1, m1, u2⟩ := markFinS_run (Z := Z) hLFin w2' (fun id hid => by rw [m0.fl]; exact hlo id (by simp [hid])) (k + t.book.wt) (by omega) (by omega)
  have u1' := u1.mk (Fl.ok _) m1 (fun id h1 h2 => nd3 id h1 id h2 rfl)
  rw [call_run F Z (hLShard.lk (g := 192) rfl) _ _ rfl]
  simp only [run0, run1, run2, run3, run4, noSlot, memN, RO.dst, lk, drop, forget, number, Nat.reduceBEq, cut?, splice?, builds, List.length_cons, List.length_nil, List.drop_succ_cons, List.drop_zero, List.take_succ_cons, List.take_zero, List.cons_append, List.nil_append, List.append_nil, List.drop_nil, List.take_nil, Nat.reduceAdd, Nat.reduceLeDiff, Nat.zero_add, Nat.add_zero, ↓reduceIte, Bool.not_true, Bool.not_false, decide_true, decide_false, eq_self, bne_self_eq_false, List.getElem?_cons_zero, List.getElem?_cons_succ, decide_eq_true_eq, Bool.false_eq_true, Bool.true_eq_false, reduceCtorEq, Nat.le_refl, e0, e1]
  exact ⟨g2, by rw [Int.add_assoc], m0.trans m1, ⟨x1, _, x2, _, rfl, rfl, u1', u2⟩⟩
theorem heldShard_r (hLShard : Has F tLShard) (hLBook : Has F tLBook) (hLAccount : Has F tLAccount) (hLFin : Has F tLFin) {k : Int} (v : Shard.RI h cs (t.marked k) fp) (h1 : 0 ≤ k) (h2 : k + t.wt ≤ 4611686018427387904) : call F Z 193 [.agg cs, .c (.int .i64 k)] h = some (.c (.int .i64 (k + t.wt)), h) := by
  obtain ⟨x1, p1, x2, p2, rfl, rfl, w1, w2⟩ := v
  simp only [Shard.wt] at h2 ⊢
  have := t.book.wt_nn
  have e0 := heldBook_r (Z := Z) hLBook hLAccount (t := t.book) (⟨x1, _, rfl, rfl, w1⟩ : Book.RI h _ (t.book.marked k) _) h1 (by omega)
  have e1 := heldFinS_run (Z := Z) hLFin (n := t.finished.length) (k := k + t.book.wt) w2 (by omega) (by omega)
  have n0 : ¬ k + t.book.wt < 0 := by omega
  have n1 : ¬ k + t.book.wt + 2 * ((t.finished.length : Nat) : Int) < 0 := by omega
  rw [call_run F Z (hLShard.lk (g := 193) rfl) _ _ rfl]
  simp only [run0, run1, run2, run3, run4, noSlot, memN, RO.dst, lk, drop, forget, number, Nat.reduceBEq, cut?, splice?, builds, List.length_cons, List.length_nil, List.drop_succ_cons, List.drop_zero, List.take_succ_cons, List.take_zero, List.cons_append, List.nil_append, List.append_nil, List.drop_nil, List.take_nil, Nat.reduceAdd, Nat.reduceLeDiff, Nat.zero_add, Nat.add_zero, ↓reduceIte, Bool.not_true, Bool.not_false, decide_true, decide_false, eq_self, bne_self_eq_false, List.getElem?_cons_zero, List.getElem?_cons_succ, decide_eq_true_eq, Bool.false_eq_true, Bool.true_eq_false, reduceCtorEq, Nat.le_refl, e0, n0, e1, n1, ← Int.add_assoc]
end
end Go.Proofs.Ytlbagejkjkfkjaa.A
/- Fins in order. -/
namespace Go.Proofs.Ytlbagejkjkfkjaa.A
open Go
set_option linter.unusedSimpArgs false
set_option linter.unusedVariables false
def Fin.at_ (xs : List Fin) (i : Nat) : Fin := xs[i]?.getD Fin.none_
/-- May an account be in a shard? -/
def Shard.acc (s : Shard) (a : Account) : Bool := decide (s.lo ≤ a.id) && (decide (a.id ≤ s.hi) && !decide ((⟨a.tx, a.id⟩ : Fin) ∈ s.finished))
def Shard.finAt (s : Shard) (i : Nat) : Bool := decide (1 ≤ (Fin.at_ s.finished i).tx) && (decide (s.lo ≤ (Fin.at_ s.finished i).id) && (decide ((Fin.at_ s.finished i).id ≤ s.hi) && (i == 0 || decide (cmpFin (Fin.at_ s.finished (i - 1)) (Fin.at_ s.finished i) < 0))))
section
variable {F : Nat → Option RF} {Z : CallF} {h : Heap} {x : Cell} {xs : List Fin} {fp : List Nat}
theorem compareFins_run (hI13 : Has F tI13) (h1 : Has F tLibcmpCompareint) (h2 : Has F tLibcmpCompareuint64) (h3 : Has F tLibcmpOrint) (h4 : Has F tLibcmpisNaNint) (h5 : Has F tLibcmpisNaNuint64) (f g : Fin) (h : Heap) :
    call F Z 267 [.agg f.enc, .agg g.enc] h = some (.c (.int .i64 (cmpFin f g)), h.push [[.int .i64 (cmpI f.tx g.tx)], [.int .i64 (cmpI f.id g.id)]]) := by
  obtain ⟨t, d⟩ := f
  obtain ⟨t', d'⟩ := g
  have ho := Or2_run (Z := Z) (h := ⟨(h.push [[.int .i64 (cmpI t t')], [.int .i64 (cmpI d d')]]).next, (h.push [[.int .i64 (cmpI t t')], [.int .i64 (cmpI d d')]]).next, (h.push [[.int .i64 (cmpI t t')], [.int .i64 (cmpI d d')]]).get⟩) h3 (o := h.next) (cmpI t t') (cmpI d d') (push_get _ _)
  rw [call_run F Z (hI13.lk (g := 267) rfl) _ _ rfl]
  simp only [run0, run1, run2, run3, run4, noSlot, memN, RO.dst, lk, drop, forget, number, Nat.reduceBEq, cut?, splice?, builds, List.length_cons, List.length_nil, List.drop_succ_cons, List.drop_zero, List.take_succ_cons, List.take_zero, List.cons_append, List.nil_append, List.append_nil, List.drop_nil, List.take_nil, Nat.reduceAdd, Nat.reduceLeDiff, Nat.zero_add, Nat.add_zero, ↓reduceIte, Bool.not_true, Bool.not_false, decide_true, decide_false, eq_self, bne_self_eq_false, List.getElem?_cons_zero, List.getElem?_cons_succ, decide_eq_true_eq, Bool.false_eq_true, Bool.true_eq_false, reduceCtorEq, Nat.le_refl, Fin.enc, Compare_int_run h1 h4, Compare_u64_run h2 h5, List.replicate_succ, List.replicate_zero, fills, and_self, Nat.zero_lt_succ, Nat.reduceLT, List.set_cons_zero, List.set_cons_succ, ho]
  rfl
variable {s : Shard} {y : Cell} {fq : List Nat}
set_option maxHeartbeats 2000000 in
theorem isShard_accs (hL : Has F tLibslicesIndeximplFinimplFin) (hC : Has F tLibslicesContainsimplFinimplFin) (w : SlR 11 (Fl Account.enc) h x s.book.list fp) (v : SlR 9 (Fl Fin.enc) h y s.finished fq) :
    Turn (loop F Z [1, 46, 47, 48] r244L1 ⟨[(46, .c x), (47, .c (.int .i64 (s.book.list.length : Nat))), (48, .c (.int .i64 (0 : Nat)))], [(1, 1, 0)], [(1, [.int .u64 s.lo, .int .u64 s.hi, .int .i64 s.state, .int .i64 s.epoch, x, y])], h⟩)
      (loop F Z [1, 46, 47, 48] r244L1 ⟨[(46, .c x), (47, .c (.int .i64 (s.book.list.length : Nat))), (48, .c (.int .i64 (s.book.list.length : Nat)))], [(1, 1, 0)], [(1, [.int .u64 s.lo, .int .u64 s.hi, .int .i64 s.state, .int .i64 s.epoch, x, y])], h⟩) (s.book.list.all s.acc) (fun s => lk s.env 2 = some (.c (.bool false)) ∧ s.hp = h) := by
  have hle := w.le2
  refine loop_all (F := F) (Z := Z) (live := [1, 46, 47, 48]) (b := r244L1) s.book.list (fun i => ⟨[(46, .c x), (47, .c (.int .i64 (s.book.list.length : Nat))), (48, .c (.int .i64 (i : Nat)))], [(1, 1, 0)], [(1, [.int .u64 s.lo, .int .u64 s.hi, .int .i64 s.state, .int .i64 s.epoch, x, y])], h⟩) s.acc _ fun i hi => ?_
  have hlt : (i : Int) < s.book.list.length := by omega
  have hws := wrapS i (by omega)
  have hxi := w.idx hi
  have hld := w.load hi
  have hc : ∀ t d, call F Z 266 [.c y, .agg [.int .i64 t, .int .u64 d]] h = some (.c (.bool (decide ((⟨t, d⟩ : Fin) ∈ s.finished))), h) := fun t d => containsFin_run hL hC v ⟨t, d⟩
  rw [loop_run]
  conv in (codeF _ _ r244L1 _) => unfold r244L1
  simp only [run0, run1, run2, run3, run4, noSlot, memN, RO.dst, lk, drop, forget, number, Nat.reduceBEq, cut?, splice?, builds, List.length_cons, List.length_nil, List.drop_succ_cons, List.drop_zero, List.take_succ_cons, List.take_zero, List.cons_append, List.nil_append, List.append_nil, List.drop_nil, List.take_nil, Nat.reduceAdd, Nat.reduceLeDiff, Nat.zero_add, Nat.add_zero, ↓reduceIte, Bool.not_true, Bool.not_false, decide_true, decide_false, eq_self, bne_self_eq_false, List.getElem?_cons_zero, List.getElem?_cons_succ, decide_eq_true_eq, Bool.false_eq_true, Bool.true_eq_false, reduceCtorEq, Nat.le_refl, hlt, hxi, hld, Account.enc, hc]
  generalize s.book.list[i] = a
  clear hxi hld w v
  (repeat' ((first | (rw [gF_if]; split) | (rw [condC_if]; split) | (rw [pickR_if]; split)) <;> (rename_i hh; (try simp only [Bool.not_eq_true, decide_eq_true_eq] at hh); simp only [hh, run0, run1, run2, run3, run4, noSlot, memN, RO.dst, lk, drop, forget, number, Nat.reduceBEq, cut?, splice?, builds, List.length_cons, List.length_nil, List.drop_succ_cons, List.drop_zero, List.take_succ_cons, List.take_zero, List.cons_append, List.nil_append, List.append_nil, List.drop_nil, List.take_nil, Nat.reduceAdd, Nat.reduceLeDiff, Nat.zero_add, Nat.add_zero, ↓reduceIte, Bool.not_true, Bool.not_false, decide_true, decide_false, eq_self, bne_self_eq_false, List.getElem?_cons_zero, List.getElem?_cons_succ, decide_eq_true_eq, Bool.false_eq_true, Bool.true_eq_false, reduceCtorEq, Nat.le_refl, hws, hc]))) <;> clear hc <;> first
    | exact .inl ⟨by simp_all [Shard.acc] <;> omega, rfl⟩
    | exact .inr ⟨by simp_all [Shard.acc] <;> omega, _, rfl, rfl, rfl⟩
set_option maxHeartbeats 4000000 in
theorem isShard_fins (hI13 : Has F tI13) (h1 : Has F tLibcmpCompareint) (h2 : Has F tLibcmpCompareuint64) (h3 : Has F tLibcmpOrint) (h4 : Has F tLibcmpisNaNint) (h5 : Has F tLibcmpisNaNuint64) (v : SlR 9 (Fl Fin.enc) h y s.finished fq) :
    (∃ s', (∃ g, s' = ⟨[(76, .c y), (77, .c (.int .i64 (s.finished.length : Nat))), (78, .c (.int .i64 (s.finished.length : Nat)))], [(1, 1, 0)], [(1, [.int .u64 s.lo, .int .u64 s.hi, .int .i64 s.state, .int .i64 s.epoch, x, y])], g⟩ ∧ On h g ∧ ∀ j, j < s.finished.length → s.finAt j = true) ∧
        loop F Z [1, 76, 77, 78] r244L0 ⟨[(76, .c y), (77, .c (.int .i64 (s.finished.length : Nat))), (78, .c (.int .i64 (0 : Nat)))], [(1, 1, 0)], [(1, [.int .u64 s.lo, .int .u64 s.hi, .int .i64 s.state, .int .i64 s.epoch, x, y])], h⟩ = loop F Z [1, 76, 77, 78] r244L0 s') ∨
      ∃ s', loop F Z [1, 76, 77, 78] r244L0 ⟨[(76, .c y), (77, .c (.int .i64 (s.finished.length : Nat))), (78, .c (.int .i64 (0 : Nat)))], [(1, 1, 0)], [(1, [.int .u64 s.lo, .int .u64 s.hi, .int .i64 s.state, .int .i64 s.epoch, x, y])], h⟩ = some (.ret, s') ∧ (lk s'.env 2 = some (.c (.bool false)) ∧ On h s'.hp ∧ ∃ j, j < s.finished.length ∧ s.finAt j = false) := by
  have hle := v.le2
  refine loop_rel (F := F) (Z := Z) (live := [1, 76, 77, 78]) (b := r244L0) s.finished.length (fun i s' => ∃ g, s' = ⟨[(76, .c y), (77, .c (.int .i64 (s.finished.length : Nat))), (78, .c (.int .i64 (i : Nat)))], [(1, 1, 0)], [(1, [.int .u64 s.lo, .int .u64 s.hi, .int .i64 s.state, .int .i64 s.epoch, x, y])], g⟩ ∧ On h g ∧ ∀ j, j < i → s.finAt j = true) _ (fun i s' hi ⟨g, hs, og, hall⟩ => ?_) ⟨h, rfl, On.refl h, fun j hj => absurd hj (Nat.not_lt_zero _)⟩
  subst hs
  have hlt : (i : Int) < s.finished.length := by omega
  have hws := wrapS i (by omega)
  have hxi := v.idx hi
  have vg := v.on (Fl.ok _) og
  have hld : ∀ j n, loadP g y.sid i j n = cut? (Fin.at_ s.finished i).enc j n := vg.loadD Fin.none_ hi
  have hfin : s.finAt i = (decide (1 ≤ (Fin.at_ s.finished i).tx) && (decide (s.lo ≤ (Fin.at_ s.finished i).id) && (decide ((Fin.at_ s.finished i).id ≤ s.hi) && (i == 0 || decide (cmpFin (Fin.at_ s.finished (i - 1)) (Fin.at_ s.finished i) < 0))))) := rfl
  have good : s.finAt i = true → ∀ j, j < i + 1 → s.finAt j = true := fun hg j hj => by
    by_cases he : j = i
    · rw [he]; exact hg
    · exact hall j (by omega)
  have bad : s.finAt i = false → ∃ j, j < s.finished.length ∧ s.finAt j = false := fun hb => ⟨i, hi, hb⟩
  have hpre : 0 < i → IntKind.i64.wrap ((i : Int) - 1) = ((i - 1 : Nat) : Int) := fun hp => by rw [wrapI _ (by omega) (by omega)]; omega
  have hpi : 0 < i → idxR 9 (some y) (some ((i - 1 : Nat) : Int)) = some (.ptr y.sid (i - 1) 0) := fun hp => v.idx (by omega)
  have hpl : 0 < i → ∀ j n, loadP g y.sid (i - 1) j n = cut? (Fin.at_ s.finished (i - 1)).enc j n := fun hp => vg.loadD Fin.none_ (by omega)
  clear v vg hall
  generalize s.finAt i = fa at *
  generalize Fin.at_ s.finished (i - 1) = pf at *
  generalize Fin.at_ s.finished i = f at *
  have cf := compareFins_run (Z := Z) hI13 h1 h2 h3 h4 h5 pf f ⟨g.next, g.next, g.get⟩
  have og' := og.trans (On.push g [[.int .i64 (cmpI pf.tx f.tx)], [.int .i64 (cmpI pf.id f.id)]])
  obtain ⟨k, hk⟩ : ∃ k, Heap.mk ((Heap.mk g.next g.next g.get).push [[.int .i64 (cmpI pf.tx f.tx)], [.int .i64 (cmpI pf.id f.id)]]).next g.floor ((Heap.mk g.next g.next g.get).push [[.int .i64 (cmpI pf.tx f.tx)], [.int .i64 (cmpI pf.id f.id)]]).get = k := ⟨_, rfl⟩
  have ok' : On h k := by rw [← hk]; exact og'
  obtain ⟨t, d⟩ := f
  obtain ⟨t', d'⟩ := pf
  simp only [Fin.enc] at cf hld hpl
  rw [loop_run]
  conv in (codeF _ _ r244L0 _) => unfold r244L0
  simp only [run0, run1, run2, run3, run4, noSlot, memN, RO.dst, lk, drop, forget, number, Nat.reduceBEq, cut?, splice?, builds, List.length_cons, List.length_nil, List.drop_succ_cons, List.drop_zero, List.take_succ_cons, List.take_zero, List.cons_append, List.nil_append, List.append_nil, List.drop_nil, List.take_nil, Nat.reduceAdd, Nat.reduceLeDiff, Nat.zero_add, Nat.add_zero, ↓reduceIte, Bool.not_true, Bool.not_false, decide_true, decide_false, eq_self, bne_self_eq_false, List.getElem?_cons_zero, List.getElem?_cons_succ, decide_eq_true_eq, Bool.false_eq_true, Bool.true_eq_false, reduceCtorEq, Nat.le_refl, hlt, hxi, hld]
  by_cases hp : 0 < i
  · have g1 : (i : Int) > 0 := by omega
    have hi0 : (i == 0) = false := by simp; omega
    have q1 := hpre hp
    have q2 := hpi hp
    have q3 := hpl hp
    clear hxi hpre hpi hpl
    (repeat' ((first | (rw [gF_if]; split) | (rw [condC_if]; split) | (rw [pickR_if]; split)) <;> (rename_i hh; (try simp only [Bool.not_eq_true, decide_eq_true_eq] at hh); simp only [hh, run0, run1, run2, run3, run4, noSlot, memN, RO.dst, lk, drop, forget, number, Nat.reduceBEq, cut?, splice?, builds, List.length_cons, List.length_nil, List.drop_succ_cons, List.drop_zero, List.take_succ_cons, List.take_zero, List.cons_append, List.nil_append, List.append_nil, List.drop_nil, List.take_nil, Nat.reduceAdd, Nat.reduceLeDiff, Nat.zero_add, Nat.add_zero, ↓reduceIte, Bool.not_true, Bool.not_false, decide_true, decide_false, eq_self, bne_self_eq_false, List.getElem?_cons_zero, List.getElem?_cons_succ, decide_eq_true_eq, Bool.false_eq_true, Bool.true_eq_false, reduceCtorEq, Nat.le_refl, hws, g1, q1, q2, q3, cf, hk, hld])))
    all_goals clear q2 q3 cf hk hld og'
    all_goals first
      | (exfalso; omega)
      | exact Or.inl ⟨_, ⟨_, rfl, og, good (by simp_all <;> omega)⟩, rfl⟩
      | exact Or.inl ⟨_, ⟨_, rfl, ok', good (by simp_all <;> omega)⟩, rfl⟩
      | exact Or.inr ⟨_, rfl, rfl, og, bad (by simp_all <;> omega)⟩
      | exact Or.inr ⟨_, rfl, rfl, ok', bad (by simp_all <;> omega)⟩
  · have g1 : ¬ (i : Int) > 0 := by omega
    have hi0 : (i == 0) = true := by simp; omega
    clear hxi hpre hpi hpl cf hk
    (repeat' ((first | (rw [gF_if]; split) | (rw [condC_if]; split) | (rw [pickR_if]; split)) <;> (rename_i hh; (try simp only [Bool.not_eq_true, decide_eq_true_eq] at hh); simp only [hh, run0, run1, run2, run3, run4, noSlot, memN, RO.dst, lk, drop, forget, number, Nat.reduceBEq, cut?, splice?, builds, List.length_cons, List.length_nil, List.drop_succ_cons, List.drop_zero, List.take_succ_cons, List.take_zero, List.cons_append, List.nil_append, List.append_nil, List.drop_nil, List.take_nil, Nat.reduceAdd, Nat.reduceLeDiff, Nat.zero_add, Nat.add_zero, ↓reduceIte, Bool.not_true, Bool.not_false, decide_true, decide_false, eq_self, bne_self_eq_false, List.getElem?_cons_zero, List.getElem?_cons_succ, decide_eq_true_eq, Bool.false_eq_true, Bool.true_eq_false, reduceCtorEq, Nat.le_refl, hws, g1, hld])))
    all_goals clear hld og'
    all_goals first
      | (exfalso; omega)
      | exact Or.inl ⟨_, ⟨_, rfl, og, good (by simp_all <;> omega)⟩, rfl⟩
      | exact Or.inr ⟨_, rfl, rfl, og, bad (by simp_all <;> omega)⟩
end
end Go.Proofs.Ytlbagejkjkfkjaa.A
/- Is a shard right? -/
namespace Go.Proofs.Ytlbagejkjkfkjaa.A
open Go
set_option linter.unusedSimpArgs false
set_option linter.unusedVariables false
def Shard.head (s : Shard) : Bool := decide (s.lo ≤ s.hi) && ((s.state == 0 || s.state == 1) && (inR s.epoch 1 1000000 && (bookOk s.book.list && decide ((s.finished.length : Int) ≤ 60))))
def Shard.good (s : Shard) : Bool := s.head && (s.book.list.all s.acc && (List.range s.finished.length).all s.finAt)
section
variable {F : Nat → Option RF} {Z : CallF} {h : Heap} {cs : List Cell} {s : Shard} {fp : List Nat}
set_option maxHeartbeats 4000000 in
theorem isShard_run (hI10 : Has F tI10) (hI13 : Has F tI13) (h1 : Has F tLibcmpCompareint) (h2 : Has F tLibcmpCompareuint64) (h3 : Has F tLibcmpOrint) (h4 : Has F tLibcmpisNaNint) (h5 : Has F tLibcmpisNaNuint64) (hL : Has F tLibslicesIndeximplFinimplFin) (hC : Has F tLibslicesContainsimplFinimplFin)
    (v : Shard.RI h cs s fp) (ok : s.Ok) : ∃ h', call F Z 244 [.agg cs] h = some (.c (.bool s.good), h') ∧ On h h' := by
  obtain ⟨x, p, y, q, rfl, rfl, w, u⟩ := v
  have hB := isBook_run (Z := Z) hI10 w ok.book.list
  have ka := isShard_accs (Z := Z) (s := s) hL hC w u
  have kf := isShard_fins (Z := Z) (s := s) (x := x) hI13 h1 h2 h3 h4 h5 u
  have l1 := w.len
  have l2 := u.len
  have n1 : ¬ (s.book.list.length : Int) < s.book.list.length := by omega
  have n2 : ¬ (s.finished.length : Int) < s.finished.length := by omega
  clear w u
  rw [call_run F Z (hI13.lk (g := 244) rfl) _ _ rfl]
  simp only [show ((0 : Nat) : Int) = 0 from rfl] at ka kf
  cases hd : s.head with
  | false =>
    have hg : s.good = false := by simp [Shard.good, hd]
    rw [hg]
    simp only [run0, run1, run2, run3, run4, noSlot, memN, RO.dst, lk, drop, forget, number, Nat.reduceBEq, cut?, splice?, builds, List.length_cons, List.length_nil, List.drop_succ_cons, List.drop_zero, List.take_succ_cons, List.take_zero, List.cons_append, List.nil_append, List.append_nil, List.drop_nil, List.take_nil, Nat.reduceAdd, Nat.reduceLeDiff, Nat.zero_add, Nat.add_zero, ↓reduceIte, Bool.not_true, Bool.not_false, decide_true, decide_false, eq_self, bne_self_eq_false, List.getElem?_cons_zero, List.getElem?_cons_succ, decide_eq_true_eq, Bool.false_eq_true, Bool.true_eq_false, reduceCtorEq, Nat.le_refl, hB, l2]
    clear ka kf
    (repeat' ((first | (rw [gF_if]; split) | (rw [condC_if]; split) | (rw [pickR_if]; split)) <;> (rename_i hh; (try simp only [Bool.not_eq_true, decide_eq_true_eq] at hh); simp only [hh, run0, run1, run2, run3, run4, noSlot, memN, RO.dst, lk, drop, forget, number, Nat.reduceBEq, cut?, splice?, builds, List.length_cons, List.length_nil, List.drop_succ_cons, List.drop_zero, List.take_succ_cons, List.take_zero, List.cons_append, List.nil_append, List.append_nil, List.drop_nil, List.take_nil, Nat.reduceAdd, Nat.reduceLeDiff, Nat.zero_add, Nat.add_zero, ↓reduceIte, Bool.not_true, Bool.not_false, decide_true, decide_false, eq_self, bne_self_eq_false, List.getElem?_cons_zero, List.getElem?_cons_succ, decide_eq_true_eq, Bool.false_eq_true, Bool.true_eq_false, reduceCtorEq, Nat.le_refl, hB, l2, l1])))
    all_goals clear hB l1 l2
    all_goals first
      | exact ⟨_, rfl, On.refl h⟩
      | (exfalso; simp_all [Shard.head, inR]; done)
      | (exfalso; simp_all [Shard.head, inR]; omega)
  | true =>
    have hg : s.good = (s.book.list.all s.acc && (List.range s.finished.length).all s.finAt) := by simp [Shard.good, hd]
    rw [hg]
    simp only [Shard.head, Bool.and_eq_true, decide_eq_true_eq, Bool.or_eq_true, beq_iff_eq, inR] at hd
    obtain ⟨d1, d2, ⟨d3, d4⟩, d5, d6⟩ := hd
    rw [d5] at hB
    have c1 : ¬ s.lo > s.hi := by omega
    have c3 : ¬ s.epoch < 1 := by omega
    have c4 : ¬ s.epoch > 1000000 := by omega
    have c6 : ¬ (s.finished.length : Int) > 60 := by omega
    have c2 : (s.state != 0) = false ∨ ((s.state != 0) = true ∧ (s.state != 1) = false) := by
      rcases d2 with d2 | d2 <;> simp [d2]
    rcases c2 with c2 | ⟨c2, c2'⟩
    · simp only [run0, run1, run2, run3, run4, noSlot, memN, RO.dst, lk, drop, forget, number, Nat.reduceBEq, cut?, splice?, builds, List.length_cons, List.length_nil, List.drop_succ_cons, List.drop_zero, List.take_succ_cons, List.take_zero, List.cons_append, List.nil_append, List.append_nil, List.drop_nil, List.take_nil, Nat.reduceAdd, Nat.reduceLeDiff, Nat.zero_add, Nat.add_zero, ↓reduceIte, Bool.not_true, Bool.not_false, decide_true, decide_false, eq_self, bne_self_eq_false, List.getElem?_cons_zero, List.getElem?_cons_succ, decide_eq_true_eq, Bool.false_eq_true, Bool.true_eq_false, reduceCtorEq, Nat.le_refl, hB, l1, l2, c1, c2, c3, c4, c6]
      rcases ka with ⟨a1, a2⟩ | ⟨a1, s', a2, a3, a4⟩
      · rw [a2, loop_run]
        conv in (codeF _ _ r244L1 _) => unfold r244L1
        simp only [run0, run1, run2, run3, run4, noSlot, memN, RO.dst, lk, drop, forget, number, Nat.reduceBEq, cut?, splice?, builds, List.length_cons, List.length_nil, List.drop_succ_cons, List.drop_zero, List.take_succ_cons, List.take_zero, List.cons_append, List.nil_append, List.append_nil, List.drop_nil, List.take_nil, Nat.reduceAdd, Nat.reduceLeDiff, Nat.zero_add, Nat.add_zero, ↓reduceIte, Bool.not_true, Bool.not_false, decide_true, decide_false, eq_self, bne_self_eq_false, List.getElem?_cons_zero, List.getElem?_cons_succ, decide_eq_true_eq, Bool.false_eq_true, Bool.true_eq_false, reduceCtorEq, Nat.le_refl, n1, l2]
        rcases kf with ⟨s'', ⟨g, hs, og, hall⟩, e⟩ | ⟨s'', e, b1, b2, j, hj, b3⟩
        · subst hs
          rw [e, loop_run]
          conv in (codeF _ _ r244L0 _) => unfold r244L0
          simp only [run0, run1, run2, run3, run4, noSlot, memN, RO.dst, lk, drop, forget, number, Nat.reduceBEq, cut?, splice?, builds, List.length_cons, List.length_nil, List.drop_succ_cons, List.drop_zero, List.take_succ_cons, List.take_zero, List.cons_append, List.nil_append, List.append_nil, List.drop_nil, List.take_nil, Nat.reduceAdd, Nat.reduceLeDiff, Nat.zero_add, Nat.add_zero, ↓reduceIte, Bool.not_true, Bool.not_false, decide_true, decide_false, eq_self, bne_self_eq_false, List.getElem?_cons_zero, List.getElem?_cons_succ, decide_eq_true_eq, Bool.false_eq_true, Bool.true_eq_false, reduceCtorEq, Nat.le_refl, n2]
          have ha : (List.range s.finished.length).all s.finAt = true := List.all_eq_true.2 fun j hj => hall j (by simpa using hj)
          exact ⟨_, by rw [a1, ha]; rfl, og⟩
        · rw [e]
          simp only [run0, run1, run2, run3, run4, noSlot, memN, RO.dst, lk, drop, forget, number, Nat.reduceBEq, cut?, splice?, builds, List.length_cons, List.length_nil, List.drop_succ_cons, List.drop_zero, List.take_succ_cons, List.take_zero, List.cons_append, List.nil_append, List.append_nil, List.drop_nil, List.take_nil, Nat.reduceAdd, Nat.reduceLeDiff, Nat.zero_add, Nat.add_zero, ↓reduceIte, Bool.not_true, Bool.not_false, decide_true, decide_false, eq_self, bne_self_eq_false, List.getElem?_cons_zero, List.getElem?_cons_succ, decide_eq_true_eq, Bool.false_eq_true, Bool.true_eq_false, reduceCtorEq, Nat.le_refl, b1]
          have ha : (List.range s.finished.length).all s.finAt = false := by
            rw [List.all_eq_false]
            exact ⟨j, by simpa using hj, by simp [b3]⟩
          exact ⟨_, by rw [a1, ha]; rfl, b2⟩
      · rw [a2]
        simp only [run0, run1, run2, run3, run4, noSlot, memN, RO.dst, lk, drop, forget, number, Nat.reduceBEq, cut?, splice?, builds, List.length_cons, List.length_nil, List.drop_succ_cons, List.drop_zero, List.take_succ_cons, List.take_zero, List.cons_append, List.nil_append, List.append_nil, List.drop_nil, List.take_nil, Nat.reduceAdd, Nat.reduceLeDiff, Nat.zero_add, Nat.add_zero, ↓reduceIte, Bool.not_true, Bool.not_false, decide_true, decide_false, eq_self, bne_self_eq_false, List.getElem?_cons_zero, List.getElem?_cons_succ, decide_eq_true_eq, Bool.false_eq_true, Bool.true_eq_false, reduceCtorEq, Nat.le_refl, a3, a4]
        exact ⟨_, by rw [a1]; rfl, On.refl h⟩
    · simp only [run0, run1, run2, run3, run4, noSlot, memN, RO.dst, lk, drop, forget, number, Nat.reduceBEq, cut?, splice?, builds, List.length_cons, List.length_nil, List.drop_succ_cons, List.drop_zero, List.take_succ_cons, List.take_zero, List.cons_append, List.nil_append, List.append_nil, List.drop_nil, List.take_nil, Nat.reduceAdd, Nat.reduceLeDiff, Nat.zero_add, Nat.add_zero, ↓reduceIte, Bool.not_true, Bool.not_false, decide_true, decide_false, eq_self, bne_self_eq_false, List.getElem?_cons_zero, List.getElem?_cons_succ, decide_eq_true_eq, Bool.false_eq_true, Bool.true_eq_false, reduceCtorEq, Nat.le_refl, hB, l1, l2, c1, c2, c2', c3, c4, c6]
      rcases ka with ⟨a1, a2⟩ | ⟨a1, s', a2, a3, a4⟩
      · rw [a2, loop_run]
        conv in (codeF _ _ r244L1 _) => unfold r244L1
        simp only [run0, run1, run2, run3, run4, noSlot, memN, RO.dst, lk, drop, forget, number, Nat.reduceBEq, cut?, splice?, builds, List.length_cons, List.length_nil, List.drop_succ_cons, List.drop_zero, List.take_succ_cons, List.take_zero, List.cons_append, List.nil_append, List.append_nil, List.drop_nil, List.take_nil, Nat.reduceAdd, Nat.reduceLeDiff, Nat.zero_add, Nat.add_zero, ↓reduceIte, Bool.not_true, Bool.not_false, decide_true, decide_false, eq_self, bne_self_eq_false, List.getElem?_cons_zero, List.getElem?_cons_succ, decide_eq_true_eq, Bool.false_eq_true, Bool.true_eq_false, reduceCtorEq, Nat.le_refl, n1, l2]
        rcases kf with ⟨s'', ⟨g, hs, og, hall⟩, e⟩ | ⟨s'', e, b1, b2, j, hj, b3⟩
        · subst hs
          rw [e, loop_run]
          conv in (codeF _ _ r244L0 _) => unfold r244L0
          simp only [run0, run1, run2, run3, run4, noSlot, memN, RO.dst, lk, drop, forget, number, Nat.reduceBEq, cut?, splice?, builds, List.length_cons, List.length_nil, List.drop_succ_cons, List.drop_zero, List.take_succ_cons, List.take_zero, List.cons_append, List.nil_append, List.append_nil, List.drop_nil, List.take_nil, Nat.reduceAdd, Nat.reduceLeDiff, Nat.zero_add, Nat.add_zero, ↓reduceIte, Bool.not_true, Bool.not_false, decide_true, decide_false, eq_self, bne_self_eq_false, List.getElem?_cons_zero, List.getElem?_cons_succ, decide_eq_true_eq, Bool.false_eq_true, Bool.true_eq_false, reduceCtorEq, Nat.le_refl, n2]
          have ha : (List.range s.finished.length).all s.finAt = true := List.all_eq_true.2 fun j hj => hall j (by simpa using hj)
          exact ⟨_, by rw [a1, ha]; rfl, og⟩
        · rw [e]
          simp only [run0, run1, run2, run3, run4, noSlot, memN, RO.dst, lk, drop, forget, number, Nat.reduceBEq, cut?, splice?, builds, List.length_cons, List.length_nil, List.drop_succ_cons, List.drop_zero, List.take_succ_cons, List.take_zero, List.cons_append, List.nil_append, List.append_nil, List.drop_nil, List.take_nil, Nat.reduceAdd, Nat.reduceLeDiff, Nat.zero_add, Nat.add_zero, ↓reduceIte, Bool.not_true, Bool.not_false, decide_true, decide_false, eq_self, bne_self_eq_false, List.getElem?_cons_zero, List.getElem?_cons_succ, decide_eq_true_eq, Bool.false_eq_true, Bool.true_eq_false, reduceCtorEq, Nat.le_refl, b1]
          have ha : (List.range s.finished.length).all s.finAt = false := by
            rw [List.all_eq_false]
            exact ⟨j, by simpa using hj, by simp [b3]⟩
          exact ⟨_, by rw [a1, ha]; rfl, b2⟩
      · rw [a2]
        simp only [run0, run1, run2, run3, run4, noSlot, memN, RO.dst, lk, drop, forget, number, Nat.reduceBEq, cut?, splice?, builds, List.length_cons, List.length_nil, List.drop_succ_cons, List.drop_zero, List.take_succ_cons, List.take_zero, List.cons_append, List.nil_append, List.append_nil, List.drop_nil, List.take_nil, Nat.reduceAdd, Nat.reduceLeDiff, Nat.zero_add, Nat.add_zero, ↓reduceIte, Bool.not_true, Bool.not_false, decide_true, decide_false, eq_self, bne_self_eq_false, List.getElem?_cons_zero, List.getElem?_cons_succ, decide_eq_true_eq, Bool.false_eq_true, Bool.true_eq_false, reduceCtorEq, Nat.le_refl, a3, a4]
        exact ⟨_, by rw [a1]; rfl, On.refl h⟩
end
end Go.Proofs.Ytlbagejkjkfkjaa.A
/- The reference's small functions of fins. -/
namespace Go.Proofs.Ytlbagejkjkfkjaa.A
open Go
set_option linter.unusedSimpArgs false
set_option linter.unusedVariables false
theorem cmpFin_lt (f g : Fin) : decide (cmpFin f g < 0) = (decide (f.tx < g.tx) || (f.tx == g.tx && decide (f.id < g.id))) := by
  unfold cmpFin orI
  by_cases h1 : f.tx < g.tx
  · have e : cmpI f.tx g.tx = -1 := by simp [cmpI, h1]
    rw [if_neg (by rw [e]; decide), e]
    simp [h1]
  · by_cases h2 : g.tx < f.tx
    · have e : cmpI f.tx g.tx = 1 := by simp [cmpI, h1, h2]
      rw [if_neg (by rw [e]; decide), e]
      have : (f.tx == g.tx) = false := by simp; omega
      simp [h1, this]
    · have e : cmpI f.tx g.tx = 0 := by simp [cmpI, h1, h2]
      rw [if_pos e]
      have ht : (f.tx == g.tx) = true := by simp; omega
      by_cases h3 : f.id < g.id
      · have e3 : cmpI f.id g.id = -1 := by simp [cmpI, h3]
        rw [e3]; simp [h1, ht, h3]
      · have e3 : ¬ cmpI f.id g.id < 0 := by
          unfold cmpI
          rw [if_neg h3]
          split <;> omega
        simp [e3, h1, h3]
section
variable {F : Nat → Option RF} {Z : CallF} {h : Heap} {x : Cell} {xs : List Fin} {fp : List Nat}
theorem l13Before_run (hS13 : Has F tS13) (f g : Fin) (h : Heap) : call F Z 242 [.agg f.enc, .agg g.enc] h = some (.c (.bool (decide (cmpFin f g < 0))), h) := by
  rw [cmpFin_lt]
  obtain ⟨t, d⟩ := f
  obtain ⟨t', d'⟩ := g
  rw [call_run F Z (hS13.lk (g := 242) rfl) _ _ rfl]
  simp only [Fin.enc, run0, run1, run2, run3, run4, noSlot, memN, RO.dst, lk, drop, forget, number, Nat.reduceBEq, cut?, splice?, builds, List.length_cons, List.length_nil, List.drop_succ_cons, List.drop_zero, List.take_succ_cons, List.take_zero, List.cons_append, List.nil_append, List.append_nil, List.drop_nil, List.take_nil, Nat.reduceAdd, Nat.reduceLeDiff, Nat.zero_add, Nat.add_zero, ↓reduceIte, Bool.not_true, Bool.not_false, decide_true, decide_false, eq_self, bne_self_eq_false, List.getElem?_cons_zero, List.getElem?_cons_succ, decide_eq_true_eq, Bool.false_eq_true, Bool.true_eq_false, reduceCtorEq, Nat.le_refl]
  (repeat' ((first | (rw [gF_if]; split) | (rw [condC_if]; split) | (rw [pickR_if]; split)) <;> (rename_i hh; (try simp only [Bool.not_eq_true, decide_eq_true_eq] at hh); simp only [hh, run0, run1, run2, run3, run4, noSlot, memN, RO.dst, lk, drop, forget, number, Nat.reduceBEq, cut?, splice?, builds, List.length_cons, List.length_nil, List.drop_succ_cons, List.drop_zero, List.take_succ_cons, List.take_zero, List.cons_append, List.nil_append, List.append_nil, List.drop_nil, List.take_nil, Nat.reduceAdd, Nat.reduceLeDiff, Nat.zero_add, Nat.add_zero, ↓reduceIte, Bool.not_true, Bool.not_false, decide_true, decide_false, eq_self, bne_self_eq_false, List.getElem?_cons_zero, List.getElem?_cons_succ, decide_eq_true_eq, Bool.false_eq_true, Bool.true_eq_false, reduceCtorEq, Nat.le_refl]))) <;> refine fin_bool ?_ <;> simp_all <;> omega
theorem l13Has_run (hS13 : Has F tS13) (w : SlR 9 (Fl Fin.enc) h x xs fp) (f : Fin) : call F Z 243 [.c x, .agg f.enc] h = some (.c (.bool (decide (f ∈ xs))), h) := by
  have hle := w.le2
  have hwl := w.len
  rw [call_run F Z (hS13.lk (g := 243) rfl) _ _ rfl]
  simp only [run0, run1, run2, run3, run4, noSlot, memN, RO.dst, lk, drop, forget, number, Nat.reduceBEq, cut?, splice?, builds, List.length_cons, List.length_nil, List.drop_succ_cons, List.drop_zero, List.take_succ_cons, List.take_zero, List.cons_append, List.nil_append, List.append_nil, List.drop_nil, List.take_nil, Nat.reduceAdd, Nat.reduceLeDiff, Nat.zero_add, Nat.add_zero, ↓reduceIte, Bool.not_true, Bool.not_false, decide_true, decide_false, eq_self, bne_self_eq_false, List.getElem?_cons_zero, List.getElem?_cons_succ, decide_eq_true_eq, Bool.false_eq_true, Bool.true_eq_false, reduceCtorEq, Nat.le_refl]
  have key := loop_find (F := F) (Z := Z) (live := [0, 3, 5]) (b := r243L0) xs (fun a => decide (a = f)) (fun i => ⟨[(0, .c x), (5, .c (.int .i64 (i : Nat)))], [(3, 3, 0)], [(3, f.enc)], h⟩) (fun i s => lk s.env 4 = some (.c (.bool true)) ∧ s.hp = h) fun i hi => by
    have hlt : (i : Int) < xs.length := by omega
    have hws := wrapS i (by omega)
    have hxi := w.idx hi
    have hld := w.load hi
    generalize xs[i] = a at *
    obtain ⟨t, d⟩ := a
    obtain ⟨t', d'⟩ := f
    rw [loop_run]
    conv in (codeF _ _ r243L0 _) => unfold r243L0
    have fe := fin_eqs t d t' d'
    simp only [run0, run1, run2, run3, run4, noSlot, memN, RO.dst, lk, drop, forget, number, Nat.reduceBEq, cut?, splice?, builds, List.length_cons, List.length_nil, List.drop_succ_cons, List.drop_zero, List.take_succ_cons, List.take_zero, List.cons_append, List.nil_append, List.append_nil, List.drop_nil, List.take_nil, Nat.reduceAdd, Nat.reduceLeDiff, Nat.zero_add, Nat.add_zero, ↓reduceIte, Bool.not_true, Bool.not_false, decide_true, decide_false, eq_self, bne_self_eq_false, List.getElem?_cons_zero, List.getElem?_cons_succ, decide_eq_true_eq, Bool.false_eq_true, Bool.true_eq_false, reduceCtorEq, Nat.le_refl, hwl, hlt, hxi, hld, Fin.enc, fe]
    clear hxi hld fe w
    (repeat' ((first | (rw [gF_if]; split) | (rw [condC_if]; split) | (rw [pickR_if]; split)) <;> (rename_i hh; (try simp only [Bool.not_eq_true, decide_eq_true_eq] at hh); simp only [hh, run0, run1, run2, run3, run4, noSlot, memN, RO.dst, lk, drop, forget, number, Nat.reduceBEq, cut?, splice?, builds, List.length_cons, List.length_nil, List.drop_succ_cons, List.drop_zero, List.take_succ_cons, List.take_zero, List.cons_append, List.nil_append, List.append_nil, List.drop_nil, List.take_nil, Nat.reduceAdd, Nat.reduceLeDiff, Nat.zero_add, Nat.add_zero, ↓reduceIte, Bool.not_true, Bool.not_false, decide_true, decide_false, eq_self, bne_self_eq_false, List.getElem?_cons_zero, List.getElem?_cons_succ, decide_eq_true_eq, Bool.false_eq_true, Bool.true_eq_false, reduceCtorEq, Nat.le_refl, hws]))) <;> first
      | exact .inl ⟨by simp_all, rfl⟩
      | exact .inr ⟨by simp_all, _, rfl, rfl, rfl⟩
  have hlt : ¬ (xs.length : Int) < xs.length := by omega
  simp only [show ((0 : Nat) : Int) = 0 from rfl] at key
  rcases key with ⟨k1, k2⟩ | ⟨i, k1, hi, s, k2, k3, k4⟩
  · rw [k2, loop_run]
    conv in (codeF _ _ r243L0 _) => unfold r243L0
    rw [List.findIdx?_eq_none_iff] at k1
    have : ¬ f ∈ xs := fun hm => by simpa using k1 f hm
    simp only [run0, run1, run2, run3, run4, noSlot, memN, RO.dst, lk, drop, forget, number, Nat.reduceBEq, cut?, splice?, builds, List.length_cons, List.length_nil, List.drop_succ_cons, List.drop_zero, List.take_succ_cons, List.take_zero, List.cons_append, List.nil_append, List.append_nil, List.drop_nil, List.take_nil, Nat.reduceAdd, Nat.reduceLeDiff, Nat.zero_add, Nat.add_zero, ↓reduceIte, Bool.not_true, Bool.not_false, decide_true, decide_false, eq_self, bne_self_eq_false, List.getElem?_cons_zero, List.getElem?_cons_succ, decide_eq_true_eq, Bool.false_eq_true, Bool.true_eq_false, reduceCtorEq, Nat.le_refl, hwl, hlt, this]
  · rw [k2]
    rw [List.findIdx?_eq_some_iff_getElem] at k1
    obtain ⟨hi, h2, _⟩ := k1
    have : f ∈ xs := by
      have : xs[i] = f := by simpa using h2
      rw [← this]; exact List.getElem_mem hi
    simp only [run0, run1, run2, run3, run4, noSlot, memN, RO.dst, lk, drop, forget, number, Nat.reduceBEq, cut?, splice?, builds, List.length_cons, List.length_nil, List.drop_succ_cons, List.drop_zero, List.take_succ_cons, List.take_zero, List.cons_append, List.nil_append, List.append_nil, List.drop_nil, List.take_nil, Nat.reduceAdd, Nat.reduceLeDiff, Nat.zero_add, Nat.add_zero, ↓reduceIte, Bool.not_true, Bool.not_false, decide_true, decide_false, eq_self, bne_self_eq_false, List.getElem?_cons_zero, List.getElem?_cons_succ, decide_eq_true_eq, Bool.false_eq_true, Bool.true_eq_false, reduceCtorEq, Nat.le_refl, k3, k4, this]
end
end Go.Proofs.Ytlbagejkjkfkjaa.A
/- Is a shard right, by the reference? -/
namespace Go.Proofs.Ytlbagejkjkfkjaa.A
open Go
set_option linter.unusedSimpArgs false
set_option linter.unusedVariables false
section
variable {F : Nat → Option RF} {Z : CallF} {h : Heap} {cs : List Cell} {s : Shard} {fp fq : List Nat} {x y : Cell}
set_option maxHeartbeats 2000000 in
theorem l13Shard_accs (hS13 : Has F tS13) (w : SlR 11 (Fl Account.enc) h x s.book.list fp) (v : SlR 9 (Fl Fin.enc) h y s.finished fq) :
    Turn (loop F Z [1, 5] r204L0 ⟨[(5, .c (.int .i64 (0 : Nat)))], [(1, 1, 0)], [(1, [.int .u64 s.lo, .int .u64 s.hi, .int .i64 s.state, .int .i64 s.epoch, x, y])], h⟩)
      (loop F Z [1, 5] r204L0 ⟨[(5, .c (.int .i64 (s.book.list.length : Nat)))], [(1, 1, 0)], [(1, [.int .u64 s.lo, .int .u64 s.hi, .int .i64 s.state, .int .i64 s.epoch, x, y])], h⟩) (s.book.list.all s.acc) (fun s => lk s.env 2 = some (.c (.bool false)) ∧ s.hp = h) := by
  have hle := w.le2
  refine loop_all (F := F) (Z := Z) (live := [1, 5]) (b := r204L0) s.book.list (fun i => ⟨[(5, .c (.int .i64 (i : Nat)))], [(1, 1, 0)], [(1, [.int .u64 s.lo, .int .u64 s.hi, .int .i64 s.state, .int .i64 s.epoch, x, y])], h⟩) s.acc _ fun i hi => ?_
  have hlt : (i : Int) < s.book.list.length := by omega
  have hws := wrapS i (by omega)
  have hwl := w.len
  have hxi := w.idx hi
  have hld := w.load hi
  have hc : ∀ t d, call F Z 243 [.c y, .agg [.int .i64 t, .int .u64 d]] h = some (.c (.bool (decide ((⟨t, d⟩ : Fin) ∈ s.finished))), h) := fun t d => l13Has_run hS13 v ⟨t, d⟩
  rw [loop_run]
  conv in (codeF _ _ r204L0 _) => unfold r204L0
  simp only [run0, run1, run2, run3, run4, noSlot, memN, RO.dst, lk, drop, forget, number, Nat.reduceBEq, cut?, splice?, builds, List.length_cons, List.length_nil, List.drop_succ_cons, List.drop_zero, List.take_succ_cons, List.take_zero, List.cons_append, List.nil_append, List.append_nil, List.drop_nil, List.take_nil, Nat.reduceAdd, Nat.reduceLeDiff, Nat.zero_add, Nat.add_zero, ↓reduceIte, Bool.not_true, Bool.not_false, decide_true, decide_false, eq_self, bne_self_eq_false, List.getElem?_cons_zero, List.getElem?_cons_succ, decide_eq_true_eq, Bool.false_eq_true, Bool.true_eq_false, reduceCtorEq, Nat.le_refl, hwl, hlt, hxi, hld, Account.enc, hc]
  generalize s.book.list[i] = a
  clear hxi hld w v
  (repeat' ((first | (rw [gF_if]; split) | (rw [condC_if]; split) | (rw [pickR_if]; split)) <;> (rename_i hh; (try simp only [Bool.not_eq_true, decide_eq_true_eq] at hh); simp only [hh, run0, run1, run2, run3, run4, noSlot, memN, RO.dst, lk, drop, forget, number, Nat.reduceBEq, cut?, splice?, builds, List.length_cons, List.length_nil, List.drop_succ_cons, List.drop_zero, List.take_succ_cons, List.take_zero, List.cons_append, List.nil_append, List.append_nil, List.drop_nil, List.take_nil, Nat.reduceAdd, Nat.reduceLeDiff, Nat.zero_add, Nat.add_zero, ↓reduceIte, Bool.not_true, Bool.not_false, decide_true, decide_false, eq_self, bne_self_eq_false, List.getElem?_cons_zero, List.getElem?_cons_succ, decide_eq_true_eq, Bool.false_eq_true, Bool.true_eq_false, reduceCtorEq, Nat.le_refl, hws, hc]))) <;> clear hc <;> first
    | exact .inl ⟨by simp_all [Shard.acc] <;> omega, rfl⟩
    | exact .inr ⟨by simp_all [Shard.acc] <;> omega, _, rfl, rfl, rfl⟩
set_option maxHeartbeats 4000000 in
theorem l13Shard_fins (hS13 : Has F tS13) (v : SlR 9 (Fl Fin.enc) h y s.finished fq) :
    Turn (loop F Z [1, 3] r204L1 ⟨[(3, .c (.int .i64 (0 : Nat)))], [(1, 1, 0)], [(1, [.int .u64 s.lo, .int .u64 s.hi, .int .i64 s.state, .int .i64 s.epoch, x, y])], h⟩)
      (loop F Z [1, 3] r204L1 ⟨[(3, .c (.int .i64 (s.finished.length : Nat)))], [(1, 1, 0)], [(1, [.int .u64 s.lo, .int .u64 s.hi, .int .i64 s.state, .int .i64 s.epoch, x, y])], h⟩) ((List.range s.finished.length).all s.finAt) (fun s => lk s.env 2 = some (.c (.bool false)) ∧ s.hp = h) := by
  have hle := v.le2
  refine loop_allN (F := F) (Z := Z) (live := [1, 3]) (b := r204L1) s.finished.length (fun i => ⟨[(3, .c (.int .i64 (i : Nat)))], [(1, 1, 0)], [(1, [.int .u64 s.lo, .int .u64 s.hi, .int .i64 s.state, .int .i64 s.epoch, x, y])], h⟩) s.finAt _ fun i hi => ?_
  have hlt : (i : Int) < s.finished.length := by omega
  have hws := wrapS i (by omega)
  have hwl := v.len
  have hxi := v.idx hi
  have hld : ∀ j n, loadP h y.sid i j n = cut? (Fin.at_ s.finished i).enc j n := v.loadD Fin.none_ hi
  have hfin : s.finAt i = (decide (1 ≤ (Fin.at_ s.finished i).tx) && (decide (s.lo ≤ (Fin.at_ s.finished i).id) && (decide ((Fin.at_ s.finished i).id ≤ s.hi) && (i == 0 || decide (cmpFin (Fin.at_ s.finished (i - 1)) (Fin.at_ s.finished i) < 0))))) := rfl
  have hpre : 0 < i → IntKind.i64.wrap ((i : Int) - 1) = ((i - 1 : Nat) : Int) := fun hp => by rw [wrapI _ (by omega) (by omega)]; omega
  have hpi : 0 < i → idxR 9 (some y) (some ((i - 1 : Nat) : Int)) = some (.ptr y.sid (i - 1) 0) := fun hp => v.idx (by omega)
  have hpl : 0 < i → ∀ j n, loadP h y.sid (i - 1) j n = cut? (Fin.at_ s.finished (i - 1)).enc j n := fun hp => v.loadD Fin.none_ (by omega)
  clear v
  generalize s.finAt i = fa at *
  generalize Fin.at_ s.finished (i - 1) = pf at *
  generalize Fin.at_ s.finished i = f at *
  have cf := fun g => l13Before_run (Z := Z) hS13 pf f g
  obtain ⟨t, d⟩ := f
  obtain ⟨t', d'⟩ := pf
  simp only [Fin.enc] at cf hld hpl
  rw [loop_run]
  conv in (codeF _ _ r204L1 _) => unfold r204L1
  simp only [run0, run1, run2, run3, run4, noSlot, memN, RO.dst, lk, drop, forget, number, Nat.reduceBEq, cut?, splice?, builds, List.length_cons, List.length_nil, List.drop_succ_cons, List.drop_zero, List.take_succ_cons, List.take_zero, List.cons_append, List.nil_append, List.append_nil, List.drop_nil, List.take_nil, Nat.reduceAdd, Nat.reduceLeDiff, Nat.zero_add, Nat.add_zero, ↓reduceIte, Bool.not_true, Bool.not_false, decide_true, decide_false, eq_self, bne_self_eq_false, List.getElem?_cons_zero, List.getElem?_cons_succ, decide_eq_true_eq, Bool.false_eq_true, Bool.true_eq_false, reduceCtorEq, Nat.le_refl, hwl, hlt, hxi, hld]
  by_cases hp : 0 < i
  · have g1 : (i : Int) > 0 := by omega
    have hi0 : (i == 0) = false := by simp; omega
    have q1 := hpre hp
    have q2 := hpi hp
    have q3 := hpl hp
    clear hxi hpre hpi hpl
    (repeat' ((first | (rw [gF_if]; split) | (rw [condC_if]; split) | (rw [pickR_if]; split)) <;> (rename_i hh; (try simp only [Bool.not_eq_true, decide_eq_true_eq] at hh); simp only [hh, run0, run1, run2, run3, run4, noSlot, memN, RO.dst, lk, drop, forget, number, Nat.reduceBEq, cut?, splice?, builds, List.length_cons, List.length_nil, List.drop_succ_cons, List.drop_zero, List.take_succ_cons, List.take_zero, List.cons_append, List.nil_append, List.append_nil, List.drop_nil, List.take_nil, Nat.reduceAdd, Nat.reduceLeDiff, Nat.zero_add, Nat.add_zero, ↓reduceIte, Bool.not_true, Bool.not_false, decide_true, decide_false, eq_self, bne_self_eq_false, List.getElem?_cons_zero, List.getElem?_cons_succ, decide_eq_true_eq, Bool.false_eq_true, Bool.true_eq_false, reduceCtorEq, Nat.le_refl, hws, g1, q1, q2, q3, cf, hld])))
    all_goals clear q2 q3 cf hld
    all_goals first
      | (exfalso; omega)
      | exact .inl ⟨by simp_all <;> omega, rfl⟩
      | exact .inr ⟨by simp_all <;> omega, _, rfl, rfl, rfl⟩
  · have g1 : ¬ (i : Int) > 0 := by omega
    have hi0 : (i == 0) = true := by simp; omega
    clear hxi hpre hpi hpl cf
    (repeat' ((first | (rw [gF_if]; split) | (rw [condC_if]; split) | (rw [pickR_if]; split)) <;> (rename_i hh; (try simp only [Bool.not_eq_true, decide_eq_true_eq] at hh); simp only [hh, run0, run1, run2, run3, run4, noSlot, memN, RO.dst, lk, drop, forget, number, Nat.reduceBEq, cut?, splice?, builds, List.length_cons, List.length_nil, List.drop_succ_cons, List.drop_zero, List.take_succ_cons, List.take_zero, List.cons_append, List.nil_append, List.append_nil, List.drop_nil, List.take_nil, Nat.reduceAdd, Nat.reduceLeDiff, Nat.zero_add, Nat.add_zero, ↓reduceIte, Bool.not_true, Bool.not_false, decide_true, decide_false, eq_self, bne_self_eq_false, List.getElem?_cons_zero, List.getElem?_cons_succ, decide_eq_true_eq, Bool.false_eq_true, Bool.true_eq_false, reduceCtorEq, Nat.le_refl, hws, g1, hld])))
    all_goals clear hld
    all_goals first
      | (exfalso; omega)
      | exact .inl ⟨by simp_all <;> omega, rfl⟩
      | exact .inr ⟨by simp_all <;> omega, _, rfl, rfl, rfl⟩
set_option maxHeartbeats 4000000 in
theorem l13Shard_run (hS : Has F tS01d) (hS10 : Has F tS10) (hS13 : Has F tS13) (v : Shard.RI h cs s fp) (ok : s.Ok) : call F Z 204 [.agg cs] h = some (.c (.bool s.good), h) := by
  obtain ⟨x, p, y, q, rfl, rfl, w, u⟩ := v
  have hB := sBookOk_run (Z := Z) hS10 w ok.book.list
  have ka := l13Shard_accs (Z := Z) (s := s) hS13 w u
  have kf := l13Shard_fins (Z := Z) (s := s) (x := x) hS13 u
  have l1 := w.len
  have l2 := u.len
  have n1 : ¬ (s.book.list.length : Int) < s.book.list.length := by omega
  have n2 : ¬ (s.finished.length : Int) < s.finished.length := by omega
  clear w u
  rw [call_run F Z (hS13.lk (g := 204) rfl) _ _ rfl]
  simp only [show ((0 : Nat) : Int) = 0 from rfl] at ka kf
  cases hd : s.head with
  | false =>
    have hg : s.good = false := by simp [Shard.good, hd]
    rw [hg]
    simp only [run0, run1, run2, run3, run4, noSlot, memN, RO.dst, lk, drop, forget, number, Nat.reduceBEq, cut?, splice?, builds, List.length_cons, List.length_nil, List.drop_succ_cons, List.drop_zero, List.take_succ_cons, List.take_zero, List.cons_append, List.nil_append, List.append_nil, List.drop_nil, List.take_nil, Nat.reduceAdd, Nat.reduceLeDiff, Nat.zero_add, Nat.add_zero, ↓reduceIte, Bool.not_true, Bool.not_false, decide_true, decide_false, eq_self, bne_self_eq_false, List.getElem?_cons_zero, List.getElem?_cons_succ, decide_eq_true_eq, Bool.false_eq_true, Bool.true_eq_false, reduceCtorEq, Nat.le_refl, hB, l2, l01In_run hS]
    clear ka kf
    (repeat' ((first | (rw [gF_if]; split) | (rw [condC_if]; split) | (rw [pickR_if]; split)) <;> (rename_i hh; (try simp only [Bool.not_eq_true, decide_eq_true_eq] at hh); simp only [hh, run0, run1, run2, run3, run4, noSlot, memN, RO.dst, lk, drop, forget, number, Nat.reduceBEq, cut?, splice?, builds, List.length_cons, List.length_nil, List.drop_succ_cons, List.drop_zero, List.take_succ_cons, List.take_zero, List.cons_append, List.nil_append, List.append_nil, List.drop_nil, List.take_nil, Nat.reduceAdd, Nat.reduceLeDiff, Nat.zero_add, Nat.add_zero, ↓reduceIte, Bool.not_true, Bool.not_false, decide_true, decide_false, eq_self, bne_self_eq_false, List.getElem?_cons_zero, List.getElem?_cons_succ, decide_eq_true_eq, Bool.false_eq_true, Bool.true_eq_false, reduceCtorEq, Nat.le_refl, hB, l2, l1, l01In_run hS])))
    all_goals clear hB l1 l2
    all_goals first
      | rfl
      | (exfalso; simp_all [Shard.head, inR]; done)
      | (exfalso; simp_all [Shard.head, inR]; omega)
  | true =>
    have hg : s.good = (s.book.list.all s.acc && (List.range s.finished.length).all s.finAt) := by simp [Shard.good, hd]
    rw [hg]
    simp only [Shard.head, Bool.and_eq_true, decide_eq_true_eq, Bool.or_eq_true, beq_iff_eq] at hd
    obtain ⟨d1, d2, d3, d5, d6⟩ := hd
    rw [d5] at hB
    have c1 : ¬ s.lo > s.hi := by omega
    have c2 : inR s.state 0 1 = true := by rcases d2 with d2 | d2 <;> simp [inR, d2]
    have c6 : ¬ (s.finished.length : Int) > 60 := by omega
    · simp only [run0, run1, run2, run3, run4, noSlot, memN, RO.dst, lk, drop, forget, number, Nat.reduceBEq, cut?, splice?, builds, List.length_cons, List.length_nil, List.drop_succ_cons, List.drop_zero, List.take_succ_cons, List.take_zero, List.cons_append, List.nil_append, List.append_nil, List.drop_nil, List.take_nil, Nat.reduceAdd, Nat.reduceLeDiff, Nat.zero_add, Nat.add_zero, ↓reduceIte, Bool.not_true, Bool.not_false, decide_true, decide_false, eq_self, bne_self_eq_false, List.getElem?_cons_zero, List.getElem?_cons_succ, decide_eq_true_eq, Bool.false_eq_true, Bool.true_eq_false, reduceCtorEq, Nat.le_refl, hB, l1, l2, c1, c2, d3, c6, l01In_run hS]
      rcases kf with ⟨a1, a2⟩ | ⟨a1, s', a2, a3, a4⟩
      · rw [a2, loop_run]
        conv in (codeF _ _ r204L1 _) => unfold r204L1
        simp only [run0, run1, run2, run3, run4, noSlot, memN, RO.dst, lk, drop, forget, number, Nat.reduceBEq, cut?, splice?, builds, List.length_cons, List.length_nil, List.drop_succ_cons, List.drop_zero, List.take_succ_cons, List.take_zero, List.cons_append, List.nil_append, List.append_nil, List.drop_nil, List.take_nil, Nat.reduceAdd, Nat.reduceLeDiff, Nat.zero_add, Nat.add_zero, ↓reduceIte, Bool.not_true, Bool.not_false, decide_true, decide_false, eq_self, bne_self_eq_false, List.getElem?_cons_zero, List.getElem?_cons_succ, decide_eq_true_eq, Bool.false_eq_true, Bool.true_eq_false, reduceCtorEq, Nat.le_refl, l2, n2]
        rcases ka with ⟨b1, b2⟩ | ⟨b1, s', b2, b3, b4⟩
        · rw [b2, loop_run]
          conv in (codeF _ _ r204L0 _) => unfold r204L0
          simp only [run0, run1, run2, run3, run4, noSlot, memN, RO.dst, lk, drop, forget, number, Nat.reduceBEq, cut?, splice?, builds, List.length_cons, List.length_nil, List.drop_succ_cons, List.drop_zero, List.take_succ_cons, List.take_zero, List.cons_append, List.nil_append, List.append_nil, List.drop_nil, List.take_nil, Nat.reduceAdd, Nat.reduceLeDiff, Nat.zero_add, Nat.add_zero, ↓reduceIte, Bool.not_true, Bool.not_false, decide_true, decide_false, eq_self, bne_self_eq_false, List.getElem?_cons_zero, List.getElem?_cons_succ, decide_eq_true_eq, Bool.false_eq_true, Bool.true_eq_false, reduceCtorEq, Nat.le_refl, l1, n1, a1, b1, Bool.and_self]
        · rw [b2]
          simp only [run0, run1, run2, run3, run4, noSlot, memN, RO.dst, lk, drop, forget, number, Nat.reduceBEq, cut?, splice?, builds, List.length_cons, List.length_nil, List.drop_succ_cons, List.drop_zero, List.take_succ_cons, List.take_zero, List.cons_append, List.nil_append, List.append_nil, List.drop_nil, List.take_nil, Nat.reduceAdd, Nat.reduceLeDiff, Nat.zero_add, Nat.add_zero, ↓reduceIte, Bool.not_true, Bool.not_false, decide_true, decide_false, eq_self, bne_self_eq_false, List.getElem?_cons_zero, List.getElem?_cons_succ, decide_eq_true_eq, Bool.false_eq_true, Bool.true_eq_false, reduceCtorEq, Nat.le_refl, b3, b4, b1, Bool.false_and]
      · rw [a2]
        simp only [run0, run1, run2, run3, run4, noSlot, memN, RO.dst, lk, drop, forget, number, Nat.reduceBEq, cut?, splice?, builds, List.length_cons, List.length_nil, List.drop_succ_cons, List.drop_zero, List.take_succ_cons, List.take_zero, List.cons_append, List.nil_append, List.append_nil, List.drop_nil, List.take_nil, Nat.reduceAdd, Nat.reduceLeDiff, Nat.zero_add, Nat.add_zero, ↓reduceIte, Bool.not_true, Bool.not_false, decide_true, decide_false, eq_self, bne_self_eq_false, List.getElem?_cons_zero, List.getElem?_cons_succ, decide_eq_true_eq, Bool.false_eq_true, Bool.true_eq_false, reduceCtorEq, Nat.le_refl, a3, a4, a1, Bool.and_false]
end
end Go.Proofs.Ytlbagejkjkfkjaa.A
/- Rows of data with memory of their own: read, and filled one by one. -/
namespace Go.Proofs.Ytlbagejkjkfkjaa.A
open Go
set_option linter.unusedSimpArgs false
set_option linter.unusedVariables false
section
variable {α : Type} {R : Rel α} {tag : Nat} {h : Heap} {x : Cell} {xs : List α} {fp : List Nat}
/-- One row of a slice. -/
theorem SlR.one (w : SlR tag R h x xs fp) {i : Nat} (hi : i < xs.length) : ∃ r f, (∀ j n, loadP h x.sid i j n = cut? r j n) ∧ R h r xs[i] f ∧ ∀ id, id ∈ f → id ∈ fp := by
  obtain ⟨r, f, h1, h2, h3⟩ := w.row hi
  exact ⟨r, f, fun j n => by simp [loadP, h1], h2, h3⟩
/-- Rows of which the first are filled. -/
structure Filled (R : Rel α) (h0 g : Heap) (o : Nat) (z : List Cell) (xs : List α) (i : Nat) (rows : List (List Cell)) (fps : List (List Nat)) : Prop where
  on : On h0 g
  ge : h0.next ≤ o
  lt : o < g.next
  get : g.get o = some rows
  len : rows.length = xs.length
  rel : AllR R g (rows.take i) (xs.take i) fps
  rest : ∀ j, i ≤ j → j < xs.length → rows[j]? = some z
  nd : fps.flatten.Nodup
  out : ∀ id, id ∈ fps.flatten → o < id
theorem AllR.snoc {h : Heap} : ∀ {rows : List (List Cell)} {xs : List α} {fps : List (List Nat)}, AllR R h rows xs fps → ∀ {r a f}, R h r a f → AllR R h (rows ++ [r]) (xs ++ [a]) (fps ++ [f])
  | [], [], [], _ => fun w => ⟨w, trivial⟩
  | _ :: _, _ :: _, _ :: _, ⟨w1, w⟩ => fun w2 => ⟨w1, w.snoc w2⟩
  | [], [], _ :: _, w => w.elim
  | [], _ :: _, _, w => w.elim
  | _ :: _, [], _, w => w.elim
  | _ :: _, _ :: _, [], w => w.elim
theorem Filled.start (h : Heap) (z : List Cell) (xs : List α) : Filled R h (h.push (List.replicate xs.length z)) h.next z xs 0 (List.replicate xs.length z) [] where
  on := On.push _ _
  ge := Nat.le_refl _
  lt := by rw [push_next]; omega
  get := push_get _ _
  len := by simp
  rel := trivial
  rest := fun j _ hj => by rw [List.getElem?_replicate, if_pos hj]
  nd := List.nodup_nil
  out := fun id hid => by simp at hid
/-- One more row. -/
theorem Filled.step (ok : RelOk R) {h0 g g' : Heap} {o : Nat} {z : List Cell} {i : Nat} {rows : List (List Cell)} {fps : List (List Nat)} (w : Filled R h0 g o z xs i rows fps) (hf : h0.floor ≤ h0.next) (hi : i < xs.length)
    {cs : List Cell} {fq : List Nat} (hz : cs.length = z.length) (o' : On g g') (v : R g' cs xs[i] fq) (f : Fre g fq) :
    storeP g' o i 0 cs = some (g'.put o (rows.set i cs)) ∧ Filled R h0 (g'.put o (rows.set i cs)) o z xs (i + 1) (rows.set i cs) (fps ++ [fq]) := by
  have hget : g'.get o = some rows := by rw [o'.ext.2 o w.lt]; exact w.get
  have hri : rows[i]? = some z := w.rest i (Nat.le_refl _) hi
  have hfl : g'.floor ≤ o := by rw [o'.fl, w.on.fl]; exact Nat.le_trans hf w.ge
  have hlen : i < rows.length := by rw [w.len]; exact hi
  have hput : ∀ id, id ≠ o → (g'.put o (rows.set i cs)).get id = g'.get id := fun id hid => by simp only [Heap.put]; rw [if_neg hid]
  have hin : ∀ id, id ∈ fps.flatten → id < g.next := by
    intro id hid
    exact w.rel.lt ok id hid
  refine ⟨?_, ?_⟩
  · refine storeP_at hfl hget hri ?_
    rw [splice?, if_pos (by omega)]
    simp [← hz]
  · refine ⟨⟨⟨Nat.le_trans w.on.ext.1 o'.ext.1, fun id hid => ?_⟩, o'.fl.trans w.on.fl⟩, w.ge, Nat.lt_of_lt_of_le w.lt o'.ext.1, by simp [Heap.put], by simp [w.len], ?_, fun j h1 h2 => ?_, ?_, fun id hid => ?_⟩
    · have := w.ge
      rw [hput id (by omega), o'.ext.2 id (Nat.lt_of_lt_of_le hid w.on.ext.1)]
      exact w.on.ext.2 id hid
    · have e1 : (rows.set i cs).take (i + 1) = rows.take i ++ [cs] := by
        rw [List.take_add_one, List.getElem?_set_self hlen]
        rw [List.take_set, List.set_eq_of_length_le (by simp; omega)]
        rfl
      have e2 : xs.take (i + 1) = xs.take i ++ [xs[i]] := by rw [List.take_add_one, List.getElem?_eq_getElem hi]; rfl
      rw [e1, e2]
      have v' : R (g'.put o (rows.set i cs)) cs xs[i] fq := ok.mv v (Nat.le_refl _) fun id hid => hput id (by have := f.lo id hid; have := w.lt; omega)
      refine AllR.snoc (w.rel.mv (h' := g'.put o (rows.set i cs)) ok o'.ext.1 fun id hid => ?_) v'
      rw [hput id (by have := w.out id hid; omega)]
      exact o'.ext.2 id (hin id hid)
    · rw [List.getElem?_set_ne (by omega)]
      exact w.rest j (by omega) h2
    · rw [List.flatten_append]
      simp only [List.flatten_cons, List.flatten_nil, List.append_nil]
      exact List.nodup_append.2 ⟨w.nd, f.nd, fun a ha b hb => by have := hin a ha; have := f.lo b hb; omega⟩
    · rw [List.flatten_append] at hid
      simp only [List.flatten_cons, List.flatten_nil, List.append_nil] at hid
      rcases List.mem_append.1 hid with hid | hid
      · exact w.out id hid
      · have := f.lo id hid
        have := w.lt
        omega
theorem Filled.all {h0 g : Heap} {o : Nat} {z : List Cell} {rows : List (List Cell)} {fps : List (List Nat)} (w : Filled R h0 g o z xs xs.length rows fps) (hl : xs.length ≤ 1048576) (tag : Nat) :
    On h0 g ∧ SlR tag R g (.sl tag o 0 xs.length) xs (o :: fps.flatten) ∧ Fre h0 (o :: fps.flatten) := by
  have hr := w.rel
  rw [List.take_length, ← w.len, List.take_length] at hr
  refine ⟨w.on, ⟨by unfold maxLen; omega, .inr ⟨o, rows, fps, rfl, w.get, w.lt, rfl, hr⟩⟩, ⟨fun id hid => ?_, ?_⟩⟩
  · have := w.ge
    rcases List.mem_cons.1 hid with rfl | hid
    · omega
    · have := w.out id hid; omega
  · exact List.nodup_cons.2 ⟨fun hc => by have := w.out o hc; omega, w.nd⟩
end
end Go.Proofs.Ytlbagejkjkfkjaa.A
/- What the converters of slices of Shard compute. -/
namespace Go.Proofs.Ytlbagejkjkfkjaa.A
open Go
set_option linter.unusedSimpArgs false
set_option linter.unusedVariables false
def Shard.zeroC : List Cell := [.int .u64 0, .int .u64 0, .int .i64 0, .int .i64 0, .nil, .nil]
theorem Wf.isShardS' {h : Heap} {n : Nat} {a : List Cell} (w : Wf h (n + 6) shShardS a) : ∃ x xs fp, a = [x] ∧ SlR 20 Shard.RL h x xs fp ∧ ∀ t, t ∈ xs → t.Ok := by
  have hx : ∃ x, a = [x] := by rcases w with w | ⟨_, _, w, _⟩ <;> exact ⟨_, w⟩
  obtain ⟨x, rfl⟩ := hx
  obtain ⟨xs, fp, v, ok⟩ := SlR.ofWf (R := Shard.RL) (A := fun t => t.Ok) (fun r hr => by obtain ⟨t, fp, v, ok⟩ := Wf.isShard hr.2; exact ⟨t, fp, v, ok⟩) w
  exact ⟨x, xs, fp, rfl, v, ok⟩
section
variable {F : Nat → Option RF} {Z : CallF} {h : Heap} {x y : Cell} {xs ys : List Shard} {fp fq : List Nat}
theorem szShardS_c (hLShard : Has F tLShard) (hLBook : Has F tLBook) (hLAccount : Has F tLAccount) (hLFin : Has F tLFin) (w : SlR 20 Shard.RL h x xs fp) (left : Int) (h1 : 0 ≤ left) (h2 : left ≤ 1048576) : ∃ r, call F Z 203 [.c x, .c (.int .i64 left)] h = some (.c (.int .i64 r), h) ∧ r ≤ left ∧ (0 ≤ r → xs.length ≤ 1048576 ∧ ∀ a, a ∈ xs → a.Small) := by
  have hle := w.le2
  rw [call_run F Z (hLShard.lk (g := 203) rfl) _ _ rfl]
  simp only [run0, run1, run2, run3, run4, noSlot, memN, RO.dst, lk, drop, forget, number, Nat.reduceBEq, cut?, splice?, builds, List.length_cons, List.length_nil, List.drop_succ_cons, List.drop_zero, List.take_succ_cons, List.take_zero, List.cons_append, List.nil_append, List.append_nil, List.drop_nil, List.take_nil, Nat.reduceAdd, Nat.reduceLeDiff, Nat.zero_add, Nat.add_zero, ↓reduceIte, Bool.not_true, Bool.not_false, decide_true, decide_false, eq_self, bne_self_eq_false, List.getElem?_cons_zero, List.getElem?_cons_succ, decide_eq_true_eq, Bool.false_eq_true, Bool.true_eq_false, reduceCtorEq, Nat.le_refl, w.len, wrapI (left - xs.length) (by omega) (by omega)]
  by_cases n0 : left - xs.length < 0
  · simp only [run0, run1, run2, run3, run4, noSlot, memN, RO.dst, lk, drop, forget, number, Nat.reduceBEq, cut?, splice?, builds, List.length_cons, List.length_nil, List.drop_succ_cons, List.drop_zero, List.take_succ_cons, List.take_zero, List.cons_append, List.nil_append, List.append_nil, List.drop_nil, List.take_nil, Nat.reduceAdd, Nat.reduceLeDiff, Nat.zero_add, Nat.add_zero, ↓reduceIte, Bool.not_true, Bool.not_false, decide_true, decide_false, eq_self, bne_self_eq_false, List.getElem?_cons_zero, List.getElem?_cons_succ, decide_eq_true_eq, Bool.false_eq_true, Bool.true_eq_false, reduceCtorEq, Nat.le_refl, n0]
    exact ⟨_, rfl, by omega, by omega⟩
  simp only [run0, run1, run2, run3, run4, noSlot, memN, RO.dst, lk, drop, forget, number, Nat.reduceBEq, cut?, splice?, builds, List.length_cons, List.length_nil, List.drop_succ_cons, List.drop_zero, List.take_succ_cons, List.take_zero, List.cons_append, List.nil_append, List.append_nil, List.drop_nil, List.take_nil, Nat.reduceAdd, Nat.reduceLeDiff, Nat.zero_add, Nat.add_zero, ↓reduceIte, Bool.not_true, Bool.not_false, decide_true, decide_false, eq_self, bne_self_eq_false, List.getElem?_cons_zero, List.getElem?_cons_succ, decide_eq_true_eq, Bool.false_eq_true, Bool.true_eq_false, reduceCtorEq, Nat.le_refl, n0]
  rcases loop_rel (F := F) (Z := Z) (live := [0, 1, 5]) (b := r203L0) xs.length (fun i s => ∃ l, s = ⟨[(0, .c x), (1, .c (.int .i64 l)), (5, .c (.int .i64 (i : Nat)))], [], [], h⟩ ∧ 0 ≤ l ∧ l ≤ left ∧ ∀ a, a ∈ xs.take i → a.Small) (fun s => lk s.env 4 = some (.c (.int .i64 (-1))) ∧ s.hp = h) (fun i s hi ⟨l, hs, q1, q2, q3⟩ => by
    subst hs
    obtain ⟨r, f, hld, hr, _⟩ := w.one hi
    obtain ⟨l1, l2, l3⟩ := Shard.lenL hr
    obtain ⟨l', e, k1, k2⟩ := szShard_c (Z := Z) hLShard hLBook hLAccount hLFin hr l q1 (by omega)
    have hlt : (i : Int) < xs.length := by omega
    rw [loop_run]
    conv in (codeF _ _ r203L0 _) => unfold r203L0
    simp only [run0, run1, run2, run3, run4, noSlot, memN, RO.dst, lk, drop, forget, number, Nat.reduceBEq, cut?, splice?, builds, List.length_cons, List.length_nil, List.drop_succ_cons, List.drop_zero, List.take_succ_cons, List.take_zero, List.cons_append, List.nil_append, List.append_nil, List.drop_nil, List.take_nil, Nat.reduceAdd, Nat.reduceLeDiff, Nat.zero_add, Nat.add_zero, ↓reduceIte, Bool.not_true, Bool.not_false, decide_true, decide_false, eq_self, bne_self_eq_false, List.getElem?_cons_zero, List.getElem?_cons_succ, decide_eq_true_eq, Bool.false_eq_true, Bool.true_eq_false, reduceCtorEq, Nat.le_refl, w.len, hlt, w.idx hi, hld, l1, l2, e]
    by_cases n1 : l' < 0
    · simp only [run0, run1, run2, run3, run4, noSlot, memN, RO.dst, lk, drop, forget, number, Nat.reduceBEq, cut?, splice?, builds, List.length_cons, List.length_nil, List.drop_succ_cons, List.drop_zero, List.take_succ_cons, List.take_zero, List.cons_append, List.nil_append, List.append_nil, List.drop_nil, List.take_nil, Nat.reduceAdd, Nat.reduceLeDiff, Nat.zero_add, Nat.add_zero, ↓reduceIte, Bool.not_true, Bool.not_false, decide_true, decide_false, eq_self, bne_self_eq_false, List.getElem?_cons_zero, List.getElem?_cons_succ, decide_eq_true_eq, Bool.false_eq_true, Bool.true_eq_false, reduceCtorEq, Nat.le_refl, n1]
      exact Or.inr ⟨_, rfl, rfl, rfl⟩
    · simp only [run0, run1, run2, run3, run4, noSlot, memN, RO.dst, lk, drop, forget, number, Nat.reduceBEq, cut?, splice?, builds, List.length_cons, List.length_nil, List.drop_succ_cons, List.drop_zero, List.take_succ_cons, List.take_zero, List.cons_append, List.nil_append, List.append_nil, List.drop_nil, List.take_nil, Nat.reduceAdd, Nat.reduceLeDiff, Nat.zero_add, Nat.add_zero, ↓reduceIte, Bool.not_true, Bool.not_false, decide_true, decide_false, eq_self, bne_self_eq_false, List.getElem?_cons_zero, List.getElem?_cons_succ, decide_eq_true_eq, Bool.false_eq_true, Bool.true_eq_false, reduceCtorEq, Nat.le_refl, n1, wrapS i (by omega)]
      refine Or.inl ⟨_, ⟨l', rfl, by omega, by omega, fun a ha => ?_⟩, rfl⟩
      rw [List.take_add_one, List.getElem?_eq_getElem hi] at ha
      rcases List.mem_append.1 ha with ha | ha
      · exact q3 a ha
      · simp at ha; subst ha; exact k2 (by omega)) (s := ⟨[(0, .c x), (1, .c (.int .i64 (left - xs.length))), (5, .c (.int .i64 (0 : Nat)))], [], [], h⟩) ⟨_, rfl, by omega, by omega, fun a ha => by simp at ha⟩ with ⟨s', ⟨l, hs', q1, q2, q3⟩, l1⟩ | ⟨s', l1, q1, q2⟩
  · subst hs'
    simp only [show ((0 : Nat) : Int) = 0 from rfl] at l1
    rw [l1, loop_run]
    conv in (codeF _ _ r203L0 _) => unfold r203L0
    have hlt : ¬ (xs.length : Int) < xs.length := by omega
    simp only [run0, run1, run2, run3, run4, noSlot, memN, RO.dst, lk, drop, forget, number, Nat.reduceBEq, cut?, splice?, builds, List.length_cons, List.length_nil, List.drop_succ_cons, List.drop_zero, List.take_succ_cons, List.take_zero, List.cons_append, List.nil_append, List.append_nil, List.drop_nil, List.take_nil, Nat.reduceAdd, Nat.reduceLeDiff, Nat.zero_add, Nat.add_zero, ↓reduceIte, Bool.not_true, Bool.not_false, decide_true, decide_false, eq_self, bne_self_eq_false, List.getElem?_cons_zero, List.getElem?_cons_succ, decide_eq_true_eq, Bool.false_eq_true, Bool.true_eq_false, reduceCtorEq, Nat.le_refl, w.len, hlt]
    rw [List.take_length] at q3
    exact ⟨_, rfl, by omega, fun _ => ⟨by omega, q3⟩⟩
  · simp only [show ((0 : Nat) : Int) = 0 from rfl] at l1
    rw [l1]
    simp only [run0, run1, run2, run3, run4, noSlot, memN, RO.dst, lk, drop, forget, number, Nat.reduceBEq, cut?, splice?, builds, List.length_cons, List.length_nil, List.drop_succ_cons, List.drop_zero, List.take_succ_cons, List.take_zero, List.cons_append, List.nil_append, List.append_nil, List.drop_nil, List.take_nil, Nat.reduceAdd, Nat.reduceLeDiff, Nat.zero_add, Nat.add_zero, ↓reduceIte, Bool.not_true, Bool.not_false, decide_true, decide_false, eq_self, bne_self_eq_false, List.getElem?_cons_zero, List.getElem?_cons_succ, decide_eq_true_eq, Bool.false_eq_true, Bool.true_eq_false, reduceCtorEq, Nat.le_refl, q1, q2]
    exact ⟨_, rfl, by omega, by omega⟩
theorem toShardS_c (hLShard : Has F tLShard) (hLBook : Has F tLBook) (hLAccount : Has F tLAccount) (hLFin : Has F tLFin) (hf : h.floor ≤ h.next) (w : SlR 20 Shard.RL h x xs fp) (sm : xs.length ≤ 1048576 ∧ ∀ a, a ∈ xs → a.Small) : ∃ y h' fq, call F Z 205 [.c x] h = some (.c y, h') ∧ On h h' ∧ SlR 16 Shard.RI h' y xs fq ∧ Fre h fq := by
  obtain ⟨hn, sm⟩ := sm
  rw [call_run F Z (hLShard.lk (g := 205) rfl) _ _ rfl]
  simp only [run0, run1, run2, run3, run4, noSlot, memN, RO.dst, lk, drop, forget, number, Nat.reduceBEq, cut?, splice?, builds, List.length_cons, List.length_nil, List.drop_succ_cons, List.drop_zero, List.take_succ_cons, List.take_zero, List.cons_append, List.nil_append, List.append_nil, List.drop_nil, List.take_nil, Nat.reduceAdd, Nat.reduceLeDiff, Nat.zero_add, Nat.add_zero, ↓reduceIte, Bool.not_true, Bool.not_false, decide_true, decide_false, eq_self, bne_self_eq_false, List.getElem?_cons_zero, List.getElem?_cons_succ, decide_eq_true_eq, Bool.false_eq_true, Bool.true_eq_false, reduceCtorEq, Nat.le_refl, w.len]
  rw [if_pos (by omega)]
  simp only [run0, run1, run2, run3, run4, noSlot, memN, RO.dst, lk, drop, forget, number, Nat.reduceBEq, cut?, splice?, builds, List.length_cons, List.length_nil, List.drop_succ_cons, List.drop_zero, List.take_succ_cons, List.take_zero, List.cons_append, List.nil_append, List.append_nil, List.drop_nil, List.take_nil, Nat.reduceAdd, Nat.reduceLeDiff, Nat.zero_add, Nat.add_zero, ↓reduceIte, Bool.not_true, Bool.not_false, decide_true, decide_false, eq_self, bne_self_eq_false, List.getElem?_cons_zero, List.getElem?_cons_succ, decide_eq_true_eq, Bool.false_eq_true, Bool.true_eq_false, reduceCtorEq, Nat.le_refl, Int.toNat_natCast]
  obtain ⟨s', ⟨g, rows, fps, hs', fl⟩, l1⟩ := loop_goes (F := F) (Z := Z) (live := [0, 3, 4]) (b := r205L0) xs.length (fun i s => ∃ g rows fps, s = ⟨[(0, .c x), (3, .c (.sl 16 h.next 0 xs.length)), (4, .c (.int .i64 (i : Nat)))], [], [], g⟩ ∧ Filled Shard.RI h g h.next Shard.zeroC xs i rows fps) (fun i s hi ⟨g, rows, fps, hs, fl⟩ => by
    subst hs
    have wg := w.mono Shard.okL fl.on.ext
    obtain ⟨r, f, hld, hr, _⟩ := wg.one hi
    obtain ⟨l1, l2, l3⟩ := Shard.lenL hr
    obtain ⟨cs', g', fq, e, o', v, fr⟩ := toShard_c (Z := Z) hLShard hLBook hLAccount hLFin (fl.on.le hf) hr (sm _ (List.getElem_mem hi))
    obtain ⟨vl, _, _⟩ := Shard.lenI v
    obtain ⟨st, fl'⟩ := fl.step Shard.okI hf hi vl o' v fr
    have hlt : (i : Int) < xs.length := by omega
    have h0 : (0 : Int) ≤ i := by omega
    rw [loop_run]
    conv in (codeF _ _ r205L0 _) => unfold r205L0
    simp only [run0, run1, run2, run3, run4, noSlot, memN, RO.dst, lk, drop, forget, number, Nat.reduceBEq, cut?, splice?, builds, List.length_cons, List.length_nil, List.drop_succ_cons, List.drop_zero, List.take_succ_cons, List.take_zero, List.cons_append, List.nil_append, List.append_nil, List.drop_nil, List.take_nil, Nat.reduceAdd, Nat.reduceLeDiff, Nat.zero_add, Nat.add_zero, ↓reduceIte, Bool.not_true, Bool.not_false, decide_true, decide_false, eq_self, bne_self_eq_false, List.getElem?_cons_zero, List.getElem?_cons_succ, decide_eq_true_eq, Bool.false_eq_true, Bool.true_eq_false, reduceCtorEq, Nat.le_refl, w.len, hlt, w.idx hi, hld, l1, l2, e, h0, and_self, Int.toNat_natCast, vl, st, wrapS i (by omega)]
    exact ⟨_, ⟨_, _, _, rfl, fl'⟩, rfl⟩) (s := ⟨[(0, .c x), (3, .c (.sl 16 h.next 0 xs.length)), (4, .c (.int .i64 (0 : Nat)))], [], [], h.push (List.replicate xs.length Shard.zeroC)⟩) ⟨_, _, _, rfl, Filled.start h Shard.zeroC xs⟩
  subst hs'
  simp only [show ((0 : Nat) : Int) = 0 from rfl, Shard.zeroC] at l1
  rw [l1, loop_run]
  conv in (codeF _ _ r205L0 _) => unfold r205L0
  have hlt : ¬ (xs.length : Int) < xs.length := by omega
  simp only [run0, run1, run2, run3, run4, noSlot, memN, RO.dst, lk, drop, forget, number, Nat.reduceBEq, cut?, splice?, builds, List.length_cons, List.length_nil, List.drop_succ_cons, List.drop_zero, List.take_succ_cons, List.take_zero, List.cons_append, List.nil_append, List.append_nil, List.drop_nil, List.take_nil, Nat.reduceAdd, Nat.reduceLeDiff, Nat.zero_add, Nat.add_zero, ↓reduceIte, Bool.not_true, Bool.not_false, decide_true, decide_false, eq_self, bne_self_eq_false, List.getElem?_cons_zero, List.getElem?_cons_succ, decide_eq_true_eq, Bool.false_eq_true, Bool.true_eq_false, reduceCtorEq, Nat.le_refl, w.len, hlt]
  obtain ⟨o, v, f⟩ := fl.all hn 16
  exact ⟨_, _, _, rfl, o, v, f⟩
theorem eqShardS_r (hLShard : Has F tLShard) (hLBook : Has F tLBook) (hLAccount : Has F tLAccount) (hLFin : Has F tLFin) (w : SlR 16 Shard.RI h x xs fp) (v : SlR 16 Shard.RI h y ys fq) : call F Z 207 [.c x, .c y] h = some (.c (.bool (decide (xs = ys))), h) := by
  have hw := w.le2
  have hv := v.le2
  rw [call_run F Z (hLShard.lk (g := 207) rfl) _ _ rfl]
  simp only [run0, run1, run2, run3, run4, noSlot, memN, RO.dst, lk, drop, forget, number, Nat.reduceBEq, cut?, splice?, builds, List.length_cons, List.length_nil, List.drop_succ_cons, List.drop_zero, List.take_succ_cons, List.take_zero, List.cons_append, List.nil_append, List.append_nil, List.drop_nil, List.take_nil, Nat.reduceAdd, Nat.reduceLeDiff, Nat.zero_add, Nat.add_zero, ↓reduceIte, Bool.not_true, Bool.not_false, decide_true, decide_false, eq_self, bne_self_eq_false, List.getElem?_cons_zero, List.getElem?_cons_succ, decide_eq_true_eq, Bool.false_eq_true, Bool.true_eq_false, reduceCtorEq, Nat.le_refl, w.len, v.len]
  rw [condC_if]
  split
  · rename_i hne
    have : xs ≠ ys := by rintro rfl; simp at hne
    simp only [run0, run1, run2, run3, run4, noSlot, memN, RO.dst, lk, drop, forget, number, Nat.reduceBEq, cut?, splice?, builds, List.length_cons, List.length_nil, List.drop_succ_cons, List.drop_zero, List.take_succ_cons, List.take_zero, List.cons_append, List.nil_append, List.append_nil, List.drop_nil, List.take_nil, Nat.reduceAdd, Nat.reduceLeDiff, Nat.zero_add, Nat.add_zero, ↓reduceIte, Bool.not_true, Bool.not_false, decide_true, decide_false, eq_self, bne_self_eq_false, List.getElem?_cons_zero, List.getElem?_cons_succ, decide_eq_true_eq, Bool.false_eq_true, Bool.true_eq_false, reduceCtorEq, Nat.le_refl, this]
  · rename_i he
    have he : xs.length = ys.length := by simp at he; omega
    simp only [run0, run1, run2, run3, run4, noSlot, memN, RO.dst, lk, drop, forget, number, Nat.reduceBEq, cut?, splice?, builds, List.length_cons, List.length_nil, List.drop_succ_cons, List.drop_zero, List.take_succ_cons, List.take_zero, List.cons_append, List.nil_append, List.append_nil, List.drop_nil, List.take_nil, Nat.reduceAdd, Nat.reduceLeDiff, Nat.zero_add, Nat.add_zero, ↓reduceIte, Bool.not_true, Bool.not_false, decide_true, decide_false, eq_self, bne_self_eq_false, List.getElem?_cons_zero, List.getElem?_cons_succ, decide_eq_true_eq, Bool.false_eq_true, Bool.true_eq_false, reduceCtorEq, Nat.le_refl]
    have key := loop_allN (F := F) (Z := Z) (live := [0, 1, 5]) (b := r207L0) xs.length (fun i => ⟨[(0, .c x), (1, .c y), (5, .c (.int .i64 (i : Nat)))], [], [], h⟩) (fun i => decide (xs[i]? = ys[i]?)) (fun s => lk s.env 4 = some (.c (.bool false)) ∧ s.hp = h) fun i hi => by
      have hi' : i < ys.length := by omega
      have hlt : (i : Int) < xs.length := by omega
      obtain ⟨r, f, hld, hr, _⟩ := w.one hi
      obtain ⟨r', f', hld', hr', _⟩ := v.one hi'
      obtain ⟨l1, l2, l3⟩ := Shard.lenI hr
      obtain ⟨l1', l2', l3'⟩ := Shard.lenI hr'
      have e := eqShard_r (Z := Z) (h := ⟨h.next, h.next, h.get⟩) hLShard hLBook hLAccount hLFin (Shard.okI.up hr _) (Shard.okI.up hr' _)
      rw [loop_run]
      conv in (codeF _ _ r207L0 _) => unfold r207L0
      simp only [run0, run1, run2, run3, run4, noSlot, memN, RO.dst, lk, drop, forget, number, Nat.reduceBEq, cut?, splice?, builds, List.length_cons, List.length_nil, List.drop_succ_cons, List.drop_zero, List.take_succ_cons, List.take_zero, List.cons_append, List.nil_append, List.append_nil, List.drop_nil, List.take_nil, Nat.reduceAdd, Nat.reduceLeDiff, Nat.zero_add, Nat.add_zero, ↓reduceIte, Bool.not_true, Bool.not_false, decide_true, decide_false, eq_self, bne_self_eq_false, List.getElem?_cons_zero, List.getElem?_cons_succ, decide_eq_true_eq, Bool.false_eq_true, Bool.true_eq_false, reduceCtorEq, Nat.le_refl, w.len, hlt, w.idx hi, v.idx hi', hld, hld', l1, l2, l1', l2', e, wrapS i (by omega)]
      rw [List.getElem?_eq_getElem hi, List.getElem?_eq_getElem hi']
      clear e hld hld' hr hr' l1 l2 l3 l1' l2' l3'
      (repeat' ((first | (rw [gF_if]; split) | (rw [condC_if]; split) | (rw [pickR_if]; split)) <;> (rename_i hh; (try simp only [Bool.not_eq_true, decide_eq_true_eq] at hh); simp only [hh, run0, run1, run2, run3, run4, noSlot, memN, RO.dst, lk, drop, forget, number, Nat.reduceBEq, cut?, splice?, builds, List.length_cons, List.length_nil, List.drop_succ_cons, List.drop_zero, List.take_succ_cons, List.take_zero, List.cons_append, List.nil_append, List.append_nil, List.drop_nil, List.take_nil, Nat.reduceAdd, Nat.reduceLeDiff, Nat.zero_add, Nat.add_zero, ↓reduceIte, Bool.not_true, Bool.not_false, decide_true, decide_false, eq_self, bne_self_eq_false, List.getElem?_cons_zero, List.getElem?_cons_succ, decide_eq_true_eq, Bool.false_eq_true, Bool.true_eq_false, reduceCtorEq, Nat.le_refl, wrapS i (by omega)])))
      · exact .inr ⟨by simp_all, _, rfl, rfl, rfl⟩
      · exact .inl ⟨by simp_all, rfl⟩
    rw [all_same he] at key
    rcases key with ⟨k1, k2⟩ | ⟨k1, s, k2, k3, k4⟩
    · simp only [show ((0 : Nat) : Int) = 0 from rfl] at k2
      rw [k2, loop_run]
      conv in (codeF _ _ r207L0 _) => unfold r207L0
      have hlt : ¬ (xs.length : Int) < xs.length := by omega
      simp only [run0, run1, run2, run3, run4, noSlot, memN, RO.dst, lk, drop, forget, number, Nat.reduceBEq, cut?, splice?, builds, List.length_cons, List.length_nil, List.drop_succ_cons, List.drop_zero, List.take_succ_cons, List.take_zero, List.cons_append, List.nil_append, List.append_nil, List.drop_nil, List.take_nil, Nat.reduceAdd, Nat.reduceLeDiff, Nat.zero_add, Nat.add_zero, ↓reduceIte, Bool.not_true, Bool.not_false, decide_true, decide_false, eq_self, bne_self_eq_false, List.getElem?_cons_zero, List.getElem?_cons_succ, decide_eq_true_eq, Bool.false_eq_true, Bool.true_eq_false, reduceCtorEq, Nat.le_refl, w.len, hlt, k1]
    · simp only [show ((0 : Nat) : Int) = 0 from rfl] at k2
      rw [k2]
      simp only [run0, run1, run2, run3, run4, noSlot, memN, RO.dst, lk, drop, forget, number, Nat.reduceBEq, cut?, splice?, builds, List.length_cons, List.length_nil, List.drop_succ_cons, List.drop_zero, List.take_succ_cons, List.take_zero, List.cons_append, List.nil_append, List.append_nil, List.drop_nil, List.take_nil, Nat.reduceAdd, Nat.reduceLeDiff, Nat.zero_add, Nat.add_zero, ↓reduceIte, Bool.not_true, Bool.not_false, decide_true, decide_false, eq_self, bne_self_eq_false, List.getElem?_cons_zero, List.getElem?_cons_succ, decide_eq_true_eq, Bool.false_eq_true, Bool.true_eq_false, reduceCtorEq, Nat.le_refl, k3, k4, k1]
end
end Go.Proofs.Ytlbagejkjkfkjaa.A
/- The data of a Store with its memory, and what its converters compute. -/
namespace Go.Proofs.Ytlbagejkjkfkjaa.A
open Go
set_option linter.unusedSimpArgs false
set_option linter.unusedVariables false
structure Store where
  group : Int
  seen : Int
  shards : List Shard
  deriving DecidableEq
def Store.RL : Rel Store := fun h cs t fp => ∃ x1 p1, cs = [.int .i64 t.group, .int .i64 t.seen, x1] ∧ fp = p1 ∧ SlR 20 (Shard.RL) h x1 t.shards p1
theorem Store.okL : RelOk Store.RL where
  lt := by
    rintro h cs t fp ⟨x1, p1, rfl, rfl, w1⟩ id hid
    exact w1.lt (Shard.okL) id hid
  mv := by
    rintro h h' cs t fp ⟨x1, p1, rfl, rfl, w1⟩ hn hg
    exact ⟨x1, _, rfl, rfl, w1.mv (Shard.okL) hn hg⟩
def Store.RI : Rel Store := fun h cs t fp => ∃ x1 p1, cs = [.int .i64 t.group, .int .i64 t.seen, x1] ∧ fp = p1 ∧ SlR 16 (Shard.RI) h x1 t.shards p1
theorem Store.okI : RelOk Store.RI where
  lt := by
    rintro h cs t fp ⟨x1, p1, rfl, rfl, w1⟩ id hid
    exact w1.lt (Shard.okI) id hid
  mv := by
    rintro h h' cs t fp ⟨x1, p1, rfl, rfl, w1⟩ hn hg
    exact ⟨x1, _, rfl, rfl, w1.mv (Shard.okI) hn hg⟩
theorem Store.lenL {h : Heap} {cs : List Cell} {t : Store} {fp : List Nat} (v : Store.RL h cs t fp) : cs.length = 3 ∧ cs.take 3 = cs ∧ cs.drop 3 = [] := by
  obtain ⟨x1, p1, rfl, _⟩ := v
  exact ⟨rfl, rfl, rfl⟩
theorem Store.lenI {h : Heap} {cs : List Cell} {t : Store} {fp : List Nat} (v : Store.RI h cs t fp) : cs.length = 3 ∧ cs.take 3 = cs ∧ cs.drop 3 = [] := by
  obtain ⟨x1, p1, rfl, _⟩ := v
  exact ⟨rfl, rfl, rfl⟩
namespace Store
/-- The numbers are those of the machine. -/
structure Ok (t : Store) : Prop where
  group : -9223372036854775808 ≤ t.group ∧ t.group ≤ 9223372036854775807
  seen : -9223372036854775808 ≤ t.seen ∧ t.seen ≤ 9223372036854775807
  shards : ∀ a, a ∈ t.shards → a.Ok
def Small (t : Store) : Prop := (t.shards.length ≤ 1048576 ∧ ∀ a, a ∈ t.shards → a.Small)
end Store
theorem Wf.isStore {h : Heap} {n : Nat} {cs : List Cell} (w : Wf h (n + 7) shStore cs) : ∃ t fp, Store.RL h cs t fp ∧ t.Ok := by
  obtain ⟨_, _, rfl, _, ⟨i1, rfl, j1⟩, _, _, rfl, _, ⟨i2, rfl, j2⟩, _, _, rfl, _, m3, rfl⟩ := w
  obtain ⟨x1, l1, p1, rfl, w1, o1⟩ := Wf.isShardS' m3
  exact ⟨⟨i1, i2, l1⟩, _, ⟨x1, _, rfl, rfl, w1⟩, ⟨wfI j1, wfI j2, o1⟩⟩
section
variable {F : Nat → Option RF} {Z : CallF} {h : Heap} {cs cs' : List Cell} {t u : Store} {fp fq : List Nat}
theorem szStore_c (hLStore : Has F tLStore) (hLShard : Has F tLShard) (hLBook : Has F tLBook) (hLAccount : Has F tLAccount) (hLFin : Has F tLFin) (v : Store.RL h cs t fp) (left : Int) (h1 : 0 ≤ left) (h2 : left ≤ 1048576) : ∃ r, call F Z 154 [.agg cs, .c (.int .i64 left)] h = some (.c (.int .i64 r), h) ∧ r ≤ left ∧ (0 ≤ r → t.Small) := by
  obtain ⟨x1, p1, rfl, rfl, w1⟩ := v
  rw [call_run F Z (hLStore.lk (g := 154) rfl) _ _ rfl]
  simp only [run0, run1, run2, run3, run4, noSlot, memN, RO.dst, lk, drop, forget, number, Nat.reduceBEq, cut?, splice?, builds, List.length_cons, List.length_nil, List.drop_succ_cons, List.drop_zero, List.take_succ_cons, List.take_zero, List.cons_append, List.nil_append, List.append_nil, List.drop_nil, List.take_nil, Nat.reduceAdd, Nat.reduceLeDiff, Nat.zero_add, Nat.add_zero, ↓reduceIte, Bool.not_true, Bool.not_false, decide_true, decide_false, eq_self, bne_self_eq_false, List.getElem?_cons_zero, List.getElem?_cons_succ, decide_eq_true_eq, Bool.false_eq_true, Bool.true_eq_false, reduceCtorEq, Nat.le_refl]
  obtain ⟨l0, s0, a0, b0⟩ := szShardS_c (Z := Z) hLShard hLBook hLAccount hLFin w1 left (by omega) (by omega)
  simp only [run0, run1, run2, run3, run4, noSlot, memN, RO.dst, lk, drop, forget, number, Nat.reduceBEq, cut?, splice?, builds, List.length_cons, List.length_nil, List.drop_succ_cons, List.drop_zero, List.take_succ_cons, List.take_zero, List.cons_append, List.nil_append, List.append_nil, List.drop_nil, List.take_nil, Nat.reduceAdd, Nat.reduceLeDiff, Nat.zero_add, Nat.add_zero, ↓reduceIte, Bool.not_true, Bool.not_false, decide_true, decide_false, eq_self, bne_self_eq_false, List.getElem?_cons_zero, List.getElem?_cons_succ, decide_eq_true_eq, Bool.false_eq_true, Bool.true_eq_false, reduceCtorEq, Nat.le_refl, s0]
  by_cases n0 : l0 < 0
  · simp only [run0, run1, run2, run3, run4, noSlot, memN, RO.dst, lk, drop, forget, number, Nat.reduceBEq, cut?, splice?, builds, List.length_cons, List.length_nil, List.drop_succ_cons, List.drop_zero, List.take_succ_cons, List.take_zero, List.cons_append, List.nil_append, List.append_nil, List.drop_nil, List.take_nil, Nat.reduceAdd, Nat.reduceLeDiff, Nat.zero_add, Nat.add_zero, ↓reduceIte, Bool.not_true, Bool.not_false, decide_true, decide_false, eq_self, bne_self_eq_false, List.getElem?_cons_zero, List.getElem?_cons_succ, decide_eq_true_eq, Bool.false_eq_true, Bool.true_eq_false, reduceCtorEq, Nat.le_refl, n0]
    exact ⟨_, rfl, by omega, by omega⟩
  simp only [run0, run1, run2, run3, run4, noSlot, memN, RO.dst, lk, drop, forget, number, Nat.reduceBEq, cut?, splice?, builds, List.length_cons, List.length_nil, List.drop_succ_cons, List.drop_zero, List.take_succ_cons, List.take_zero, List.cons_append, List.nil_append, List.append_nil, List.drop_nil, List.take_nil, Nat.reduceAdd, Nat.reduceLeDiff, Nat.zero_add, Nat.add_zero, ↓reduceIte, Bool.not_true, Bool.not_false, decide_true, decide_false, eq_self, bne_self_eq_false, List.getElem?_cons_zero, List.getElem?_cons_succ, decide_eq_true_eq, Bool.false_eq_true, Bool.true_eq_false, reduceCtorEq, Nat.le_refl, n0]
  exact ⟨_, rfl, by omega, fun _ => b0 (by omega)⟩
theorem toStore_c (hLStore : Has F tLStore) (hLShard : Has F tLShard) (hLBook : Has F tLBook) (hLAccount : Has F tLAccount) (hLFin : Has F tLFin) (hf : h.floor ≤ h.next) (v : Store.RL h cs t fp) (sm : t.Small) : ∃ cs' h' fq, call F Z 155 [.agg cs] h = some (.agg cs', h') ∧ On h h' ∧ Store.RI h' cs' t fq ∧ Fre h fq := by
  obtain ⟨x1, p1, rfl, rfl, w1⟩ := v
  have sm0 := sm
  obtain ⟨y1, g0, q1, e0, o0, u1, r0⟩ := toShardS_c (Z := Z) hLShard hLBook hLAccount hLFin hf w1 sm0
  rw [call_run F Z (hLStore.lk (g := 155) rfl) _ _ rfl]
  simp only [run0, run1, run2, run3, run4, noSlot, memN, RO.dst, lk, drop, forget, number, Nat.reduceBEq, cut?, splice?, builds, List.length_cons, List.length_nil, List.drop_succ_cons, List.drop_zero, List.take_succ_cons, List.take_zero, List.cons_append, List.nil_append, List.append_nil, List.drop_nil, List.take_nil, Nat.reduceAdd, Nat.reduceLeDiff, Nat.zero_add, Nat.add_zero, ↓reduceIte, Bool.not_true, Bool.not_false, decide_true, decide_false, eq_self, bne_self_eq_false, List.getElem?_cons_zero, List.getElem?_cons_succ, decide_eq_true_eq, Bool.false_eq_true, Bool.true_eq_false, reduceCtorEq, Nat.le_refl, e0]
  exact ⟨_, _, _, rfl, o0, ⟨y1, _, rfl, rfl, u1⟩, r0⟩
set_option maxHeartbeats 1000000 in
theorem eqStore_r (hLStore : Has F tLStore) (hLShard : Has F tLShard) (hLBook : Has F tLBook) (hLAccount : Has F tLAccount) (hLFin : Has F tLFin) (v : Store.RI h cs t fp) (v' : Store.RI h cs' u fq) : call F Z 158 [.agg cs, .agg cs'] h = some (.c (.bool (decide (t = u))), h) := by
  obtain ⟨x1, p1, rfl, rfl, w1⟩ := v
  obtain ⟨x1', p1', rfl, rfl, w1'⟩ := v'
  obtain ⟨group1, seen1, shards1⟩ := t
  obtain ⟨group2, seen2, shards2⟩ := u
  have e0 := eqShardS_r (Z := Z) hLShard hLBook hLAccount hLFin w1 w1'
  clear w1 w1'
  rw [call_run F Z (hLStore.lk (g := 158) rfl) _ _ rfl]
  simp only [run0, run1, run2, run3, run4, noSlot, memN, RO.dst, lk, drop, forget, number, Nat.reduceBEq, cut?, splice?, builds, List.length_cons, List.length_nil, List.drop_succ_cons, List.drop_zero, List.take_succ_cons, List.take_zero, List.cons_append, List.nil_append, List.append_nil, List.drop_nil, List.take_nil, Nat.reduceAdd, Nat.reduceLeDiff, Nat.zero_add, Nat.add_zero, ↓reduceIte, Bool.not_true, Bool.not_false, decide_true, decide_false, eq_self, bne_self_eq_false, List.getElem?_cons_zero, List.getElem?_cons_succ, decide_eq_true_eq, Bool.false_eq_true, Bool.true_eq_false, reduceCtorEq, Nat.le_refl, e0]
  (repeat' ((first | (rw [gF_if]; split) | (rw [condC_if]; split) | (rw [pickR_if]; split)) <;> (rename_i hh; (try simp only [Bool.not_eq_true, decide_eq_true_eq] at hh); simp only [hh, run0, run1, run2, run3, run4, noSlot, memN, RO.dst, lk, drop, forget, number, Nat.reduceBEq, cut?, splice?, builds, List.length_cons, List.length_nil, List.drop_succ_cons, List.drop_zero, List.take_succ_cons, List.take_zero, List.cons_append, List.nil_append, List.append_nil, List.drop_nil, List.take_nil, Nat.reduceAdd, Nat.reduceLeDiff, Nat.zero_add, Nat.add_zero, ↓reduceIte, Bool.not_true, Bool.not_false, decide_true, decide_false, eq_self, bne_self_eq_false, List.getElem?_cons_zero, List.getElem?_cons_succ, decide_eq_true_eq, Bool.false_eq_true, Bool.true_eq_false, reduceCtorEq, Nat.le_refl, e0]))) <;> clear e0 <;> refine fin_bool ?_ <;> simp_all <;> (try (intros; omega))
end
end Go.Proofs.Ytlbagejkjkfkjaa.A
/- Loops behind which the heap goes on. -/
namespace Go.Proofs.Ytlbagejkjkfkjaa.A
open Go
set_option linter.unusedSimpArgs false
set_option linter.unusedVariables false
/-- One turn goes on with a heap that goes on, or returns. -/
def TurnO (r : Option (Ex × St)) (next : Heap → Option (Ex × St)) (g : Heap) (p : Bool) (Q : St → Prop) : Prop :=
  (p = true ∧ ∃ g', On g g' ∧ r = next g') ∨ (p = false ∧ ∃ s', r = some (.ret, s') ∧ On g s'.hp ∧ Q s')
section
variable {F : Nat → Option RF} {Z : CallF} {live : List Nat} {b : RC}
theorem loop_on (n : Nat) (st : Nat → Heap → St) (h : Heap) (P : Nat → Bool) (Q : St → Prop)
    (hs : ∀ i g, i < n → On h g → TurnO (loop F Z live b (st i g)) (fun g' => loop F Z live b (st (i + 1) g')) g (P i) Q) :
    TurnO (loop F Z live b (st 0 h)) (fun g' => loop F Z live b (st n g')) h ((List.range n).all P) Q := by
  induction n with
  | zero => exact .inl ⟨rfl, h, On.refl h, rfl⟩
  | succ n ih =>
    have hl : (List.range (n + 1)).all P = ((List.range n).all P && P n) := by rw [List.range_succ, List.all_append]; simp
    rcases ih fun i g hi => hs i g (by omega) with ⟨h1, g1, o1, e1⟩ | ⟨h1, s', e1, o1, q1⟩
    · rcases hs n g1 (by omega) o1 with ⟨h3, g2, o2, e2⟩ | ⟨h3, s', e2, o2, q2⟩
      · exact .inl ⟨by rw [hl, h1, h3]; rfl, g2, o1.trans o2, e1.trans e2⟩
      · exact .inr ⟨by rw [hl, h1, h3]; rfl, s', e1.trans e2, o1.trans o2, q2⟩
    · exact .inr ⟨by rw [hl, h1]; rfl, s', e1, o1, q1⟩
end
theorem On.mkup {h h' : Heap} (o : On ⟨h.next, h.next, h.get⟩ h') : On h ⟨h'.next, h.floor, h'.get⟩ := ⟨⟨o.ext.1, o.ext.2⟩, rfl⟩
end Go.Proofs.Ytlbagejkjkfkjaa.A
/- Is a store right? -/
namespace Go.Proofs.Ytlbagejkjkfkjaa.A
open Go
set_option linter.unusedSimpArgs false
set_option linter.unusedVariables false
/-- The functions that the program's shards reach. -/
structure KI (F : Nat → Option RF) : Prop where
  i10 : Has F tI10
  i11 : Has F tI11
  i13 : Has F tI13
  c1 : Has F tLibcmpCompareint
  c2 : Has F tLibcmpCompareuint64
  c3 : Has F tLibcmpOrint
  c4 : Has F tLibcmpisNaNint
  c5 : Has F tLibcmpisNaNuint64
  li : Has F tLibslicesIndeximplFinimplFin
  lc : Has F tLibslicesContainsimplFinimplFin
/-- The functions that the reference's shards reach. -/
structure KS (F : Nat → Option RF) : Prop where
  s01 : Has F tS01d
  s10 : Has F tS10
  s13 : Has F tS13
def Shard.none_ : Shard := ⟨0, 0, 0, 0, ⟨[]⟩, []⟩
def Shard.at_ (xs : List Shard) (i : Nat) : Shard := xs[i]?.getD Shard.none_
theorem Shard.at_get {xs : List Shard} {i : Nat} (hi : i < xs.length) : Shard.at_ xs i = xs[i] := by simp [Shard.at_, List.getElem?_eq_getElem hi]
def Store.fits (s : Store) (i : Nat) : Bool := (Shard.at_ s.shards i).good && (decide ((Shard.at_ s.shards i).epoch ≤ s.seen) && (i == 0 || decide ((Shard.at_ s.shards (i - 1)).hi < (Shard.at_ s.shards i).lo)))
def Store.good (s : Store) : Bool := inR s.group 0 99 && (inR s.seen 0 1000000 && (decide ((s.shards.length : Int) ≤ 8) && (List.range s.shards.length).all s.fits))
section
variable {F : Nat → Option RF} {Z : CallF} {h : Heap} {cs : List Cell} {s : Store} {fp : List Nat} {x : Cell}
theorem isShard_q (k : KI F) {t : Shard} {cs : List Cell} {fp : List Nat} (v : Shard.RI h cs t fp) (ok : t.Ok) :
    ∃ h' g, call F Z 244 [.agg cs] ⟨h.next, h.next, h.get⟩ = some (.c (.bool t.good), h') ∧ Heap.mk h'.next h.floor h'.get = g ∧ On h g := by
  obtain ⟨h', e, o⟩ := isShard_run (Z := Z) k.i10 k.i13 k.c1 k.c2 k.c3 k.c4 k.c5 k.li k.lc (Shard.okI.up v h.next) ok
  exact quietly e o
set_option maxHeartbeats 4000000 in
theorem isStore_turn (k : KI F) (w : SlR 16 Shard.RI h x s.shards fp) (ok : ∀ a, a ∈ s.shards → a.Ok) (i : Nat) (hi : i < s.shards.length) :
    TurnO (loop F Z [1, 26, 27, 28] r206L0 ⟨[(26, .c x), (27, .c (.int .i64 (s.shards.length : Nat))), (28, .c (.int .i64 (i : Nat)))], [(1, 1, 0)], [(1, [.int .i64 s.group, .int .i64 s.seen, x])], h⟩)
      (fun g => loop F Z [1, 26, 27, 28] r206L0 ⟨[(26, .c x), (27, .c (.int .i64 (s.shards.length : Nat))), (28, .c (.int .i64 ((i + 1 : Nat) : Int)))], [(1, 1, 0)], [(1, [.int .i64 s.group, .int .i64 s.seen, x])], g⟩)
      h (s.fits i) (fun s' => lk s'.env 2 = some (.c (.bool false))) := by
  have hle := w.le2
  have hlt : (i : Int) < s.shards.length := by omega
  have hws := wrapS i (by omega)
  have hxi := w.idx hi
  obtain ⟨r, f, hld, hR, _⟩ := w.one hi
  rw [← Shard.at_get hi] at hR
  have aok := ok _ (List.getElem_mem hi)
  rw [← Shard.at_get hi] at aok
  obtain ⟨h', g, hc, hg, og⟩ := isShard_q (Z := Z) k hR aok
  have hpre : 0 < i → IntKind.i64.wrap ((i : Int) - 1) = ((i - 1 : Nat) : Int) := fun hp => by rw [wrapI _ (by omega) (by omega)]; omega
  have hpi : 0 < i → idxR 16 (some x) (some ((i - 1 : Nat) : Int)) = some (.ptr x.sid (i - 1) 0) := fun hp => w.idx (by omega)
  have hpl : 0 < i → ∃ r', (∀ j n, loadP g x.sid (i - 1) j n = cut? r' j n) ∧ ∃ f', Shard.RI g r' (Shard.at_ s.shards (i - 1)) f' := fun hp => by
    obtain ⟨r', f', h1, h2, _⟩ := (w.on Shard.okI og).one (show i - 1 < s.shards.length by omega)
    rw [← Shard.at_get] at h2
    exact ⟨r', h1, f', h2⟩
  have hfit : s.fits i = ((Shard.at_ s.shards i).good && (decide ((Shard.at_ s.shards i).epoch ≤ s.seen) && (i == 0 || decide ((Shard.at_ s.shards (i - 1)).hi < (Shard.at_ s.shards i).lo)))) := rfl
  obtain ⟨x1, p1, x2, p2, rfl, _⟩ := hR
  clear w ok aok
  generalize s.fits i = fa at *
  generalize (Shard.at_ s.shards i).good = gd at *
  generalize Shard.at_ s.shards (i - 1) = pa at *
  generalize Shard.at_ s.shards i = a at *
  rw [loop_run]
  conv in (codeF _ _ r206L0 _) => unfold r206L0
  simp only [run0, run1, run2, run3, run4, noSlot, memN, RO.dst, lk, drop, forget, number, Nat.reduceBEq, cut?, splice?, builds, List.length_cons, List.length_nil, List.drop_succ_cons, List.drop_zero, List.take_succ_cons, List.take_zero, List.cons_append, List.nil_append, List.append_nil, List.drop_nil, List.take_nil, Nat.reduceAdd, Nat.reduceLeDiff, Nat.zero_add, Nat.add_zero, ↓reduceIte, Bool.not_true, Bool.not_false, decide_true, decide_false, eq_self, bne_self_eq_false, List.getElem?_cons_zero, List.getElem?_cons_succ, decide_eq_true_eq, Bool.false_eq_true, Bool.true_eq_false, reduceCtorEq, Nat.le_refl, hlt, hxi, hld]
  cases gd with
  | false =>
    simp only [run0, run1, run2, run3, run4, noSlot, memN, RO.dst, lk, drop, forget, number, Nat.reduceBEq, cut?, splice?, builds, List.length_cons, List.length_nil, List.drop_succ_cons, List.drop_zero, List.take_succ_cons, List.take_zero, List.cons_append, List.nil_append, List.append_nil, List.drop_nil, List.take_nil, Nat.reduceAdd, Nat.reduceLeDiff, Nat.zero_add, Nat.add_zero, ↓reduceIte, Bool.not_true, Bool.not_false, decide_true, decide_false, eq_self, bne_self_eq_false, List.getElem?_cons_zero, List.getElem?_cons_succ, decide_eq_true_eq, Bool.false_eq_true, Bool.true_eq_false, reduceCtorEq, Nat.le_refl, hc, hg]
    exact .inr ⟨by simp_all, _, rfl, og, rfl⟩
  | true =>
    by_cases hp : 0 < i
    · have g1 : (i : Int) > 0 := by omega
      have hi0 : (i == 0) = false := by simp; omega
      have q1 := hpre hp
      have q2 := hpi hp
      obtain ⟨r', q3, f', y1, y2, y3, y4, rfl, _⟩ := hpl hp
      clear hxi hpre hpi hpl hld
      simp only [run0, run1, run2, run3, run4, noSlot, memN, RO.dst, lk, drop, forget, number, Nat.reduceBEq, cut?, splice?, builds, List.length_cons, List.length_nil, List.drop_succ_cons, List.drop_zero, List.take_succ_cons, List.take_zero, List.cons_append, List.nil_append, List.append_nil, List.drop_nil, List.take_nil, Nat.reduceAdd, Nat.reduceLeDiff, Nat.zero_add, Nat.add_zero, ↓reduceIte, Bool.not_true, Bool.not_false, decide_true, decide_false, eq_self, bne_self_eq_false, List.getElem?_cons_zero, List.getElem?_cons_succ, decide_eq_true_eq, Bool.false_eq_true, Bool.true_eq_false, reduceCtorEq, Nat.le_refl, hws, g1, q1, q2, q3, hc, hg]
      (repeat' ((first | (rw [gF_if]; split) | (rw [condC_if]; split) | (rw [pickR_if]; split)) <;> (rename_i hh; (try simp only [Bool.not_eq_true, decide_eq_true_eq] at hh); simp only [hh, run0, run1, run2, run3, run4, noSlot, memN, RO.dst, lk, drop, forget, number, Nat.reduceBEq, cut?, splice?, builds, List.length_cons, List.length_nil, List.drop_succ_cons, List.drop_zero, List.take_succ_cons, List.take_zero, List.cons_append, List.nil_append, List.append_nil, List.drop_nil, List.take_nil, Nat.reduceAdd, Nat.reduceLeDiff, Nat.zero_add, Nat.add_zero, ↓reduceIte, Bool.not_true, Bool.not_false, decide_true, decide_false, eq_self, bne_self_eq_false, List.getElem?_cons_zero, List.getElem?_cons_succ, decide_eq_true_eq, Bool.false_eq_true, Bool.true_eq_false, reduceCtorEq, Nat.le_refl, hws, g1, q1, q2, q3, hc, hg])))
      all_goals clear q2 q3 hc hg
      all_goals first
        | exact .inl ⟨by simp_all <;> omega, _, og, rfl⟩
        | exact .inr ⟨by simp_all <;> omega, _, rfl, og, rfl⟩
    · have g1 : ¬ (i : Int) > 0 := by omega
      have hi0 : (i == 0) = true := by simp; omega
      clear hxi hpre hpi hpl hld
      simp only [run0, run1, run2, run3, run4, noSlot, memN, RO.dst, lk, drop, forget, number, Nat.reduceBEq, cut?, splice?, builds, List.length_cons, List.length_nil, List.drop_succ_cons, List.drop_zero, List.take_succ_cons, List.take_zero, List.cons_append, List.nil_append, List.append_nil, List.drop_nil, List.take_nil, Nat.reduceAdd, Nat.reduceLeDiff, Nat.zero_add, Nat.add_zero, ↓reduceIte, Bool.not_true, Bool.not_false, decide_true, decide_false, eq_self, bne_self_eq_false, List.getElem?_cons_zero, List.getElem?_cons_succ, decide_eq_true_eq, Bool.false_eq_true, Bool.true_eq_false, reduceCtorEq, Nat.le_refl, hws, g1, hc, hg]
      (repeat' ((first | (rw [gF_if]; split) | (rw [condC_if]; split) | (rw [pickR_if]; split)) <;> (rename_i hh; (try simp only [Bool.not_eq_true, decide_eq_true_eq] at hh); simp only [hh, run0, run1, run2, run3, run4, noSlot, memN, RO.dst, lk, drop, forget, number, Nat.reduceBEq, cut?, splice?, builds, List.length_cons, List.length_nil, List.drop_succ_cons, List.drop_zero, List.take_succ_cons, List.take_zero, List.cons_append, List.nil_append, List.append_nil, List.drop_nil, List.take_nil, Nat.reduceAdd, Nat.reduceLeDiff, Nat.zero_add, Nat.add_zero, ↓reduceIte, Bool.not_true, Bool.not_false, decide_true, decide_false, eq_self, bne_self_eq_false, List.getElem?_cons_zero, List.getElem?_cons_succ, decide_eq_true_eq, Bool.false_eq_true, Bool.true_eq_false, reduceCtorEq, Nat.le_refl, hws, g1, hc, hg])))
      all_goals clear hc hg
      all_goals first
        | exact .inl ⟨by simp_all <;> omega, _, og, rfl⟩
        | exact .inr ⟨by simp_all <;> omega, _, rfl, og, rfl⟩
set_option maxHeartbeats 4000000 in
theorem isStore_run (k : KI F) (v : Store.RI h cs s fp) (ok : s.Ok) : ∃ h', call F Z 206 [.agg cs] h = some (.c (.bool s.good), h') ∧ On h h' := by
  obtain ⟨x, p, rfl, rfl, w⟩ := v
  have key := loop_on (F := F) (Z := Z) (live := [1, 26, 27, 28]) (b := r206L0) s.shards.length (fun i g => ⟨[(26, .c x), (27, .c (.int .i64 (s.shards.length : Nat))), (28, .c (.int .i64 (i : Nat)))], [(1, 1, 0)], [(1, [.int .i64 s.group, .int .i64 s.seen, x])], g⟩) h s.fits (fun s' => lk s'.env 2 = some (.c (.bool false)))
    fun i g hi og => isStore_turn k (w.on Shard.okI og) ok.shards i hi
  have l1 := w.len
  have n1 : ¬ (s.shards.length : Int) < s.shards.length := by omega
  clear w ok
  simp only [show ((0 : Nat) : Int) = 0 from rfl] at key
  have hg := isGroupId_run (Z := Z) k.i11
  have hgd : s.good = (inR s.group 0 99 && (inR s.seen 0 1000000 && (decide ((s.shards.length : Int) ≤ 8) && (List.range s.shards.length).all s.fits))) := rfl
  generalize s.good = sg at *
  generalize (List.range s.shards.length).all s.fits = al at *
  rw [call_run F Z (k.i13.lk (g := 206) rfl) _ _ rfl]
  simp only [run0, run1, run2, run3, run4, noSlot, memN, RO.dst, lk, drop, forget, number, Nat.reduceBEq, cut?, splice?, builds, List.length_cons, List.length_nil, List.drop_succ_cons, List.drop_zero, List.take_succ_cons, List.take_zero, List.cons_append, List.nil_append, List.append_nil, List.drop_nil, List.take_nil, Nat.reduceAdd, Nat.reduceLeDiff, Nat.zero_add, Nat.add_zero, ↓reduceIte, Bool.not_true, Bool.not_false, decide_true, decide_false, eq_self, bne_self_eq_false, List.getElem?_cons_zero, List.getElem?_cons_succ, decide_eq_true_eq, Bool.false_eq_true, Bool.true_eq_false, reduceCtorEq, Nat.le_refl, hg, l1]
  clear k
  (repeat' ((first | (rw [gF_if]; split) | (rw [condC_if]; split) | (rw [pickR_if]; split)) <;> (rename_i hh; (try simp only [Bool.not_eq_true, decide_eq_true_eq] at hh); simp only [hh, run0, run1, run2, run3, run4, noSlot, memN, RO.dst, lk, drop, forget, number, Nat.reduceBEq, cut?, splice?, builds, List.length_cons, List.length_nil, List.drop_succ_cons, List.drop_zero, List.take_succ_cons, List.take_zero, List.cons_append, List.nil_append, List.append_nil, List.drop_nil, List.take_nil, Nat.reduceAdd, Nat.reduceLeDiff, Nat.zero_add, Nat.add_zero, ↓reduceIte, Bool.not_true, Bool.not_false, decide_true, decide_false, eq_self, bne_self_eq_false, List.getElem?_cons_zero, List.getElem?_cons_succ, decide_eq_true_eq, Bool.false_eq_true, Bool.true_eq_false, reduceCtorEq, Nat.le_refl, hg, l1])))
  all_goals clear hg l1
  all_goals first
    | (refine ⟨_, ?_, On.refl h⟩; simp_all [inR]; done)
    | (refine ⟨_, ?_, On.refl h⟩; simp_all [inR]; omega)
    | (rcases key with ⟨a1, g, og, a2⟩ | ⟨a1, s', a2, og, a3⟩
       · dsimp only at a2
         rw [a2, loop_run]
         conv in (codeF _ _ r206L0 _) => unfold r206L0
         simp only [run0, run1, run2, run3, run4, noSlot, memN, RO.dst, lk, drop, forget, number, Nat.reduceBEq, cut?, splice?, builds, List.length_cons, List.length_nil, List.drop_succ_cons, List.drop_zero, List.take_succ_cons, List.take_zero, List.cons_append, List.nil_append, List.append_nil, List.drop_nil, List.take_nil, Nat.reduceAdd, Nat.reduceLeDiff, Nat.zero_add, Nat.add_zero, ↓reduceIte, Bool.not_true, Bool.not_false, decide_true, decide_false, eq_self, bne_self_eq_false, List.getElem?_cons_zero, List.getElem?_cons_succ, decide_eq_true_eq, Bool.false_eq_true, Bool.true_eq_false, reduceCtorEq, Nat.le_refl, n1]
         refine ⟨_, ?_, og⟩
         simp_all [inR] <;> omega
       · rw [a2]
         simp only [run0, run1, run2, run3, run4, noSlot, memN, RO.dst, lk, drop, forget, number, Nat.reduceBEq, cut?, splice?, builds, List.length_cons, List.length_nil, List.drop_succ_cons, List.drop_zero, List.take_succ_cons, List.take_zero, List.cons_append, List.nil_append, List.append_nil, List.drop_nil, List.take_nil, Nat.reduceAdd, Nat.reduceLeDiff, Nat.zero_add, Nat.add_zero, ↓reduceIte, Bool.not_true, Bool.not_false, decide_true, decide_false, eq_self, bne_self_eq_false, List.getElem?_cons_zero, List.getElem?_cons_succ, decide_eq_true_eq, Bool.false_eq_true, Bool.true_eq_false, reduceCtorEq, Nat.le_refl, a3]
         refine ⟨_, ?_, og⟩
         simp_all [inR] <;> omega)
end
end Go.Proofs.Ytlbagejkjkfkjaa.A
/- Is a store right, by the reference? -/
namespace Go.Proofs.Ytlbagejkjkfkjaa.A
open Go
set_option linter.unusedSimpArgs false
set_option linter.unusedVariables false
section
variable {F : Nat → Option RF} {Z : CallF} {h : Heap} {cs : List Cell} {s : Store} {fp : List Nat} {x : Cell}
theorem l13Shard_q (k : KS F) {t : Shard} {cs : List Cell} {fp : List Nat} (v : Shard.RI h cs t fp) (ok : t.Ok) :
    call F Z 204 [.agg cs] ⟨h.next, h.next, h.get⟩ = some (.c (.bool t.good), ⟨h.next, h.next, h.get⟩) := l13Shard_run (Z := Z) k.s01 k.s10 k.s13 (Shard.okI.up v h.next) ok
set_option maxHeartbeats 4000000 in
theorem sStoreOk_turn (k : KS F) (w : SlR 16 Shard.RI h x s.shards fp) (ok : ∀ a, a ∈ s.shards → a.Ok) (i : Nat) (hi : i < s.shards.length) :
    Turn (loop F Z [1, 3] r156L0 ⟨[(3, .c (.int .i64 (i : Nat)))], [(1, 1, 0)], [(1, [.int .i64 s.group, .int .i64 s.seen, x])], h⟩)
      (loop F Z [1, 3] r156L0 ⟨[(3, .c (.int .i64 ((i + 1 : Nat) : Int)))], [(1, 1, 0)], [(1, [.int .i64 s.group, .int .i64 s.seen, x])], h⟩)
      (s.fits i) (fun s' => lk s'.env 2 = some (.c (.bool false)) ∧ s'.hp = h) := by
  have hle := w.le2
  have hlt : (i : Int) < s.shards.length := by omega
  have hws := wrapS i (by omega)
  have hxi := w.idx hi
  have hwl := w.len
  obtain ⟨r, f, hld, hR, _⟩ := w.one hi
  rw [← Shard.at_get hi] at hR
  have aok := ok _ (List.getElem_mem hi)
  rw [← Shard.at_get hi] at aok
  have hc := l13Shard_q (Z := Z) k hR aok
  have hpre : 0 < i → IntKind.i64.wrap ((i : Int) - 1) = ((i - 1 : Nat) : Int) := fun hp => by rw [wrapI _ (by omega) (by omega)]; omega
  have hpi : 0 < i → idxR 16 (some x) (some ((i - 1 : Nat) : Int)) = some (.ptr x.sid (i - 1) 0) := fun hp => w.idx (by omega)
  have hpl : 0 < i → ∃ r', (∀ j n, loadP h x.sid (i - 1) j n = cut? r' j n) ∧ ∃ f', Shard.RI h r' (Shard.at_ s.shards (i - 1)) f' := fun hp => by
    obtain ⟨r', f', h1, h2, _⟩ := w.one (show i - 1 < s.shards.length by omega)
    rw [← Shard.at_get] at h2
    exact ⟨r', h1, f', h2⟩
  have hfit : s.fits i = ((Shard.at_ s.shards i).good && (decide ((Shard.at_ s.shards i).epoch ≤ s.seen) && (i == 0 || decide ((Shard.at_ s.shards (i - 1)).hi < (Shard.at_ s.shards i).lo)))) := rfl
  obtain ⟨x1, p1, x2, p2, rfl, _⟩ := hR
  clear w ok aok
  generalize s.fits i = fa at *
  generalize (Shard.at_ s.shards i).good = gd at *
  generalize Shard.at_ s.shards (i - 1) = pa at *
  generalize Shard.at_ s.shards i = a at *
  rw [loop_run]
  conv in (codeF _ _ r156L0 _) => unfold r156L0
  simp only [run0, run1, run2, run3, run4, noSlot, memN, RO.dst, lk, drop, forget, number, Nat.reduceBEq, cut?, splice?, builds, List.length_cons, List.length_nil, List.drop_succ_cons, List.drop_zero, List.take_succ_cons, List.take_zero, List.cons_append, List.nil_append, List.append_nil, List.drop_nil, List.take_nil, Nat.reduceAdd, Nat.reduceLeDiff, Nat.zero_add, Nat.add_zero, ↓reduceIte, Bool.not_true, Bool.not_false, decide_true, decide_false, eq_self, bne_self_eq_false, List.getElem?_cons_zero, List.getElem?_cons_succ, decide_eq_true_eq, Bool.false_eq_true, Bool.true_eq_false, reduceCtorEq, Nat.le_refl, hwl, hlt, hxi, hld]
  cases gd with
  | false =>
    simp only [run0, run1, run2, run3, run4, noSlot, memN, RO.dst, lk, drop, forget, number, Nat.reduceBEq, cut?, splice?, builds, List.length_cons, List.length_nil, List.drop_succ_cons, List.drop_zero, List.take_succ_cons, List.take_zero, List.cons_append, List.nil_append, List.append_nil, List.drop_nil, List.take_nil, Nat.reduceAdd, Nat.reduceLeDiff, Nat.zero_add, Nat.add_zero, ↓reduceIte, Bool.not_true, Bool.not_false, decide_true, decide_false, eq_self, bne_self_eq_false, List.getElem?_cons_zero, List.getElem?_cons_succ, decide_eq_true_eq, Bool.false_eq_true, Bool.true_eq_false, reduceCtorEq, Nat.le_refl, hc]
    exact .inr ⟨by simp_all, _, rfl, rfl, rfl⟩
  | true =>
    by_cases hp : 0 < i
    · have g1 : (i : Int) > 0 := by omega
      have hi0 : (i == 0) = false := by simp; omega
      have q1 := hpre hp
      have q2 := hpi hp
      obtain ⟨r', q3, f', y1, y2, y3, y4, rfl, _⟩ := hpl hp
      clear hxi hpre hpi hpl hld
      simp only [run0, run1, run2, run3, run4, noSlot, memN, RO.dst, lk, drop, forget, number, Nat.reduceBEq, cut?, splice?, builds, List.length_cons, List.length_nil, List.drop_succ_cons, List.drop_zero, List.take_succ_cons, List.take_zero, List.cons_append, List.nil_append, List.append_nil, List.drop_nil, List.take_nil, Nat.reduceAdd, Nat.reduceLeDiff, Nat.zero_add, Nat.add_zero, ↓reduceIte, Bool.not_true, Bool.not_false, decide_true, decide_false, eq_self, bne_self_eq_false, List.getElem?_cons_zero, List.getElem?_cons_succ, decide_eq_true_eq, Bool.false_eq_true, Bool.true_eq_false, reduceCtorEq, Nat.le_refl, hws, g1, q1, q2, q3, hc]
      (repeat' ((first | (rw [gF_if]; split) | (rw [condC_if]; split) | (rw [pickR_if]; split)) <;> (rename_i hh; (try simp only [Bool.not_eq_true, decide_eq_true_eq] at hh); simp only [hh, run0, run1, run2, run3, run4, noSlot, memN, RO.dst, lk, drop, forget, number, Nat.reduceBEq, cut?, splice?, builds, List.length_cons, List.length_nil, List.drop_succ_cons, List.drop_zero, List.take_succ_cons, List.take_zero, List.cons_append, List.nil_append, List.append_nil, List.drop_nil, List.take_nil, Nat.reduceAdd, Nat.reduceLeDiff, Nat.zero_add, Nat.add_zero, ↓reduceIte, Bool.not_true, Bool.not_false, decide_true, decide_false, eq_self, bne_self_eq_false, List.getElem?_cons_zero, List.getElem?_cons_succ, decide_eq_true_eq, Bool.false_eq_true, Bool.true_eq_false, reduceCtorEq, Nat.le_refl, hws, g1, q1, q2, q3, hc])))
      all_goals clear q2 q3 hc
      all_goals first
        | exact .inl ⟨by simp_all <;> omega, rfl⟩
        | exact .inr ⟨by simp_all <;> omega, _, rfl, rfl, rfl⟩
    · have g1 : ¬ (i : Int) > 0 := by omega
      have hi0 : (i == 0) = true := by simp; omega
      clear hxi hpre hpi hpl hld
      simp only [run0, run1, run2, run3, run4, noSlot, memN, RO.dst, lk, drop, forget, number, Nat.reduceBEq, cut?, splice?, builds, List.length_cons, List.length_nil, List.drop_succ_cons, List.drop_zero, List.take_succ_cons, List.take_zero, List.cons_append, List.nil_append, List.append_nil, List.drop_nil, List.take_nil, Nat.reduceAdd, Nat.reduceLeDiff, Nat.zero_add, Nat.add_zero, ↓reduceIte, Bool.not_true, Bool.not_false, decide_true, decide_false, eq_self, bne_self_eq_false, List.getElem?_cons_zero, List.getElem?_cons_succ, decide_eq_true_eq, Bool.false_eq_true, Bool.true_eq_false, reduceCtorEq, Nat.le_refl, hws, g1, hc]
      (repeat' ((first | (rw [gF_if]; split) | (rw [condC_if]; split) | (rw [pickR_if]; split)) <;> (rename_i hh; (try simp only [Bool.not_eq_true, decide_eq_true_eq] at hh); simp only [hh, run0, run1, run2, run3, run4, noSlot, memN, RO.dst, lk, drop, forget, number, Nat.reduceBEq, cut?, splice?, builds, List.length_cons, List.length_nil, List.drop_succ_cons, List.drop_zero, List.take_succ_cons, List.take_zero, List.cons_append, List.nil_append, List.append_nil, List.drop_nil, List.take_nil, Nat.reduceAdd, Nat.reduceLeDiff, Nat.zero_add, Nat.add_zero, ↓reduceIte, Bool.not_true, Bool.not_false, decide_true, decide_false, eq_self, bne_self_eq_false, List.getElem?_cons_zero, List.getElem?_cons_succ, decide_eq_true_eq, Bool.false_eq_true, Bool.true_eq_false, reduceCtorEq, Nat.le_refl, hws, g1, hc])))
      all_goals clear hc
      all_goals first
        | exact .inl ⟨by simp_all <;> omega, rfl⟩
        | exact .inr ⟨by simp_all <;> omega, _, rfl, rfl, rfl⟩
set_option maxHeartbeats 4000000 in
theorem sStoreOk_run (k : KS F) (v : Store.RI h cs s fp) (ok : s.Ok) : call F Z 156 [.agg cs] h = some (.c (.bool s.good), h) := by
  obtain ⟨x, p, rfl, rfl, w⟩ := v
  have key := loop_allN (F := F) (Z := Z) (live := [1, 3]) (b := r156L0) s.shards.length (fun i => ⟨[(3, .c (.int .i64 (i : Nat)))], [(1, 1, 0)], [(1, [.int .i64 s.group, .int .i64 s.seen, x])], h⟩) s.fits (fun s' => lk s'.env 2 = some (.c (.bool false)) ∧ s'.hp = h)
    fun i hi => sStoreOk_turn k w ok.shards i hi
  have l1 := w.len
  have n1 : ¬ (s.shards.length : Int) < s.shards.length := by omega
  clear w ok
  simp only [show ((0 : Nat) : Int) = 0 from rfl] at key
  have hg := fun n lo hi => l01In_run (Z := Z) k.s01 n lo hi h
  have hgd : s.good = (inR s.group 0 99 && (inR s.seen 0 1000000 && (decide ((s.shards.length : Int) ≤ 8) && (List.range s.shards.length).all s.fits))) := rfl
  generalize s.good = sg at *
  generalize (List.range s.shards.length).all s.fits = al at *
  rw [call_run F Z (k.s13.lk (g := 156) rfl) _ _ rfl]
  simp only [run0, run1, run2, run3, run4, noSlot, memN, RO.dst, lk, drop, forget, number, Nat.reduceBEq, cut?, splice?, builds, List.length_cons, List.length_nil, List.drop_succ_cons, List.drop_zero, List.take_succ_cons, List.take_zero, List.cons_append, List.nil_append, List.append_nil, List.drop_nil, List.take_nil, Nat.reduceAdd, Nat.reduceLeDiff, Nat.zero_add, Nat.add_zero, ↓reduceIte, Bool.not_true, Bool.not_false, decide_true, decide_false, eq_self, bne_self_eq_false, List.getElem?_cons_zero, List.getElem?_cons_succ, decide_eq_true_eq, Bool.false_eq_true, Bool.true_eq_false, reduceCtorEq, Nat.le_refl, hg, l1]
  clear k
  (repeat' ((first | (rw [gF_if]; split) | (rw [condC_if]; split) | (rw [pickR_if]; split)) <;> (rename_i hh; (try simp only [Bool.not_eq_true, decide_eq_true_eq] at hh); simp only [hh, run0, run1, run2, run3, run4, noSlot, memN, RO.dst, lk, drop, forget, number, Nat.reduceBEq, cut?, splice?, builds, List.length_cons, List.length_nil, List.drop_succ_cons, List.drop_zero, List.take_succ_cons, List.take_zero, List.cons_append, List.nil_append, List.append_nil, List.drop_nil, List.take_nil, Nat.reduceAdd, Nat.reduceLeDiff, Nat.zero_add, Nat.add_zero, ↓reduceIte, Bool.not_true, Bool.not_false, decide_true, decide_false, eq_self, bne_self_eq_false, List.getElem?_cons_zero, List.getElem?_cons_succ, decide_eq_true_eq, Bool.false_eq_true, Bool.true_eq_false, reduceCtorEq, Nat.le_refl, hg, l1])))
  all_goals clear hg
  all_goals first
    | (simp_all [inR] <;> omega)
    | (rcases key with ⟨a1, a2⟩ | ⟨a1, s', a2, a3, a4⟩
       · rw [a2, loop_run]
         conv in (codeF _ _ r156L0 _) => unfold r156L0
         simp only [run0, run1, run2, run3, run4, noSlot, memN, RO.dst, lk, drop, forget, number, Nat.reduceBEq, cut?, splice?, builds, List.length_cons, List.length_nil, List.drop_succ_cons, List.drop_zero, List.take_succ_cons, List.take_zero, List.cons_append, List.nil_append, List.append_nil, List.drop_nil, List.take_nil, Nat.reduceAdd, Nat.reduceLeDiff, Nat.zero_add, Nat.add_zero, ↓reduceIte, Bool.not_true, Bool.not_false, decide_true, decide_false, eq_self, bne_self_eq_false, List.getElem?_cons_zero, List.getElem?_cons_succ, decide_eq_true_eq, Bool.false_eq_true, Bool.true_eq_false, reduceCtorEq, Nat.le_refl, l1, n1]
         simp_all [inR] <;> omega
       · rw [a2]
         simp only [run0, run1, run2, run3, run4, noSlot, memN, RO.dst, lk, drop, forget, number, Nat.reduceBEq, cut?, splice?, builds, List.length_cons, List.length_nil, List.drop_succ_cons, List.drop_zero, List.take_succ_cons, List.take_zero, List.cons_append, List.nil_append, List.append_nil, List.drop_nil, List.take_nil, Nat.reduceAdd, Nat.reduceLeDiff, Nat.zero_add, Nat.add_zero, ↓reduceIte, Bool.not_true, Bool.not_false, decide_true, decide_false, eq_self, bne_self_eq_false, List.getElem?_cons_zero, List.getElem?_cons_succ, decide_eq_true_eq, Bool.false_eq_true, Bool.true_eq_false, reduceCtorEq, Nat.le_refl, a3, a4]
         simp_all [inR] <;> omega)
variable {c : Heap}
theorem StoreOk_c (k : KI F) (hf : h.floor ≤ h.next) (v : Store.RI h cs s fp) (ok : s.Ok) : ∃ h', call F Z 157 [.agg cs] h = some (.c (.bool s.good), h') ∧ On h h' := by
  obtain ⟨l1, l2, l3⟩ := Store.lenI v
  obtain ⟨h', e, o⟩ := isStore_run (Z := Z) k v ok
  refine ⟨h', ?_, o⟩
  rw [call_run F Z (k.i13.lk (g := 157) rfl) _ _ rfl]
  simp only [run0, run1, run2, run3, run4, noSlot, memN, RO.dst, lk, drop, forget, number, Nat.reduceBEq, cut?, splice?, builds, List.length_cons, List.length_nil, List.drop_succ_cons, List.drop_zero, List.take_succ_cons, List.take_zero, List.cons_append, List.nil_append, List.append_nil, List.drop_nil, List.take_nil, Nat.reduceAdd, Nat.reduceLeDiff, Nat.zero_add, Nat.add_zero, ↓reduceIte, Bool.not_true, Bool.not_false, decide_true, decide_false, eq_self, bne_self_eq_false, List.getElem?_cons_zero, List.getElem?_cons_succ, decide_eq_true_eq, Bool.false_eq_true, Bool.true_eq_false, reduceCtorEq, Nat.le_refl, l1, l2, l3, e]
theorem sStoreOk_c (k : KS F) (hf : h.floor ≤ h.next) (v : Store.RI h cs s fp) (ok : s.Ok) : ∃ h', call F Z 156 [.agg cs] h = some (.c (.bool s.good), h') ∧ On h h' := ⟨h, sStoreOk_run k v ok, On.refl h⟩
end
end Go.Proofs.Ytlbagejkjkfkjaa.A
/- Where an id lies in the shards of a store. -/
namespace Go.Proofs.Ytlbagejkjkfkjaa.A
open Go
set_option linter.unusedSimpArgs false
set_option linter.unusedVariables false
def findId (xs : List Shard) (id : Int) : Int := findI (fun t => decide (t.lo ≤ id) && decide (id ≤ t.hi)) xs
def findAt (xs : List Shard) (lo st : Int) : Int := findI (fun t => (t.lo == lo) && (t.state == st)) xs
theorem findI_lt {α : Type} {p : α → Bool} {xs : List α} : -1 ≤ findI p xs ∧ findI p xs < xs.length := by
  unfold findI
  split
  · rename_i i hi
    rw [List.findIdx?_eq_some_iff_getElem] at hi
    obtain ⟨h, _⟩ := hi
    omega
  · omega
theorem findI_at {α : Type} {p : α → Bool} {xs : List α} (h : 0 ≤ findI p xs) : ∃ i : Nat, findI p xs = (i : Int) ∧ ∃ hi : i < xs.length, p xs[i] = true := by
  unfold findI at h ⊢
  split at h
  · rename_i i hi
    rw [List.findIdx?_eq_some_iff_getElem] at hi
    obtain ⟨h1, h2, _⟩ := hi
    exact ⟨i, rfl, h1, h2⟩
  · omega
theorem findI_no {α : Type} {p : α → Bool} {xs : List α} (h : findI p xs < 0) : findI p xs = -1 := by
  unfold findI at h ⊢
  split at h
  · omega
  · rfl
section
variable {F : Nat → Option RF} {Z : CallF} {h : Heap} {x : Cell} {xs : List Shard} {fp : List Nat} {cs : List Cell} {s : Store}
/-- slices.IndexFunc, of a function that leaves the heap alone. -/
theorem indexShard_run (hL : Has F tLibslicesIndexFuncimplShardimplShard) (w : SlR 16 Shard.RI h x xs fp) (f : Nat) (ps : List (Nat × Nat × Nat)) (p : Shard → Bool)
    (hc : ∀ r t q, Shard.RI h r t q → call F Z f (.agg r :: capV ps) h = some (.c (.bool (p t)), h)) : call F Z 248 [.c x, .c (.fn f ps)] h = some (.c (.int .i64 (findI p xs)), h) := by
  have hle := w.le2
  rw [call_run F Z (hL.lk (g := 248) rfl) _ _ rfl]
  simp only [run0, run1, run2, run3, run4, noSlot, memN, RO.dst, lk, drop, forget, number, Nat.reduceBEq, cut?, splice?, builds, List.length_cons, List.length_nil, List.drop_succ_cons, List.drop_zero, List.take_succ_cons, List.take_zero, List.cons_append, List.nil_append, List.append_nil, List.drop_nil, List.take_nil, Nat.reduceAdd, Nat.reduceLeDiff, Nat.zero_add, Nat.add_zero, ↓reduceIte, Bool.not_true, Bool.not_false, decide_true, decide_false, eq_self, bne_self_eq_false, List.getElem?_cons_zero, List.getElem?_cons_succ, decide_eq_true_eq, Bool.false_eq_true, Bool.true_eq_false, reduceCtorEq, Nat.le_refl, w.len]
  have key := loop_find (F := F) (Z := Z) (live := [0, 1, 7, 8]) (b := r248L0) xs p (fun i => ⟨[(0, .c x), (1, .c (.fn f ps)), (7, .c (.int .i64 (xs.length : Nat))), (8, .c (.int .i64 (i : Nat)))], [], [], h⟩) (fun i s => lk s.env 4 = some (.c (.int .i64 (i : Nat))) ∧ s.hp = h) fun i hi => by
    have hlt : (i : Int) < xs.length := by omega
    have hws := wrapS i (by omega)
    obtain ⟨r, q, hld, hR, _⟩ := w.one hi
    have hci := hc _ _ _ hR
    obtain ⟨r1, r2, r3⟩ := Shard.lenI hR
    have hxi := w.idx hi
    clear w hR
    rw [loop_run]
    conv in (codeF _ _ r248L0 _) => unfold r248L0
    simp only [run0, run1, run2, run3, run4, noSlot, memN, RO.dst, lk, drop, forget, number, Nat.reduceBEq, cut?, splice?, builds, List.length_cons, List.length_nil, List.drop_succ_cons, List.drop_zero, List.take_succ_cons, List.take_zero, List.cons_append, List.nil_append, List.append_nil, List.drop_nil, List.take_nil, Nat.reduceAdd, Nat.reduceLeDiff, Nat.zero_add, Nat.add_zero, ↓reduceIte, Bool.not_true, Bool.not_false, decide_true, decide_false, eq_self, bne_self_eq_false, List.getElem?_cons_zero, List.getElem?_cons_succ, decide_eq_true_eq, Bool.false_eq_true, Bool.true_eq_false, reduceCtorEq, Nat.le_refl, hlt, hxi, hld, r1, r2, r3]
    simp only [hci, run0, run1, run2, run3, run4, noSlot, memN, RO.dst, lk, drop, forget, number, Nat.reduceBEq, cut?, splice?, builds, List.length_cons, List.length_nil, List.drop_succ_cons, List.drop_zero, List.take_succ_cons, List.take_zero, List.cons_append, List.nil_append, List.append_nil, List.drop_nil, List.take_nil, Nat.reduceAdd, Nat.reduceLeDiff, Nat.zero_add, Nat.add_zero, ↓reduceIte, Bool.not_true, Bool.not_false, decide_true, decide_false, eq_self, bne_self_eq_false, List.getElem?_cons_zero, List.getElem?_cons_succ, decide_eq_true_eq, Bool.false_eq_true, Bool.true_eq_false, reduceCtorEq, Nat.le_refl]
    (repeat' ((first | (rw [gF_if]; split) | (rw [condC_if]; split) | (rw [pickR_if]; split)) <;> (rename_i hh; (try simp only [Bool.not_eq_true, decide_eq_true_eq] at hh); simp only [hh, run0, run1, run2, run3, run4, noSlot, memN, RO.dst, lk, drop, forget, number, Nat.reduceBEq, cut?, splice?, builds, List.length_cons, List.length_nil, List.drop_succ_cons, List.drop_zero, List.take_succ_cons, List.take_zero, List.cons_append, List.nil_append, List.append_nil, List.drop_nil, List.take_nil, Nat.reduceAdd, Nat.reduceLeDiff, Nat.zero_add, Nat.add_zero, ↓reduceIte, Bool.not_true, Bool.not_false, decide_true, decide_false, eq_self, bne_self_eq_false, List.getElem?_cons_zero, List.getElem?_cons_succ, decide_eq_true_eq, Bool.false_eq_true, Bool.true_eq_false, reduceCtorEq, Nat.le_refl, hws]))) <;> first
      | exact .inl ⟨by simp_all, rfl⟩
      | exact .inr ⟨by simp_all, _, rfl, rfl, rfl⟩
  have hlt : ¬ (xs.length : Int) < xs.length := by omega
  simp only [show ((0 : Nat) : Int) = 0 from rfl] at key
  rcases key with ⟨k1, k2⟩ | ⟨i, k1, hi, s, k2, k3, k4⟩
  · rw [k2, loop_run]
    conv in (codeF _ _ r248L0 _) => unfold r248L0
    simp only [run0, run1, run2, run3, run4, noSlot, memN, RO.dst, lk, drop, forget, number, Nat.reduceBEq, cut?, splice?, builds, List.length_cons, List.length_nil, List.drop_succ_cons, List.drop_zero, List.take_succ_cons, List.take_zero, List.cons_append, List.nil_append, List.append_nil, List.drop_nil, List.take_nil, Nat.reduceAdd, Nat.reduceLeDiff, Nat.zero_add, Nat.add_zero, ↓reduceIte, Bool.not_true, Bool.not_false, decide_true, decide_false, eq_self, bne_self_eq_false, List.getElem?_cons_zero, List.getElem?_cons_succ, decide_eq_true_eq, Bool.false_eq_true, Bool.true_eq_false, reduceCtorEq, Nat.le_refl, hlt, findI, k1]
  · rw [k2]
    simp only [run0, run1, run2, run3, run4, noSlot, memN, RO.dst, lk, drop, forget, number, Nat.reduceBEq, cut?, splice?, builds, List.length_cons, List.length_nil, List.drop_succ_cons, List.drop_zero, List.take_succ_cons, List.take_zero, List.cons_append, List.nil_append, List.append_nil, List.drop_nil, List.take_nil, Nat.reduceAdd, Nat.reduceLeDiff, Nat.zero_add, Nat.add_zero, ↓reduceIte, Bool.not_true, Bool.not_false, decide_true, decide_false, eq_self, bne_self_eq_false, List.getElem?_cons_zero, List.getElem?_cons_succ, decide_eq_true_eq, Bool.false_eq_true, Bool.true_eq_false, reduceCtorEq, Nat.le_refl, k3, k4, findI, k1]
theorem shardWith_run (hI13 : Has F tI13) (hL : Has F tLibslicesIndexFuncimplShardimplShard) (v : Store.RI h cs s fp) (id : Int) :
    call F Z 212 [.agg cs, .c (.int .u64 id)] h = some (.c (.int .i64 (findId s.shards id)), h.push [[.int .u64 id]]) := by
  obtain ⟨x, p, rfl, rfl, w⟩ := v
  have w' := w.on Shard.okI (On.push h [[.int .u64 id]])
  have hr := indexShard_run (Z := Z) hL w' 247 [(h.next, 0, 0)] (fun t => decide (t.lo ≤ id) && decide (id ≤ t.hi)) fun r t q hR => by
    obtain ⟨x1, p1, x2, p2, rfl, _⟩ := hR
    have hl : loadP (h.push [[.int .u64 id]]) h.next 0 0 1 = some [.int .u64 id] := by simp [loadP, rowOf, push_get, cut?]
    simp only [run0, run1, run2, run3, run4, noSlot, memN, RO.dst, lk, drop, forget, number, Nat.reduceBEq, cut?, splice?, builds, List.length_cons, List.length_nil, List.drop_succ_cons, List.drop_zero, List.take_succ_cons, List.take_zero, List.cons_append, List.nil_append, List.append_nil, List.drop_nil, List.take_nil, Nat.reduceAdd, Nat.reduceLeDiff, Nat.zero_add, Nat.add_zero, ↓reduceIte, Bool.not_true, Bool.not_false, decide_true, decide_false, eq_self, bne_self_eq_false, List.getElem?_cons_zero, List.getElem?_cons_succ, decide_eq_true_eq, Bool.false_eq_true, Bool.true_eq_false, reduceCtorEq, Nat.le_refl, capV_cons]
    rw [call_run F Z (hI13.lk (g := 247) rfl) _ _ rfl]
    simp only [run0, run1, run2, run3, run4, noSlot, memN, RO.dst, lk, drop, forget, number, Nat.reduceBEq, cut?, splice?, builds, List.length_cons, List.length_nil, List.drop_succ_cons, List.drop_zero, List.take_succ_cons, List.take_zero, List.cons_append, List.nil_append, List.append_nil, List.drop_nil, List.take_nil, Nat.reduceAdd, Nat.reduceLeDiff, Nat.zero_add, Nat.add_zero, ↓reduceIte, Bool.not_true, Bool.not_false, decide_true, decide_false, eq_self, bne_self_eq_false, List.getElem?_cons_zero, List.getElem?_cons_succ, decide_eq_true_eq, Bool.false_eq_true, Bool.true_eq_false, reduceCtorEq, Nat.le_refl, hl]
    (repeat' ((first | (rw [gF_if]; split) | (rw [condC_if]; split) | (rw [pickR_if]; split)) <;> (rename_i hh; (try simp only [Bool.not_eq_true, decide_eq_true_eq] at hh); simp only [hh, run0, run1, run2, run3, run4, noSlot, memN, RO.dst, lk, drop, forget, number, Nat.reduceBEq, cut?, splice?, builds, List.length_cons, List.length_nil, List.drop_succ_cons, List.drop_zero, List.take_succ_cons, List.take_zero, List.cons_append, List.nil_append, List.append_nil, List.drop_nil, List.take_nil, Nat.reduceAdd, Nat.reduceLeDiff, Nat.zero_add, Nat.add_zero, ↓reduceIte, Bool.not_true, Bool.not_false, decide_true, decide_false, eq_self, bne_self_eq_false, List.getElem?_cons_zero, List.getElem?_cons_succ, decide_eq_true_eq, Bool.false_eq_true, Bool.true_eq_false, reduceCtorEq, Nat.le_refl, hl]))) <;> simp_all
  rw [call_run F Z (hI13.lk (g := 212) rfl) _ _ rfl]
  simp only [run0, run1, run2, run3, run4, noSlot, memN, RO.dst, lk, drop, forget, number, Nat.reduceBEq, cut?, splice?, builds, List.length_cons, List.length_nil, List.drop_succ_cons, List.drop_zero, List.take_succ_cons, List.take_zero, List.cons_append, List.nil_append, List.append_nil, List.drop_nil, List.take_nil, Nat.reduceAdd, Nat.reduceLeDiff, Nat.zero_add, Nat.add_zero, ↓reduceIte, Bool.not_true, Bool.not_false, decide_true, decide_false, eq_self, bne_self_eq_false, List.getElem?_cons_zero, List.getElem?_cons_succ, decide_eq_true_eq, Bool.false_eq_true, Bool.true_eq_false, reduceCtorEq, Nat.le_refl, hr, evPtrs]
  rfl
theorem shardAt_run (hI13 : Has F tI13) (hL : Has F tLibslicesIndexFuncimplShardimplShard) (v : Store.RI h cs s fp) (lo st : Int) :
    call F Z 213 [.agg cs, .c (.int .u64 lo), .c (.int .i64 st)] h = some (.c (.int .i64 (findAt s.shards lo st)), (h.push [[.int .u64 lo]]).push [[.int .i64 st]]) := by
  obtain ⟨x, p, rfl, rfl, w⟩ := v
  have w' := (w.on Shard.okI (On.push h [[.int .u64 lo]])).on Shard.okI (On.push _ [[.int .i64 st]])
  have hr := indexShard_run (Z := Z) hL w' 249 [(h.next, 0, 0), (h.next + 1, 0, 0)] (fun t => (t.lo == lo) && (t.state == st)) fun r t q hR => by
    obtain ⟨x1, p1, x2, p2, rfl, _⟩ := hR
    have hl : loadP ((h.push [[.int .u64 lo]]).push [[.int .i64 st]]) h.next 0 0 1 = some [.int .u64 lo] := by
      simp [loadP, rowOf, Heap.push, cut?]
    have hl2 : loadP ((h.push [[.int .u64 lo]]).push [[.int .i64 st]]) (h.next + 1) 0 0 1 = some [.int .i64 st] := by
      simp [loadP, rowOf, Heap.push, cut?]
    simp only [run0, run1, run2, run3, run4, noSlot, memN, RO.dst, lk, drop, forget, number, Nat.reduceBEq, cut?, splice?, builds, List.length_cons, List.length_nil, List.drop_succ_cons, List.drop_zero, List.take_succ_cons, List.take_zero, List.cons_append, List.nil_append, List.append_nil, List.drop_nil, List.take_nil, Nat.reduceAdd, Nat.reduceLeDiff, Nat.zero_add, Nat.add_zero, ↓reduceIte, Bool.not_true, Bool.not_false, decide_true, decide_false, eq_self, bne_self_eq_false, List.getElem?_cons_zero, List.getElem?_cons_succ, decide_eq_true_eq, Bool.false_eq_true, Bool.true_eq_false, reduceCtorEq, Nat.le_refl, capV_cons]
    rw [call_run F Z (hI13.lk (g := 249) rfl) _ _ rfl]
    simp only [run0, run1, run2, run3, run4, noSlot, memN, RO.dst, lk, drop, forget, number, Nat.reduceBEq, cut?, splice?, builds, List.length_cons, List.length_nil, List.drop_succ_cons, List.drop_zero, List.take_succ_cons, List.take_zero, List.cons_append, List.nil_append, List.append_nil, List.drop_nil, List.take_nil, Nat.reduceAdd, Nat.reduceLeDiff, Nat.zero_add, Nat.add_zero, ↓reduceIte, Bool.not_true, Bool.not_false, decide_true, decide_false, eq_self, bne_self_eq_false, List.getElem?_cons_zero, List.getElem?_cons_succ, decide_eq_true_eq, Bool.false_eq_true, Bool.true_eq_false, reduceCtorEq, Nat.le_refl, hl, hl2]
    (repeat' ((first | (rw [gF_if]; split) | (rw [condC_if]; split) | (rw [pickR_if]; split)) <;> (rename_i hh; (try simp only [Bool.not_eq_true, decide_eq_true_eq] at hh); simp only [hh, run0, run1, run2, run3, run4, noSlot, memN, RO.dst, lk, drop, forget, number, Nat.reduceBEq, cut?, splice?, builds, List.length_cons, List.length_nil, List.drop_succ_cons, List.drop_zero, List.take_succ_cons, List.take_zero, List.cons_append, List.nil_append, List.append_nil, List.drop_nil, List.take_nil, Nat.reduceAdd, Nat.reduceLeDiff, Nat.zero_add, Nat.add_zero, ↓reduceIte, Bool.not_true, Bool.not_false, decide_true, decide_false, eq_self, bne_self_eq_false, List.getElem?_cons_zero, List.getElem?_cons_succ, decide_eq_true_eq, Bool.false_eq_true, Bool.true_eq_false, reduceCtorEq, Nat.le_refl, hl, hl2]))) <;> simp_all
  rw [call_run F Z (hI13.lk (g := 213) rfl) _ _ rfl]
  simp only [run0, run1, run2, run3, run4, noSlot, memN, RO.dst, lk, drop, forget, number, Nat.reduceBEq, cut?, splice?, builds, List.length_cons, List.length_nil, List.drop_succ_cons, List.drop_zero, List.take_succ_cons, List.take_zero, List.cons_append, List.nil_append, List.append_nil, List.drop_nil, List.take_nil, Nat.reduceAdd, Nat.reduceLeDiff, Nat.zero_add, Nat.add_zero, ↓reduceIte, Bool.not_true, Bool.not_false, decide_true, decide_false, eq_self, bne_self_eq_false, List.getElem?_cons_zero, List.getElem?_cons_succ, decide_eq_true_eq, Bool.false_eq_true, Bool.true_eq_false, reduceCtorEq, Nat.le_refl, push_next, hr, evPtrs]
  rfl
theorem shardWith_on (hI13 : Has F tI13) (hL : Has F tLibslicesIndexFuncimplShardimplShard) (v : Store.RI h cs s fp) (id : Int) :
    ∃ h', call F Z 212 [.agg cs, .c (.int .u64 id)] h = some (.c (.int .i64 (findId s.shards id)), h') ∧ On h h' := ⟨_, shardWith_run hI13 hL v id, On.push _ _⟩
theorem shardAt_on (hI13 : Has F tI13) (hL : Has F tLibslicesIndexFuncimplShardimplShard) (v : Store.RI h cs s fp) (lo st : Int) :
    ∃ h', call F Z 213 [.agg cs, .c (.int .u64 lo), .c (.int .i64 st)] h = some (.c (.int .i64 (findAt s.shards lo st)), h') ∧ On h h' := ⟨_, shardAt_run hI13 hL v lo st, (On.push _ _).trans (On.push _ _)⟩
theorem l13Find_run (hS13 : Has F tS13) (v : Store.RI h cs s fp) (id : Int) : call F Z 211 [.agg cs, .c (.int .u64 id)] h = some (.c (.int .i64 (findId s.shards id)), h) := by
  obtain ⟨x, p, rfl, rfl, w⟩ := v
  have hle := w.le2
  have hwl := w.len
  rw [call_run F Z (hS13.lk (g := 211) rfl) _ _ rfl]
  simp only [run0, run1, run2, run3, run4, noSlot, memN, RO.dst, lk, drop, forget, number, Nat.reduceBEq, cut?, splice?, builds, List.length_cons, List.length_nil, List.drop_succ_cons, List.drop_zero, List.take_succ_cons, List.take_zero, List.cons_append, List.nil_append, List.append_nil, List.drop_nil, List.take_nil, Nat.reduceAdd, Nat.reduceLeDiff, Nat.zero_add, Nat.add_zero, ↓reduceIte, Bool.not_true, Bool.not_false, decide_true, decide_false, eq_self, bne_self_eq_false, List.getElem?_cons_zero, List.getElem?_cons_succ, decide_eq_true_eq, Bool.false_eq_true, Bool.true_eq_false, reduceCtorEq, Nat.le_refl]
  have key := loop_find (F := F) (Z := Z) (live := [1, 2, 5]) (b := r211L0) s.shards (fun t => decide (t.lo ≤ id) && decide (id ≤ t.hi)) (fun i => ⟨[(1, .c (.int .u64 id)), (5, .c (.int .i64 (i : Nat)))], [(2, 2, 0)], [(2, [.int .i64 s.group, .int .i64 s.seen, x])], h⟩) (fun i s => lk s.env 4 = some (.c (.int .i64 (i : Nat))) ∧ s.hp = h) fun i hi => by
    have hlt : (i : Int) < s.shards.length := by omega
    have hws := wrapS i (by omega)
    obtain ⟨r, q, hld, hR, _⟩ := w.one hi
    obtain ⟨x1, p1, x2, p2, rfl, _⟩ := hR
    have hxi := w.idx hi
    clear w
    rw [loop_run]
    conv in (codeF _ _ r211L0 _) => unfold r211L0
    simp only [run0, run1, run2, run3, run4, noSlot, memN, RO.dst, lk, drop, forget, number, Nat.reduceBEq, cut?, splice?, builds, List.length_cons, List.length_nil, List.drop_succ_cons, List.drop_zero, List.take_succ_cons, List.take_zero, List.cons_append, List.nil_append, List.append_nil, List.drop_nil, List.take_nil, Nat.reduceAdd, Nat.reduceLeDiff, Nat.zero_add, Nat.add_zero, ↓reduceIte, Bool.not_true, Bool.not_false, decide_true, decide_false, eq_self, bne_self_eq_false, List.getElem?_cons_zero, List.getElem?_cons_succ, decide_eq_true_eq, Bool.false_eq_true, Bool.true_eq_false, reduceCtorEq, Nat.le_refl, hwl, hlt, hxi, hld]
    (repeat' ((first | (rw [gF_if]; split) | (rw [condC_if]; split) | (rw [pickR_if]; split)) <;> (rename_i hh; (try simp only [Bool.not_eq_true, decide_eq_true_eq] at hh); simp only [hh, run0, run1, run2, run3, run4, noSlot, memN, RO.dst, lk, drop, forget, number, Nat.reduceBEq, cut?, splice?, builds, List.length_cons, List.length_nil, List.drop_succ_cons, List.drop_zero, List.take_succ_cons, List.take_zero, List.cons_append, List.nil_append, List.append_nil, List.drop_nil, List.take_nil, Nat.reduceAdd, Nat.reduceLeDiff, Nat.zero_add, Nat.add_zero, ↓reduceIte, Bool.not_true, Bool.not_false, decide_true, decide_false, eq_self, bne_self_eq_false, List.getElem?_cons_zero, List.getElem?_cons_succ, decide_eq_true_eq, Bool.false_eq_true, Bool.true_eq_false, reduceCtorEq, Nat.le_refl, hws, hxi, hld]))) <;> first
      | exact .inl ⟨by simp_all, rfl⟩
      | exact .inr ⟨by simp_all, _, rfl, rfl, rfl⟩
  have hlt : ¬ (s.shards.length : Int) < s.shards.length := by omega
  simp only [show ((0 : Nat) : Int) = 0 from rfl] at key
  rcases key with ⟨k1, k2⟩ | ⟨i, k1, hi, s, k2, k3, k4⟩
  · rw [k2, loop_run]
    conv in (codeF _ _ r211L0 _) => unfold r211L0
    simp only [run0, run1, run2, run3, run4, noSlot, memN, RO.dst, lk, drop, forget, number, Nat.reduceBEq, cut?, splice?, builds, List.length_cons, List.length_nil, List.drop_succ_cons, List.drop_zero, List.take_succ_cons, List.take_zero, List.cons_append, List.nil_append, List.append_nil, List.drop_nil, List.take_nil, Nat.reduceAdd, Nat.reduceLeDiff, Nat.zero_add, Nat.add_zero, ↓reduceIte, Bool.not_true, Bool.not_false, decide_true, decide_false, eq_self, bne_self_eq_false, List.getElem?_cons_zero, List.getElem?_cons_succ, decide_eq_true_eq, Bool.false_eq_true, Bool.true_eq_false, reduceCtorEq, Nat.le_refl, hwl, hlt, findId, findI, k1]
  · rw [k2]
    simp only [run0, run1, run2, run3, run4, noSlot, memN, RO.dst, lk, drop, forget, number, Nat.reduceBEq, cut?, splice?, builds, List.length_cons, List.length_nil, List.drop_succ_cons, List.drop_zero, List.take_succ_cons, List.take_zero, List.cons_append, List.nil_append, List.append_nil, List.drop_nil, List.take_nil, Nat.reduceAdd, Nat.reduceLeDiff, Nat.zero_add, Nat.add_zero, ↓reduceIte, Bool.not_true, Bool.not_false, decide_true, decide_false, eq_self, bne_self_eq_false, List.getElem?_cons_zero, List.getElem?_cons_succ, decide_eq_true_eq, Bool.false_eq_true, Bool.true_eq_false, reduceCtorEq, Nat.le_refl, k3, k4, findId, findI, k1]
theorem l13At_run (hS13 : Has F tS13) (v : Store.RI h cs s fp) (lo st : Int) : call F Z 210 [.agg cs, .c (.int .u64 lo), .c (.int .i64 st)] h = some (.c (.int .i64 (findAt s.shards lo st)), h) := by
  obtain ⟨x, p, rfl, rfl, w⟩ := v
  have hle := w.le2
  have hwl := w.len
  rw [call_run F Z (hS13.lk (g := 210) rfl) _ _ rfl]
  simp only [run0, run1, run2, run3, run4, noSlot, memN, RO.dst, lk, drop, forget, number, Nat.reduceBEq, cut?, splice?, builds, List.length_cons, List.length_nil, List.drop_succ_cons, List.drop_zero, List.take_succ_cons, List.take_zero, List.cons_append, List.nil_append, List.append_nil, List.drop_nil, List.take_nil, Nat.reduceAdd, Nat.reduceLeDiff, Nat.zero_add, Nat.add_zero, ↓reduceIte, Bool.not_true, Bool.not_false, decide_true, decide_false, eq_self, bne_self_eq_false, List.getElem?_cons_zero, List.getElem?_cons_succ, decide_eq_true_eq, Bool.false_eq_true, Bool.true_eq_false, reduceCtorEq, Nat.le_refl]
  have key := loop_find (F := F) (Z := Z) (live := [1, 2, 3, 7]) (b := r210L0) s.shards (fun t => (t.lo == lo) && (t.state == st)) (fun i => ⟨[(1, .c (.int .u64 lo)), (2, .c (.int .i64 st)), (7, .c (.int .i64 (i : Nat)))], [(3, 3, 0)], [(3, [.int .i64 s.group, .int .i64 s.seen, x])], h⟩) (fun i s => lk s.env 6 = some (.c (.int .i64 (i : Nat))) ∧ s.hp = h) fun i hi => by
    have hlt : (i : Int) < s.shards.length := by omega
    have hws := wrapS i (by omega)
    obtain ⟨r, q, hld, hR, _⟩ := w.one hi
    obtain ⟨x1, p1, x2, p2, rfl, _⟩ := hR
    have hxi := w.idx hi
    clear w
    rw [loop_run]
    conv in (codeF _ _ r210L0 _) => unfold r210L0
    simp only [run0, run1, run2, run3, run4, noSlot, memN, RO.dst, lk, drop, forget, number, Nat.reduceBEq, cut?, splice?, builds, List.length_cons, List.length_nil, List.drop_succ_cons, List.drop_zero, List.take_succ_cons, List.take_zero, List.cons_append, List.nil_append, List.append_nil, List.drop_nil, List.take_nil, Nat.reduceAdd, Nat.reduceLeDiff, Nat.zero_add, Nat.add_zero, ↓reduceIte, Bool.not_true, Bool.not_false, decide_true, decide_false, eq_self, bne_self_eq_false, List.getElem?_cons_zero, List.getElem?_cons_succ, decide_eq_true_eq, Bool.false_eq_true, Bool.true_eq_false, reduceCtorEq, Nat.le_refl, hwl, hlt, hxi, hld]
    (repeat' ((first | (rw [gF_if]; split) | (rw [condC_if]; split) | (rw [pickR_if]; split)) <;> (rename_i hh; (try simp only [Bool.not_eq_true, decide_eq_true_eq] at hh); simp only [hh, run0, run1, run2, run3, run4, noSlot, memN, RO.dst, lk, drop, forget, number, Nat.reduceBEq, cut?, splice?, builds, List.length_cons, List.length_nil, List.drop_succ_cons, List.drop_zero, List.take_succ_cons, List.take_zero, List.cons_append, List.nil_append, List.append_nil, List.drop_nil, List.take_nil, Nat.reduceAdd, Nat.reduceLeDiff, Nat.zero_add, Nat.add_zero, ↓reduceIte, Bool.not_true, Bool.not_false, decide_true, decide_false, eq_self, bne_self_eq_false, List.getElem?_cons_zero, List.getElem?_cons_succ, decide_eq_true_eq, Bool.false_eq_true, Bool.true_eq_false, reduceCtorEq, Nat.le_refl, hws, hxi, hld]))) <;> first
      | exact .inl ⟨by simp_all, rfl⟩
      | exact .inr ⟨by simp_all, _, rfl, rfl, rfl⟩
  have hlt : ¬ (s.shards.length : Int) < s.shards.length := by omega
  simp only [show ((0 : Nat) : Int) = 0 from rfl] at key
  rcases key with ⟨k1, k2⟩ | ⟨i, k1, hi, s, k2, k3, k4⟩
  · rw [k2, loop_run]
    conv in (codeF _ _ r210L0 _) => unfold r210L0
    simp only [run0, run1, run2, run3, run4, noSlot, memN, RO.dst, lk, drop, forget, number, Nat.reduceBEq, cut?, splice?, builds, List.length_cons, List.length_nil, List.drop_succ_cons, List.drop_zero, List.take_succ_cons, List.take_zero, List.cons_append, List.nil_append, List.append_nil, List.drop_nil, List.take_nil, Nat.reduceAdd, Nat.reduceLeDiff, Nat.zero_add, Nat.add_zero, ↓reduceIte, Bool.not_true, Bool.not_false, decide_true, decide_false, eq_self, bne_self_eq_false, List.getElem?_cons_zero, List.getElem?_cons_succ, decide_eq_true_eq, Bool.false_eq_true, Bool.true_eq_false, reduceCtorEq, Nat.le_refl, hwl, hlt, findAt, findI, k1]
  · rw [k2]
    simp only [run0, run1, run2, run3, run4, noSlot, memN, RO.dst, lk, drop, forget, number, Nat.reduceBEq, cut?, splice?, builds, List.length_cons, List.length_nil, List.drop_succ_cons, List.drop_zero, List.take_succ_cons, List.take_zero, List.cons_append, List.nil_append, List.append_nil, List.drop_nil, List.take_nil, Nat.reduceAdd, Nat.reduceLeDiff, Nat.zero_add, Nat.add_zero, ↓reduceIte, Bool.not_true, Bool.not_false, decide_true, decide_false, eq_self, bne_self_eq_false, List.getElem?_cons_zero, List.getElem?_cons_succ, decide_eq_true_eq, Bool.false_eq_true, Bool.true_eq_false, reduceCtorEq, Nat.le_refl, k3, k4, findAt, findI, k1]
end
end Go.Proofs.Ytlbagejkjkfkjaa.A
/- The compact code of some functions: laws.szHandMsg, laws.toHandMsg, laws.eqHandMsg. -/
namespace Go.Proofs.Ytlbagejkjkfkjaa.A
open Go
/-- laws.szHandMsg -/
def r82 : RF :=
 ⟨2, [.tmp 4],
 .seq (.reg [⟨none, .locb 2 (.t 0)⟩,
  ⟨none, .mov 4 (.k (.int .i64 0))⟩])
 (.seq (.reg [⟨none, .fad 5 2 4⟩,
  ⟨none, .load 6 5 6 true⟩,
  ⟨none, .mov 7 (.t 1)⟩,
  ⟨none, .call (some 8) 111 [(.t 6), (.t 7)] false⟩,
  ⟨none, .mov 1 (.t 8)⟩])
 (.seq (.seq (.reg [⟨none, .mov 9 (.t 1)⟩,
   ⟨none, .bin 10 .lss (.t 9) (.k (.int .i64 0))⟩])
  (.cond (.t 10)
  (.seq (.reg [⟨none, .mov 4 (.k (.int .i64 (-1)))⟩])
   (.ret))
  (.skip)))
 (.seq (.reg [⟨none, .mov 11 (.t 1)⟩,
  ⟨none, .mov 4 (.t 11)⟩])
 (.ret))))⟩
/-- laws.toHandMsg -/
def r83 : RF :=
 ⟨1, [.cell 2 10 true],
 .seq (.reg [⟨none, .locb 1 (.t 0)⟩,
  ⟨none, .loc 2 [.int .i64 0, .int .u64 0, .int .i64 0, .int .i64 0, .int .u64 0, .int .u64 0, .int .i64 0, .int .i64 0, .nil, .nil]⟩])
 (.seq (.reg [⟨none, .loc 3 [.int .i64 0, .int .u64 0, .int .i64 0, .int .i64 0, .int .u64 0, .int .u64 0, .int .i64 0, .int .i64 0, .nil, .nil]⟩])
 (.seq (.reg [⟨none, .fad 4 1 0⟩,
  ⟨none, .load 5 4 1 false⟩,
  ⟨none, .fad 6 3 0⟩,
  ⟨none, .store 6 1 (.t 5)⟩])
 (.seq (.reg [⟨none, .fad 7 1 1⟩,
  ⟨none, .load 8 7 1 false⟩,
  ⟨none, .fad 9 3 1⟩,
  ⟨none, .store 9 1 (.t 8)⟩])
 (.seq (.reg [⟨none, .fad 10 1 2⟩,
  ⟨none, .load 11 10 1 false⟩,
  ⟨none, .fad 12 3 2⟩,
  ⟨none, .store 12 1 (.t 11)⟩])
 (.seq (.reg [⟨none, .fad 13 1 3⟩,
  ⟨none, .load 14 13 1 false⟩,
  ⟨none, .fad 15 3 3⟩,
  ⟨none, .store 15 1 (.t 14)⟩])
 (.seq (.reg [⟨none, .fad 16 1 4⟩,
  ⟨none, .load 17 16 6 true⟩,
  ⟨none, .call (some 18) 112 [(.t 17)] false⟩,
  ⟨none, .fad 19 3 4⟩,
  ⟨none, .store 19 6 (.t 18)⟩])
 (.seq (.reg [⟨none, .load 20 3 10 true⟩,
  ⟨none, .store 2 10 (.t 20)⟩])
 (.ret))))))))⟩
/-- laws.eqHandMsg -/
def r87 : RF :=
 ⟨2, [.tmp 4],
 .seq (.reg [⟨none, .locb 2 (.t 0)⟩,
  ⟨none, .locb 3 (.t 1)⟩,
  ⟨none, .mov 4 (.k (.bool false))⟩])
 (.seq (.seq (.reg [⟨none, .fad 5 2 0⟩,
   ⟨none, .load 6 5 1 false⟩,
   ⟨none, .fad 7 3 0⟩,
   ⟨none, .load 8 7 1 false⟩,
   ⟨none, .bin 9 .neq (.t 6) (.t 8)⟩])
  (.cond (.t 9)
  (.seq (.reg [⟨none, .mov 4 (.k (.bool false))⟩])
   (.ret))
  (.skip)))
 (.seq (.seq (.reg [⟨none, .fad 10 2 1⟩,
   ⟨none, .load 11 10 1 false⟩,
   ⟨none, .fad 12 3 1⟩,
   ⟨none, .load 13 12 1 false⟩,
   ⟨none, .bin 14 .neq (.t 11) (.t 13)⟩])
  (.cond (.t 14)
  (.seq (.reg [⟨none, .mov 4 (.k (.bool false))⟩])
   (.ret))
  (.skip)))
 (.seq (.seq (.reg [⟨none, .fad 15 2 2⟩,
   ⟨none, .load 16 15 1 false⟩,
   ⟨none, .fad 17 3 2⟩,
   ⟨none, .load 18 17 1 false⟩,
   ⟨none, .bin 19 .neq (.t 16) (.t 18)⟩])
  (.cond (.t 19)
  (.seq (.reg [⟨none, .mov 4 (.k (.bool false))⟩])
   (.ret))
  (.skip)))
 (.seq (.seq (.reg [⟨none, .fad 20 2 3⟩,
   ⟨none, .load 21 20 1 false⟩,
   ⟨none, .fad 22 3 3⟩,
   ⟨none, .load 23 22 1 false⟩,
   ⟨none, .bin 24 .neq (.t 21) (.t 23)⟩])
  (.cond (.t 24)
  (.seq (.reg [⟨none, .mov 4 (.k (.bool false))⟩])
   (.ret))
  (.skip)))
 (.seq (.seq (.reg [⟨none, .fad 25 2 4⟩,
   ⟨none, .load 26 25 6 true⟩,
   ⟨none, .fad 27 3 4⟩,
   ⟨none, .load 28 27 6 true⟩,
   ⟨none, .call (some 29) 114 [(.t 26), (.t 28)] false⟩,
   ⟨none, .not 30 (.t 29)⟩])
  (.cond (.t 30)
  (.seq (.reg [⟨none, .mov 4 (.k (.bool false))⟩])
   (.ret))
  (.skip)))
 (.seq (.reg [⟨none, .mov 4 (.k (.bool true))⟩])
 (.ret)))))))⟩
/-- The functions of this text, with their numbers. -/
def tLHandMsg : List (Nat × RF) := [(82, r82), (83, r83), (87, r87)]
end Go.Proofs.Ytlbagejkjkfkjaa.A
/- The data of a HandMsg with its memory, and what its converters compute. -/
namespace Go.Proofs.Ytlbagejkjkfkjaa.A
open Go
set_option linter.unusedSimpArgs false
set_option linter.unusedVariables false
structure HandMsg where
  step : Int
  lo : Int
  to : Int
  epoch : Int
  shard : Shard
  deriving DecidableEq
def HandMsg.RL : Rel HandMsg := fun h cs t fp => ∃ x1 p1 x2 p2, cs = [.int .i64 t.step, .int .u64 t.lo, .int .i64 t.to, .int .i64 t.epoch, .int .u64 t.shard.lo, .int .u64 t.shard.hi, .int .i64 t.shard.state, .int .i64 t.shard.epoch, x1, x2] ∧ fp = p1 ++ p2 ∧ SlR 12 (Fl Account.enc) h x1 t.shard.book.list p1 ∧ SlR 10 (Fl Fin.enc) h x2 t.shard.finished p2
theorem HandMsg.okL : RelOk HandMsg.RL where
  lt := by
    rintro h cs t fp ⟨x1, p1, x2, p2, rfl, rfl, w1, w2⟩ id hid
    simp only [List.mem_append] at hid
    rcases hid with hid | hid
    · exact w1.lt (Fl.ok _) id hid
    · exact w2.lt (Fl.ok _) id hid
  mv := by
    rintro h h' cs t fp ⟨x1, p1, x2, p2, rfl, rfl, w1, w2⟩ hn hg
    exact ⟨x1, _, x2, _, rfl, rfl, w1.mv (Fl.ok _) hn fun id hid => hg id (by simp [hid]), w2.mv (Fl.ok _) hn fun id hid => hg id (by simp [hid])⟩
def HandMsg.RI : Rel HandMsg := fun h cs t fp => ∃ x1 p1 x2 p2, cs = [.int .i64 t.step, .int .u64 t.lo, .int .i64 t.to, .int .i64 t.epoch, .int .u64 t.shard.lo, .int .u64 t.shard.hi, .int .i64 t.shard.state, .int .i64 t.shard.epoch, x1, x2] ∧ fp = p1 ++ p2 ∧ SlR 11 (Fl Account.enc) h x1 t.shard.book.list p1 ∧ SlR 9 (Fl Fin.enc) h x2 t.shard.finished p2
theorem HandMsg.okI : RelOk HandMsg.RI where
  lt := by
    rintro h cs t fp ⟨x1, p1, x2, p2, rfl, rfl, w1, w2⟩ id hid
    simp only [List.mem_append] at hid
    rcases hid with hid | hid
    · exact w1.lt (Fl.ok _) id hid
    · exact w2.lt (Fl.ok _) id hid
  mv := by
    rintro h h' cs t fp ⟨x1, p1, x2, p2, rfl, rfl, w1, w2⟩ hn hg
    exact ⟨x1, _, x2, _, rfl, rfl, w1.mv (Fl.ok _) hn fun id hid => hg id (by simp [hid]), w2.mv (Fl.ok _) hn fun id hid => hg id (by simp [hid])⟩
theorem HandMsg.lenL {h : Heap} {cs : List Cell} {t : HandMsg} {fp : List Nat} (v : HandMsg.RL h cs t fp) : cs.length = 10 ∧ cs.take 10 = cs ∧ cs.drop 10 = [] := by
  obtain ⟨x1, p1, x2, p2, rfl, _⟩ := v
  exact ⟨rfl, rfl, rfl⟩
theorem HandMsg.lenI {h : Heap} {cs : List Cell} {t : HandMsg} {fp : List Nat} (v : HandMsg.RI h cs t fp) : cs.length = 10 ∧ cs.take 10 = cs ∧ cs.drop 10 = [] := by
  obtain ⟨x1, p1, x2, p2, rfl, _⟩ := v
  exact ⟨rfl, rfl, rfl⟩
namespace HandMsg
/-- The numbers are those of the machine. -/
structure Ok (t : HandMsg) : Prop where
  step : -9223372036854775808 ≤ t.step ∧ t.step ≤ 9223372036854775807
  lo : 0 ≤ t.lo ∧ t.lo ≤ 18446744073709551615
  to : -9223372036854775808 ≤ t.to ∧ t.to ≤ 9223372036854775807
  epoch : -9223372036854775808 ≤ t.epoch ∧ t.epoch ≤ 9223372036854775807
  shard : t.shard.Ok
def Small (t : HandMsg) : Prop := t.shard.Small
def wt (t : HandMsg) : Int := t.shard.wt
def marked (t : HandMsg) (k : Int) : HandMsg := { t with shard := t.shard.marked (k) }
theorem wt_nn (t : HandMsg) : 0 ≤ t.wt := by
  have := t.shard.wt_nn
  simp only [wt]; omega
theorem wt_le {t : HandMsg} (sm : t.Small) : t.wt ≤ 7340032 := by
  unfold Small at sm
  have := Shard.wt_le sm
  simp only [wt]; omega
end HandMsg
theorem Wf.isHandMsg {h : Heap} {n : Nat} {cs : List Cell} (w : Wf h (n + 6) shHandMsg cs) : ∃ t fp, HandMsg.RL h cs t fp ∧ t.Ok := by
  obtain ⟨_, _, rfl, _, ⟨i1, rfl, j1⟩, _, _, rfl, _, ⟨i2, rfl, j2⟩, _, _, rfl, _, ⟨i3, rfl, j3⟩, _, _, rfl, _, ⟨i4, rfl, j4⟩, _, _, rfl, _, ⟨_, _, rfl, _, ⟨i5, rfl, j5⟩, _, _, rfl, _, ⟨i6, rfl, j6⟩, _, _, rfl, _, ⟨i7, rfl, j7⟩, _, _, rfl, _, ⟨i8, rfl, j8⟩, _, _, rfl, _, ⟨_, _, rfl, _, m9, rfl⟩, _, _, rfl, _, m10, rfl⟩, rfl⟩ := w
  obtain ⟨x1, l1, p1, rfl, w1, o1⟩ := Wf.isAccountS' m9
  obtain ⟨x2, l2, p2, rfl, w2, o2⟩ := Wf.isFinS' m10
  exact ⟨⟨i1, i2, i3, i4, ⟨i5, i6, i7, i8, ⟨l1⟩, l2⟩⟩, _, ⟨x1, _, x2, _, rfl, rfl, w1, w2⟩, ⟨wfI j1, wfU j2, wfI j3, wfI j4, ⟨wfU j5, wfU j6, wfI j7, wfI j8, ⟨o1⟩, o2⟩⟩⟩
section
variable {F : Nat → Option RF} {Z : CallF} {h : Heap} {cs cs' : List Cell} {t u : HandMsg} {fp fq : List Nat}
theorem szHandMsg_c (hLHandMsg : Has F tLHandMsg) (hLShard : Has F tLShard) (hLBook : Has F tLBook) (hLAccount : Has F tLAccount) (hLFin : Has F tLFin) (v : HandMsg.RL h cs t fp) (left : Int) (h1 : 0 ≤ left) (h2 : left ≤ 1048576) : ∃ r, call F Z 82 [.agg cs, .c (.int .i64 left)] h = some (.c (.int .i64 r), h) ∧ r ≤ left ∧ (0 ≤ r → t.Small) := by
  obtain ⟨x1, p1, x2, p2, rfl, rfl, w1, w2⟩ := v
  rw [call_run F Z (hLHandMsg.lk (g := 82) rfl) _ _ rfl]
  simp only [run0, run1, run2, run3, run4, noSlot, memN, RO.dst, lk, drop, forget, number, Nat.reduceBEq, cut?, splice?, builds, List.length_cons, List.length_nil, List.drop_succ_cons, List.drop_zero, List.take_succ_cons, List.take_zero, List.cons_append, List.nil_append, List.append_nil, List.drop_nil, List.take_nil, Nat.reduceAdd, Nat.reduceLeDiff, Nat.zero_add, Nat.add_zero, ↓reduceIte, Bool.not_true, Bool.not_false, decide_true, decide_false, eq_self, bne_self_eq_false, List.getElem?_cons_zero, List.getElem?_cons_succ, decide_eq_true_eq, Bool.false_eq_true, Bool.true_eq_false, reduceCtorEq, Nat.le_refl]
  obtain ⟨l0, s0, a0, b0⟩ := szShard_c (Z := Z) hLShard hLBook hLAccount hLFin (⟨x1, _, x2, _, rfl, rfl, w1, w2⟩ : Shard.RL _ _ _ _) left (by omega) (by omega)
  simp only [run0, run1, run2, run3, run4, noSlot, memN, RO.dst, lk, drop, forget, number, Nat.reduceBEq, cut?, splice?, builds, List.length_cons, List.length_nil, List.drop_succ_cons, List.drop_zero, List.take_succ_cons, List.take_zero, List.cons_append, List.nil_append, List.append_nil, List.drop_nil, List.take_nil, Nat.reduceAdd, Nat.reduceLeDiff, Nat.zero_add, Nat.add_zero, ↓reduceIte, Bool.not_true, Bool.not_false, decide_true, decide_false, eq_self, bne_self_eq_false, List.getElem?_cons_zero, List.getElem?_cons_succ, decide_eq_true_eq, Bool.false_eq_true, Bool.true_eq_false, reduceCtorEq, Nat.le_refl, s0]
  by_cases n0 : l0 < 0
  · simp only [run0, run1, run2, run3, run4, noSlot, memN, RO.dst, lk, drop, forget, number, Nat.reduceBEq, cut?, splice?, builds, List.length_cons, List.length_nil, List.drop_succ_cons, List.drop_zero, List.take_succ_cons, List.take_zero, List.cons_append, List.nil_append, List.append_nil, List.drop_nil, List.take_nil, Nat.reduceAdd, Nat.reduceLeDiff, Nat.zero_add, Nat.add_zero, ↓reduceIte, Bool.not_true, Bool.not_false, decide_true, decide_false, eq_self, bne_self_eq_false, List.getElem?_cons_zero, List.getElem?_cons_succ, decide_eq_true_eq, Bool.false_eq_true, Bool.true_eq_false, reduceCtorEq, Nat.le_refl, n0]
    exact ⟨_, rfl, by omega, by omega⟩
  simp only [run0, run1, run2, run3, run4, noSlot, memN, RO.dst, lk, drop, forget, number, Nat.reduceBEq, cut?, splice?, builds, List.length_cons, List.length_nil, List.drop_succ_cons, List.drop_zero, List.take_succ_cons, List.take_zero, List.cons_append, List.nil_append, List.append_nil, List.drop_nil, List.take_nil, Nat.reduceAdd, Nat.reduceLeDiff, Nat.zero_add, Nat.add_zero, ↓reduceIte, Bool.not_true, Bool.not_false, decide_true, decide_false, eq_self, bne_self_eq_false, List.getElem?_cons_zero, List.getElem?_cons_succ, decide_eq_true_eq, Bool.false_eq_true, Bool.true_eq_false, reduceCtorEq, Nat.le_refl, n0]
  exact ⟨_, rfl, by omega, fun _ => b0 (by omega)⟩
theorem toHandMsg_c (hLHandMsg : Has F tLHandMsg) (hLShard : Has F tLShard) (hLBook : Has F tLBook) (hLAccount : Has F tLAccount) (hLFin : Has F tLFin) (hf : h.floor ≤ h.next) (v : HandMsg.RL h cs t fp) (sm : t.Small) : ∃ cs' h' fq, call F Z 83 [.agg cs] h = some (.agg cs', h') ∧ On h h' ∧ HandMsg.RI h' cs' t fq ∧ Fre h fq := by
  obtain ⟨x1, p1, x2, p2, rfl, rfl, w1, w2⟩ := v
  have sm0 := sm
  obtain ⟨_, g0, _, e0, o0, ⟨y1, q1, y2, q2, rfl, rfl, u1, u2⟩, r0⟩ := toShard_c (Z := Z) hLShard hLBook hLAccount hLFin hf (⟨x1, _, x2, _, rfl, rfl, w1, w2⟩ : Shard.RL _ _ _ _) sm0
  rw [call_run F Z (hLHandMsg.lk (g := 83) rfl) _ _ rfl]
  simp only [run0, run1, run2, run3, run4, noSlot, memN, RO.dst, lk, drop, forget, number, Nat.reduceBEq, cut?, splice?, builds, List.length_cons, List.length_nil, List.drop_succ_cons, List.drop_zero, List.take_succ_cons, List.take_zero, List.cons_append, List.nil_append, List.append_nil, List.drop_nil, List.take_nil, Nat.reduceAdd, Nat.reduceLeDiff, Nat.zero_add, Nat.add_zero, ↓reduceIte, Bool.not_true, Bool.not_false, decide_true, decide_false, eq_self, bne_self_eq_false, List.getElem?_cons_zero, List.getElem?_cons_succ, decide_eq_true_eq, Bool.false_eq_true, Bool.true_eq_false, reduceCtorEq, Nat.le_refl, e0]
  exact ⟨_, _, _, rfl, o0, ⟨y1, _, y2, _, rfl, rfl, u1, u2⟩, r0⟩
set_option maxHeartbeats 1000000 in
theorem eqHandMsg_r (hLHandMsg : Has F tLHandMsg) (hLShard : Has F tLShard) (hLBook : Has F tLBook) (hLAccount : Has F tLAccount) (hLFin : Has F tLFin) (v : HandMsg.RI h cs t fp) (v' : HandMsg.RI h cs' u fq) : call F Z 87 [.agg cs, .agg cs'] h = some (.c (.bool (decide (t = u))), h) := by
  obtain ⟨x1, p1, x2, p2, rfl, rfl, w1, w2⟩ := v
  obtain ⟨x1', p1', x2', p2', rfl, rfl, w1', w2'⟩ := v'
  obtain ⟨step1, lo1, to1, epoch1, shard1⟩ := t
  obtain ⟨step2, lo2, to2, epoch2, shard2⟩ := u
  have e0 := eqShard_r (Z := Z) hLShard hLBook hLAccount hLFin (⟨x1, _, x2, _, rfl, rfl, w1, w2⟩ : Shard.RI h _ shard1 _) (⟨x1', _, x2', _, rfl, rfl, w1', w2'⟩ : Shard.RI h _ shard2 _)
  clear w1 w1' w2 w2'
  rw [call_run F Z (hLHandMsg.lk (g := 87) rfl) _ _ rfl]
  simp only [run0, run1, run2, run3, run4, noSlot, memN, RO.dst, lk, drop, forget, number, Nat.reduceBEq, cut?, splice?, builds, List.length_cons, List.length_nil, List.drop_succ_cons, List.drop_zero, List.take_succ_cons, List.take_zero, List.cons_append, List.nil_append, List.append_nil, List.drop_nil, List.take_nil, Nat.reduceAdd, Nat.reduceLeDiff, Nat.zero_add, Nat.add_zero, ↓reduceIte, Bool.not_true, Bool.not_false, decide_true, decide_false, eq_self, bne_self_eq_false, List.getElem?_cons_zero, List.getElem?_cons_succ, decide_eq_true_eq, Bool.false_eq_true, Bool.true_eq_false, reduceCtorEq, Nat.le_refl, e0]
  (repeat' ((first | (rw [gF_if]; split) | (rw [condC_if]; split) | (rw [pickR_if]; split)) <;> (rename_i hh; (try simp only [Bool.not_eq_true, decide_eq_true_eq] at hh); simp only [hh, run0, run1, run2, run3, run4, noSlot, memN, RO.dst, lk, drop, forget, number, Nat.reduceBEq, cut?, splice?, builds, List.length_cons, List.length_nil, List.drop_succ_cons, List.drop_zero, List.take_succ_cons, List.take_zero, List.cons_append, List.nil_append, List.append_nil, List.drop_nil, List.take_nil, Nat.reduceAdd, Nat.reduceLeDiff, Nat.zero_add, Nat.add_zero, ↓reduceIte, Bool.not_true, Bool.not_false, decide_true, decide_false, eq_self, bne_self_eq_false, List.getElem?_cons_zero, List.getElem?_cons_succ, decide_eq_true_eq, Bool.false_eq_true, Bool.true_eq_false, reduceCtorEq, Nat.le_refl, e0]))) <;> clear e0 <;> refine fin_bool ?_ <;> simp_all <;> (try (intros; omega))
end
end Go.Proofs.Ytlbagejkjkfkjaa.A
/- The compact code of some functions: impl.HandOk, impl.isHand, impl.HandDone, impl.handDone, impl.handEpoch, impl.HandHas, impl.LiveTotal, impl.areStores, impl.LiveTotal$1, impl.areStores$1. -/
namespace Go.Proofs.Ytlbagejkjkfkjaa.A
open Go
/-- impl.HandOk -/
def r4 : RF :=
 ⟨1, [.tmp 2],
 .seq (.reg [⟨none, .locb 1 (.t 0)⟩,
  ⟨none, .mov 2 (.k (.bool false))⟩])
 (.seq (.reg [⟨none, .load 3 1 5 true⟩,
  ⟨none, .call (some 4) 6 [(.t 3)] false⟩,
  ⟨none, .mov 2 (.t 4)⟩])
 (.ret))⟩
/-- impl.isHand -/
def r6 : RF :=
 ⟨1, [.tmp 2],
 .seq (.reg [⟨none, .locb 1 (.t 0)⟩,
  ⟨none, .mov 2 (.k (.bool false))⟩])
 (.seq (.reg [⟨none, .fad 3 1 1⟩,
  ⟨none, .load 4 3 1 false⟩,
  ⟨none, .call (some 5) 7 [(.t 4)] false⟩,
  ⟨none, .mov 6 (.t 5)⟩,
  ⟨some (6, true), .fad 7 1 2⟩,
  ⟨some (6, true), .load 8 7 1 false⟩,
  ⟨some (6, true), .call (some 9) 7 [(.t 8)] false⟩,
  ⟨none, .pick 10 (.t 6) (.t 9) (.k (.bool false))⟩,
  ⟨none, .mov 11 (.t 10)⟩,
  ⟨some (11, true), .fad 12 1 1⟩,
  ⟨some (11, true), .load 13 12 1 false⟩,
  ⟨some (11, true), .fad 14 1 2⟩,
  ⟨some (11, true), .load 15 14 1 false⟩,
  ⟨some (11, true), .bin 16 .neq (.t 13) (.t 15)⟩,
  ⟨none, .pick 17 (.t 11) (.t 16) (.k (.bool false))⟩,
  ⟨none, .mov 18 (.t 17)⟩,
  ⟨some (18, true), .fad 19 1 3⟩,
  ⟨some (18, true), .load 20 19 1 false⟩,
  ⟨some (18, true), .bin 21 .geq (.t 20) (.k (.int .i64 1))⟩,
  ⟨none, .pick 22 (.t 18) (.t 21) (.k (.bool false))⟩,
  ⟨none, .mov 23 (.t 22)⟩,
  ⟨some (23, true), .fad 24 1 3⟩,
  ⟨some (23, true), .load 25 24 1 false⟩,
  ⟨some (23, true), .bin 26 .lss (.t 25) (.k (.int .i64 1000000))⟩,
  ⟨none, .pick 27 (.t 23) (.t 26) (.k (.bool false))⟩,
  ⟨none, .mov 28 (.t 27)⟩,
  ⟨some (28, true), .fad 29 1 4⟩,
  ⟨some (28, true), .load 30 29 1 false⟩,
  ⟨some (28, true), .bin 31 .geq (.t 30) (.k (.int .i64 0))⟩,
  ⟨none, .pick 32 (.t 28) (.t 31) (.k (.bool false))⟩,
  ⟨none, .mov 33 (.t 32)⟩,
  ⟨some (33, true), .fad 34 1 4⟩,
  ⟨some (33, true), .load 35 34 1 false⟩,
  ⟨some (33, true), .bin 36 .leq (.t 35) (.k (.int .i64 3))⟩,
  ⟨none, .pick 37 (.t 33) (.t 36) (.k (.bool false))⟩,
  ⟨none, .mov 2 (.t 37)⟩])
 (.ret))⟩
/-- impl.HandDone -/
def r85 : RF :=
 ⟨2, [.cell 4 5 true, .tmp 5],
 .seq (.reg [⟨none, .locb 2 (.t 0)⟩,
  ⟨none, .locb 3 (.t 1)⟩,
  ⟨none, .loc 4 [.int .u64 0, .int .i64 0, .int .i64 0, .int .i64 0, .int .i64 0]⟩,
  ⟨none, .mov 5 (.k (.bool false))⟩])
 (.seq (.reg [⟨none, .load 6 2 5 true⟩,
  ⟨none, .load 7 3 10 true⟩,
  ⟨none, .call (some 8) 113 [(.t 6), (.t 7)] false⟩,
  ⟨none, .ext 9 (.t 8) 0⟩,
  ⟨none, .ext 10 (.t 8) 1⟩,
  ⟨none, .store 4 5 (.t 9)⟩,
  ⟨none, .mov 5 (.t 10)⟩])
 (.ret))⟩
/-- impl.handDone -/
def r113 : RF :=
 ⟨2, [.cell 4 5 true, .tmp 5],
 .seq (.reg [⟨none, .locb 2 (.t 0)⟩,
  ⟨none, .locb 3 (.t 1)⟩,
  ⟨none, .loc 4 [.int .u64 0, .int .i64 0, .int .i64 0, .int .i64 0, .int .i64 0]⟩,
  ⟨none, .mov 5 (.k (.bool false))⟩])
 (.seq (.seq (.reg [⟨none, .chk []⟩,
   ⟨none, .load 6 2 5 true⟩,
   ⟨none, .call (some 7) 6 [(.t 6)] true⟩,
   ⟨none, .not 8 (.t 7)⟩,
   ⟨none, .mov 9 (.t 8)⟩,
   ⟨some (9, false), .fad 10 2 4⟩,
   ⟨some (9, false), .load 11 10 1 false⟩,
   ⟨some (9, false), .bin 12 .eql (.t 11) (.k (.int .i64 3))⟩,
   ⟨none, .pick 13 (.t 9) (.k (.bool true)) (.t 12)⟩,
   ⟨none, .mov 14 (.t 13)⟩,
   ⟨some (14, false), .fad 15 3 0⟩,
   ⟨some (14, false), .load 16 15 1 false⟩,
   ⟨some (14, false), .fad 17 2 4⟩,
   ⟨some (14, false), .load 18 17 1 false⟩,
   ⟨some (14, false), .bin 19 .neq (.t 16) (.t 18)⟩,
   ⟨none, .pick 20 (.t 14) (.k (.bool true)) (.t 19)⟩,
   ⟨none, .mov 21 (.t 20)⟩,
   ⟨some (21, false), .fad 22 3 1⟩,
   ⟨some (21, false), .load 23 22 1 false⟩,
   ⟨some (21, false), .fad 24 2 0⟩,
   ⟨some (21, false), .load 25 24 1 false⟩,
   ⟨some (21, false), .bin 26 .neq (.t 23) (.t 25)⟩,
   ⟨none, .pick 27 (.t 21) (.k (.bool true)) (.t 26)⟩,
   ⟨none, .mov 28 (.t 27)⟩,
   ⟨some (28, false), .fad 29 3 3⟩,
   ⟨some (28, false), .load 30 29 1 false⟩,
   ⟨some (28, false), .load 31 2 5 true⟩,
   ⟨some (28, false), .call (some 32) 132 [(.t 31)] true⟩,
   ⟨some (28, false), .bin 33 .neq (.t 30) (.t 32)⟩,
   ⟨none, .pick 34 (.t 28) (.k (.bool true)) (.t 33)⟩])
  (.cond (.t 34)
  (.seq (.reg [⟨none, .load 35 2 5 true⟩,
    ⟨none, .store 4 5 (.t 35)⟩,
    ⟨none, .mov 5 (.k (.bool false))⟩])
   (.ret))
  (.skip)))
 (.seq (.reg [⟨none, .fad 36 2 4⟩,
  ⟨none, .load 37 36 1 false⟩,
  ⟨none, .bin 38 .add (.t 37) (.k (.int .i64 1))⟩,
  ⟨none, .fad 39 2 4⟩,
  ⟨none, .store 39 1 (.t 38)⟩])
 (.seq (.reg [⟨none, .load 40 2 5 true⟩,
  ⟨none, .store 4 5 (.t 40)⟩,
  ⟨none, .mov 5 (.k (.bool true))⟩])
 (.ret))))⟩
/-- impl.handEpoch -/
def r132 : RF :=
 ⟨1, [.tmp 2],
 .seq (.reg [⟨none, .locb 1 (.t 0)⟩,
  ⟨none, .mov 2 (.k (.int .i64 0))⟩])
 (.seq (.seq (.reg [⟨none, .fad 3 1 4⟩,
   ⟨none, .load 4 3 1 false⟩,
   ⟨none, .bin 5 .eql (.t 4) (.k (.int .i64 1))⟩])
  (.cond (.t 5)
  (.seq (.reg [⟨none, .fad 6 1 3⟩,
    ⟨none, .load 7 6 1 false⟩,
    ⟨none, .bin 8 .add (.t 7) (.k (.int .i64 1))⟩,
    ⟨none, .mov 2 (.t 8)⟩])
   (.ret))
  (.skip)))
 (.seq (.reg [⟨none, .fad 9 1 3⟩,
  ⟨none, .load 10 9 1 false⟩,
  ⟨none, .mov 2 (.t 10)⟩])
 (.ret)))⟩
/-- impl.HandHas -/
def r167 : RF :=
 ⟨2, [.tmp 4],
 .seq (.reg [⟨none, .locb 2 (.t 0)⟩,
  ⟨none, .locb 3 (.t 1)⟩,
  ⟨none, .mov 4 (.k (.bool false))⟩])
 (.seq (.seq (.reg [⟨none, .load 7 2 3 true⟩,
   ⟨none, .call (some 8) 206 [(.t 7)] false⟩,
   ⟨none, .not 9 (.t 8)⟩,
   ⟨none, .mov 10 (.t 9)⟩,
   ⟨some (10, false), .fad 11 3 2⟩,
   ⟨some (10, false), .load 12 11 1 false⟩,
   ⟨some (10, false), .fad 13 2 0⟩,
   ⟨some (10, false), .load 14 13 1 false⟩,
   ⟨some (10, false), .bin 15 .neq (.t 12) (.t 14)⟩,
   ⟨none, .pick 16 (.t 10) (.k (.bool true)) (.t 15)⟩])
  (.cond (.t 16)
  (.seq (.reg [⟨none, .mov 4 (.k (.bool false))⟩])
   (.ret))
  (.skip)))
 (.seq (.reg [⟨none, .mov 5 (.k (.int .i64 1))⟩])
 (.seq (.seq (.reg [⟨none, .fad 17 3 0⟩,
   ⟨none, .load 18 17 1 false⟩])
  (.block 0 (.seq (.reg [⟨none, .bin 20 .eql (.t 18) (.k (.int .i64 1))⟩,
    ⟨none, .mov 19 (.t 20)⟩])
   (.cond (.t 19)
   (.reg [⟨none, .mov 5 (.k (.int .i64 0))⟩])
   (.seq (.reg [⟨none, .bin 22 .eql (.t 18) (.k (.int .i64 2))⟩,
     ⟨none, .mov 21 (.t 22)⟩])
    (.cond (.t 21)
    (.seq (.reg [⟨none, .load 23 2 3 true⟩,
      ⟨none, .fad 24 3 1⟩,
      ⟨none, .load 25 24 1 false⟩,
      ⟨none, .call (some 26) 212 [(.t 23), (.t 25)] false⟩,
      ⟨none, .bin 27 .lss (.t 26) (.k (.int .i64 0))⟩,
      ⟨none, .mov 28 (.t 27)⟩,
      ⟨some (28, true), .fad 29 2 1⟩,
      ⟨some (28, true), .load 30 29 1 false⟩,
      ⟨some (28, true), .fad 31 3 3⟩,
      ⟨some (28, true), .load 32 31 1 false⟩,
      ⟨some (28, true), .bin 33 .geq (.t 30) (.t 32)⟩,
      ⟨none, .pick 34 (.t 28) (.t 33) (.k (.bool false))⟩,
      ⟨none, .mov 4 (.t 34)⟩])
     (.ret))
    (.seq (.reg [⟨none, .bin 36 .eql (.t 18) (.k (.int .i64 0))⟩,
      ⟨none, .mov 35 (.t 36)⟩])
     (.cond (.t 35)
     (.skip)
     (.seq (.reg [⟨none, .mov 4 (.k (.bool false))⟩])
      (.ret))))))))))
 (.seq (.reg [⟨none, .load 37 2 3 true⟩,
  ⟨none, .fad 38 3 1⟩,
  ⟨none, .load 39 38 1 false⟩,
  ⟨none, .mov 40 (.t 5)⟩,
  ⟨none, .call (some 41) 213 [(.t 37), (.t 39), (.t 40)] false⟩,
  ⟨none, .mov 6 (.t 41)⟩])
 (.seq (.reg [⟨none, .chk []⟩,
  ⟨none, .mov 42 (.t 6)⟩,
  ⟨none, .bin 43 .geq (.t 42) (.k (.int .i64 0))⟩,
  ⟨none, .mov 44 (.t 43)⟩,
  ⟨some (44, true), .mov 47 (.t 6)⟩,
  ⟨some (44, true), .fad 45 2 2⟩,
  ⟨some (44, true), .load 46 45 1 false⟩,
  ⟨some (44, true), .idx 48 16 (.t 46) (.t 47)⟩,
  ⟨some (44, true), .fad 49 48 3⟩,
  ⟨some (44, true), .load 50 49 1 false⟩,
  ⟨some (44, true), .fad 51 3 3⟩,
  ⟨some (44, true), .load 52 51 1 false⟩,
  ⟨some (44, true), .bin 53 .eql (.t 50) (.t 52)⟩,
  ⟨none, .pick 54 (.t 44) (.t 53) (.k (.bool false))⟩,
  ⟨none, .mov 4 (.t 54)⟩])
 (.ret))))))⟩
/-- A loop of impl.LiveTotal. -/
def r172L0 : RC :=
 .seq (.reg [⟨none, .bin 33 .lss (.t 32) (.t 31)⟩])
    (.seq (.cond (.t 33)
     (.skip)
     (.exit 2))
    (.seq (.block 3 (.seq (.reg [⟨none, .idx 34 16 (.t 30) (.t 32)⟩,
       ⟨none, .load 35 34 6 true⟩,
       ⟨none, .new 10 [.int .u64 0, .int .u64 0, .int .i64 0, .int .i64 0, .nil, .nil]⟩,
       ⟨none, .store 10 6 (.t 35)⟩])
      (.seq (.seq (.reg [⟨none, .mov 36 (.t 4)⟩,
        ⟨none, .mkf 37 217 [10]⟩,
        ⟨none, .call (some 38) 218 [(.t 36), (.t 37)] false⟩])
       (.cond (.t 38)
       (.exit 3)
       (.skip)))
      (.seq (.reg [⟨none, .fad 40 10 4⟩,
       ⟨none, .load 41 40 1 true⟩,
       ⟨none, .call (some 42) 209 [(.t 41)] false⟩,
       ⟨none, .mov 39 (.t 42)⟩,
       ⟨none, .ext 43 (.t 39) 0⟩,
       ⟨none, .ext 44 (.t 39) 1⟩,
       ⟨none, .mov 11 (.t 43)⟩,
       ⟨none, .mov 12 (.t 44)⟩])
      (.seq (.reg [⟨none, .mov 46 (.t 8)⟩,
       ⟨none, .mov 47 (.t 12)⟩,
       ⟨none, .add 48 (.t 46) (.t 47) (.k (.int .u64 0))⟩,
       ⟨none, .mov 45 (.t 48)⟩,
       ⟨none, .ext 49 (.t 45) 0⟩,
       ⟨none, .ext 50 (.t 45) 1⟩,
       ⟨none, .mov 13 (.t 49)⟩,
       ⟨none, .mov 14 (.t 50)⟩])
      (.seq (.reg [⟨none, .mov 51 (.t 13)⟩,
       ⟨none, .mov 8 (.t 51)⟩])
      (.reg [⟨none, .mov 52 (.t 7)⟩,
      ⟨none, .mov 53 (.t 11)⟩,
      ⟨none, .mov 54 (.t 14)⟩,
      ⟨none, .bin 55 .add (.t 53) (.t 54)⟩,
      ⟨none, .bin 56 .add (.t 52) (.t 55)⟩,
      ⟨none, .mov 7 (.t 56)⟩])))))))
    (.reg [⟨none, .bin 57 .add (.t 32) (.k (.int .i64 1))⟩,
    ⟨none, .mov 32 (.t 57)⟩])))
/-- A loop of impl.LiveTotal. -/
def r172L1 : RC :=
 .seq (.reg [⟨none, .bin 22 .lss (.t 21) (.t 20)⟩])
    (.seq (.cond (.t 22)
     (.skip)
     (.exit 0))
    (.seq (.block 1 (.seq (.reg [⟨none, .idx 23 18 (.t 19) (.t 21)⟩,
       ⟨none, .load 24 23 3 true⟩,
       ⟨none, .loc 6 [.int .i64 0, .int .i64 0, .nil]⟩,
       ⟨none, .store 6 3 (.t 24)⟩])
      (.reg [⟨none, .mov 25 (.t 4)⟩,
      ⟨none, .fad 26 6 2⟩,
      ⟨none, .load 27 26 1 false⟩,
      ⟨none, .app 28 16 80 (.t 25) (.t 27)⟩,
      ⟨none, .mov 4 (.t 28)⟩])))
    (.reg [⟨none, .bin 29 .add (.t 21) (.k (.int .i64 1))⟩,
    ⟨none, .mov 21 (.t 29)⟩])))
/-- impl.LiveTotal -/
def r172 : RF :=
 ⟨1, [.tmp 2, .tmp 3],
 .seq (.reg [⟨none, .mov 2 (.k (.int .u64 0))⟩,
  ⟨none, .mov 3 (.k (.int .u64 0))⟩])
 (.seq (.seq (.reg [⟨none, .mov 15 (.t 0)⟩,
   ⟨none, .call (some 16) 216 [(.t 15)] false⟩,
   ⟨none, .not 17 (.t 16)⟩])
  (.cond (.t 17)
  (.seq (.reg [⟨none, .mov 2 (.k (.int .u64 0))⟩,
    ⟨none, .mov 3 (.k (.int .u64 0))⟩])
   (.ret))
  (.skip)))
 (.seq (.reg [⟨none, .lit 18 16 0 [.int .u64 0, .int .u64 0, .int .i64 0, .int .i64 0, .nil, .nil] []⟩,
  ⟨none, .mov 4 (.t 18)⟩])
 (.seq (.seq (.reg [⟨none, .mov 19 (.t 0)⟩,
   ⟨none, .len 20 (.t 19)⟩,
   ⟨none, .mov 21 (.k (.int .i64 0))⟩])
  (.block 0 (.loop [4, 19, 20, 21]
   r172L1)))
 (.seq (.reg [⟨none, .mov 7 (.k (.int .u64 0))⟩,
  ⟨none, .mov 8 (.k (.int .u64 0))⟩])
 (.seq (.seq (.reg [⟨none, .mov 30 (.t 4)⟩,
   ⟨none, .len 31 (.t 30)⟩,
   ⟨none, .mov 32 (.k (.int .i64 0))⟩])
  (.block 2 (.loop [4, 7, 8, 30, 31, 32]
   r172L0)))
 (.seq (.reg [⟨none, .mov 58 (.t 7)⟩,
  ⟨none, .mov 59 (.t 8)⟩,
  ⟨none, .mov 2 (.t 58)⟩,
  ⟨none, .mov 3 (.t 59)⟩])
 (.ret)))))))⟩
/-- impl.areStores -/
def r216 : RF :=
 ⟨1, [.tmp 2],
 .seq (.reg [⟨none, .mov 2 (.k (.bool false))⟩])
 (.seq (.reg [⟨none, .mov 3 (.t 0)⟩,
  ⟨none, .len 4 (.t 3)⟩,
  ⟨none, .bin 5 .leq (.t 4) (.k (.int .i64 40))⟩,
  ⟨none, .mov 6 (.t 5)⟩,
  ⟨some (6, true), .mov 7 (.t 0)⟩,
  ⟨some (6, true), .call (some 8) 251 [(.t 7), (.k (.fn 250 []))] false⟩,
  ⟨some (6, true), .not 9 (.t 8)⟩,
  ⟨none, .pick 10 (.t 6) (.t 9) (.k (.bool false))⟩,
  ⟨none, .mov 2 (.t 10)⟩])
 (.ret))⟩
/-- impl.LiveTotal$1 -/
def r217 : RF :=
 ⟨2, [.tmp 3],
 .seq (.reg [⟨none, .locb 2 (.t 0)⟩,
  ⟨none, .mov 3 (.k (.bool false))⟩])
 (.seq (.reg [⟨none, .fad 4 2 3⟩,
  ⟨none, .load 5 4 1 false⟩,
  ⟨none, .fad 6 1 3⟩,
  ⟨none, .load 7 6 1 false⟩,
  ⟨none, .bin 8 .gtr (.t 5) (.t 7)⟩,
  ⟨none, .mov 9 (.t 8)⟩,
  ⟨some (9, true), .fad 10 2 0⟩,
  ⟨some (9, true), .load 11 10 1 false⟩,
  ⟨some (9, true), .fad 12 1 1⟩,
  ⟨some (9, true), .load 13 12 1 false⟩,
  ⟨some (9, true), .bin 14 .leq (.t 11) (.t 13)⟩,
  ⟨none, .pick 15 (.t 9) (.t 14) (.k (.bool false))⟩,
  ⟨none, .mov 16 (.t 15)⟩,
  ⟨some (16, true), .fad 17 1 0⟩,
  ⟨some (16, true), .load 18 17 1 false⟩,
  ⟨some (16, true), .fad 19 2 1⟩,
  ⟨some (16, true), .load 20 19 1 false⟩,
  ⟨some (16, true), .bin 21 .leq (.t 18) (.t 20)⟩,
  ⟨none, .pick 22 (.t 16) (.t 21) (.k (.bool false))⟩,
  ⟨none, .mov 3 (.t 22)⟩])
 (.ret))⟩
/-- impl.areStores$1 -/
def r250 : RF :=
 ⟨1, [.tmp 2],
 .seq (.reg [⟨none, .locb 1 (.t 0)⟩,
  ⟨none, .mov 2 (.k (.bool false))⟩])
 (.seq (.reg [⟨none, .load 3 1 3 true⟩,
  ⟨none, .call (some 4) 206 [(.t 3)] false⟩,
  ⟨none, .not 5 (.t 4)⟩,
  ⟨none, .mov 2 (.t 5)⟩])
 (.ret))⟩
/-- The functions of this text, with their numbers. -/
def tI15 : List (Nat × RF) := [(4, r4), (6, r6), (85, r85), (113, r113), (132, r132), (167, r167), (172, r172), (216, r216), (217, r217), (250, r250)]
end Go.Proofs.Ytlbagejkjkfkjaa.A
/- The compact code of some functions: spec.HandOk, spec.HandDone, spec.HandHas, spec.LiveTotal, spec.l15All, spec.l15Newest. -/
namespace Go.Proofs.Ytlbagejkjkfkjaa.A
open Go
/-- spec.HandOk -/
def r3 : RF :=
 ⟨1, [.tmp 2],
 .seq (.reg [⟨none, .locb 1 (.t 0)⟩,
  ⟨none, .mov 2 (.k (.bool false))⟩])
 (.seq (.reg [⟨none, .fad 3 1 1⟩,
  ⟨none, .load 4 3 1 false⟩,
  ⟨none, .call (some 5) 5 [(.t 4), (.k (.int .i64 0)), (.k (.int .i64 99))] false⟩,
  ⟨none, .mov 6 (.t 5)⟩,
  ⟨some (6, true), .fad 7 1 2⟩,
  ⟨some (6, true), .load 8 7 1 false⟩,
  ⟨some (6, true), .call (some 9) 5 [(.t 8), (.k (.int .i64 0)), (.k (.int .i64 99))] false⟩,
  ⟨none, .pick 10 (.t 6) (.t 9) (.k (.bool false))⟩,
  ⟨none, .mov 11 (.t 10)⟩,
  ⟨some (11, true), .fad 12 1 1⟩,
  ⟨some (11, true), .load 13 12 1 false⟩,
  ⟨some (11, true), .fad 14 1 2⟩,
  ⟨some (11, true), .load 15 14 1 false⟩,
  ⟨some (11, true), .bin 16 .neq (.t 13) (.t 15)⟩,
  ⟨none, .pick 17 (.t 11) (.t 16) (.k (.bool false))⟩,
  ⟨none, .mov 18 (.t 17)⟩,
  ⟨some (18, true), .fad 19 1 3⟩,
  ⟨some (18, true), .load 20 19 1 false⟩,
  ⟨some (18, true), .call (some 21) 5 [(.t 20), (.k (.int .i64 1)), (.k (.int .i64 999999))] false⟩,
  ⟨none, .pick 22 (.t 18) (.t 21) (.k (.bool false))⟩,
  ⟨none, .mov 23 (.t 22)⟩,
  ⟨some (23, true), .fad 24 1 4⟩,
  ⟨some (23, true), .load 25 24 1 false⟩,
  ⟨some (23, true), .call (some 26) 5 [(.t 25), (.k (.int .i64 0)), (.k (.int .i64 3))] false⟩,
  ⟨none, .pick 27 (.t 23) (.t 26) (.k (.bool false))⟩,
  ⟨none, .mov 2 (.t 27)⟩])
 (.ret))⟩
/-- spec.HandDone -/
def r84 : RF :=
 ⟨2, [.cell 4 5 true, .tmp 5],
 .seq (.reg [⟨none, .locb 2 (.t 0)⟩,
  ⟨none, .locb 3 (.t 1)⟩,
  ⟨none, .loc 4 [.int .u64 0, .int .i64 0, .int .i64 0, .int .i64 0, .int .i64 0]⟩,
  ⟨none, .mov 5 (.k (.bool false))⟩])
 (.seq (.reg [⟨none, .fad 7 2 3⟩,
  ⟨none, .load 8 7 1 false⟩,
  ⟨none, .mov 6 (.t 8)⟩])
 (.seq (.seq (.reg [⟨none, .fad 9 2 4⟩,
   ⟨none, .load 10 9 1 false⟩,
   ⟨none, .bin 11 .eql (.t 10) (.k (.int .i64 1))⟩])
  (.cond (.t 11)
  (.reg [⟨none, .fad 12 2 3⟩,
   ⟨none, .load 13 12 1 false⟩,
   ⟨none, .bin 14 .add (.t 13) (.k (.int .i64 1))⟩,
   ⟨none, .mov 6 (.t 14)⟩])
  (.skip)))
 (.seq (.seq (.reg [⟨none, .load 15 2 5 true⟩,
   ⟨none, .call (some 16) 3 [(.t 15)] false⟩,
   ⟨none, .not 17 (.t 16)⟩,
   ⟨none, .mov 18 (.t 17)⟩,
   ⟨some (18, false), .fad 19 2 4⟩,
   ⟨some (18, false), .load 20 19 1 false⟩,
   ⟨some (18, false), .bin 21 .eql (.t 20) (.k (.int .i64 3))⟩,
   ⟨none, .pick 22 (.t 18) (.k (.bool true)) (.t 21)⟩,
   ⟨none, .mov 23 (.t 22)⟩,
   ⟨some (23, false), .fad 24 3 0⟩,
   ⟨some (23, false), .load 25 24 1 false⟩,
   ⟨some (23, false), .fad 26 2 4⟩,
   ⟨some (23, false), .load 27 26 1 false⟩,
   ⟨some (23, false), .bin 28 .neq (.t 25) (.t 27)⟩,
   ⟨none, .pick 29 (.t 23) (.k (.bool true)) (.t 28)⟩,
   ⟨none, .mov 30 (.t 29)⟩,
   ⟨some (30, false), .fad 31 3 1⟩,
   ⟨some (30, false), .load 32 31 1 false⟩,
   ⟨some (30, false), .fad 33 2 0⟩,
   ⟨some (30, false), .load 34 33 1 false⟩,
   ⟨some (30, false), .bin 35 .neq (.t 32) (.t 34)⟩,
   ⟨none, .pick 36 (.t 30) (.k (.bool true)) (.t 35)⟩,
   ⟨none, .mov 37 (.t 36)⟩,
   ⟨some (37, false), .fad 38 3 3⟩,
   ⟨some (37, false), .load 39 38 1 false⟩,
   ⟨some (37, false), .mov 40 (.t 6)⟩,
   ⟨some (37, false), .bin 41 .neq (.t 39) (.t 40)⟩,
   ⟨none, .pick 42 (.t 37) (.k (.bool true)) (.t 41)⟩])
  (.cond (.t 42)
  (.seq (.reg [⟨none, .load 43 2 5 true⟩,
    ⟨none, .store 4 5 (.t 43)⟩,
    ⟨none, .mov 5 (.k (.bool false))⟩])
   (.ret))
  (.skip)))
 (.seq (.reg [⟨none, .fad 44 2 4⟩,
  ⟨none, .load 45 44 1 false⟩,
  ⟨none, .bin 46 .add (.t 45) (.k (.int .i64 1))⟩,
  ⟨none, .fad 47 2 4⟩,
  ⟨none, .store 47 1 (.t 46)⟩])
 (.seq (.reg [⟨none, .load 48 2 5 true⟩,
  ⟨none, .store 4 5 (.t 48)⟩,
  ⟨none, .mov 5 (.k (.bool true))⟩])
 (.ret))))))⟩
/-- spec.HandHas -/
def r166 : RF :=
 ⟨2, [.tmp 4],
 .seq (.reg [⟨none, .locb 2 (.t 0)⟩,
  ⟨none, .locb 3 (.t 1)⟩,
  ⟨none, .mov 4 (.k (.bool false))⟩])
 (.seq (.seq (.reg [⟨none, .load 7 2 3 true⟩,
   ⟨none, .call (some 8) 156 [(.t 7)] false⟩,
   ⟨none, .not 9 (.t 8)⟩,
   ⟨none, .mov 10 (.t 9)⟩,
   ⟨some (10, false), .fad 11 2 0⟩,
   ⟨some (10, false), .load 12 11 1 false⟩,
   ⟨some (10, false), .fad 13 3 2⟩,
   ⟨some (10, false), .load 14 13 1 false⟩,
   ⟨some (10, false), .bin 15 .neq (.t 12) (.t 14)⟩,
   ⟨none, .pick 16 (.t 10) (.k (.bool true)) (.t 15)⟩])
  (.cond (.t 16)
  (.seq (.reg [⟨none, .mov 4 (.k (.bool false))⟩])
   (.ret))
  (.skip)))
 (.seq (.reg [⟨none, .chk []⟩,
  ⟨none, .load 17 2 3 true⟩,
  ⟨none, .fad 18 3 1⟩,
  ⟨none, .load 19 18 1 false⟩,
  ⟨none, .load 21 2 3 true⟩,
  ⟨none, .fad 22 3 1⟩,
  ⟨none, .load 23 22 1 false⟩,
  ⟨none, .call (some 20) 210 [(.t 17), (.t 19), (.k (.int .i64 1))] true⟩,
  ⟨none, .call (some 24) 210 [(.t 21), (.t 23), (.k (.int .i64 0))] true⟩,
  ⟨none, .mov 5 (.t 20)⟩,
  ⟨none, .mov 6 (.t 24)⟩])
 (.seq (.seq (.reg [⟨none, .fad 25 3 0⟩,
   ⟨none, .load 26 25 1 false⟩])
  (.block 0 (.seq (.reg [⟨none, .bin 28 .eql (.t 26) (.k (.int .i64 0))⟩,
    ⟨none, .mov 27 (.t 28)⟩])
   (.cond (.t 27)
   (.seq (.reg [⟨none, .chk []⟩,
     ⟨none, .mov 29 (.t 5)⟩,
     ⟨none, .bin 30 .geq (.t 29) (.k (.int .i64 0))⟩,
     ⟨none, .mov 31 (.t 30)⟩,
     ⟨some (31, true), .mov 34 (.t 5)⟩,
     ⟨some (31, true), .fad 32 2 2⟩,
     ⟨some (31, true), .load 33 32 1 false⟩,
     ⟨some (31, true), .idx 35 16 (.t 33) (.t 34)⟩,
     ⟨some (31, true), .fad 36 35 3⟩,
     ⟨some (31, true), .load 37 36 1 false⟩,
     ⟨some (31, true), .fad 38 3 3⟩,
     ⟨some (31, true), .load 39 38 1 false⟩,
     ⟨some (31, true), .bin 40 .eql (.t 37) (.t 39)⟩,
     ⟨none, .pick 41 (.t 31) (.t 40) (.k (.bool false))⟩,
     ⟨none, .mov 4 (.t 41)⟩])
    (.ret))
   (.seq (.reg [⟨none, .bin 43 .eql (.t 26) (.k (.int .i64 1))⟩,
     ⟨none, .mov 42 (.t 43)⟩])
    (.cond (.t 42)
    (.seq (.reg [⟨none, .chk []⟩,
      ⟨none, .mov 44 (.t 6)⟩,
      ⟨none, .bin 45 .geq (.t 44) (.k (.int .i64 0))⟩,
      ⟨none, .mov 46 (.t 45)⟩,
      ⟨some (46, true), .mov 49 (.t 6)⟩,
      ⟨some (46, true), .fad 47 2 2⟩,
      ⟨some (46, true), .load 48 47 1 false⟩,
      ⟨some (46, true), .idx 50 16 (.t 48) (.t 49)⟩,
      ⟨some (46, true), .fad 51 50 3⟩,
      ⟨some (46, true), .load 52 51 1 false⟩,
      ⟨some (46, true), .fad 53 3 3⟩,
      ⟨some (46, true), .load 54 53 1 false⟩,
      ⟨some (46, true), .bin 55 .eql (.t 52) (.t 54)⟩,
      ⟨none, .pick 56 (.t 46) (.t 55) (.k (.bool false))⟩,
      ⟨none, .mov 4 (.t 56)⟩])
     (.ret))
    (.seq (.reg [⟨none, .bin 58 .eql (.t 26) (.k (.int .i64 2))⟩,
      ⟨none, .mov 57 (.t 58)⟩])
     (.cond (.t 57)
     (.seq (.reg [⟨none, .load 59 2 3 true⟩,
       ⟨none, .fad 60 3 1⟩,
       ⟨none, .load 61 60 1 false⟩,
       ⟨none, .call (some 62) 211 [(.t 59), (.t 61)] false⟩,
       ⟨none, .bin 63 .lss (.t 62) (.k (.int .i64 0))⟩,
       ⟨none, .mov 64 (.t 63)⟩,
       ⟨some (64, true), .fad 65 2 1⟩,
       ⟨some (64, true), .load 66 65 1 false⟩,
       ⟨some (64, true), .fad 67 3 3⟩,
       ⟨some (64, true), .load 68 67 1 false⟩,
       ⟨some (64, true), .bin 69 .geq (.t 66) (.t 68)⟩,
       ⟨none, .pick 70 (.t 64) (.t 69) (.k (.bool false))⟩,
       ⟨none, .mov 4 (.t 70)⟩])
      (.ret))
     (.skip)))))))))
 (.seq (.reg [⟨none, .mov 4 (.k (.bool false))⟩])
 (.ret)))))⟩
/-- A loop of spec.LiveTotal. -/
def r171L0 : RC :=
 .seq (.seq (.reg [⟨none, .mov 17 (.t 7)⟩,
          ⟨none, .mov 18 (.t 0)⟩,
          ⟨none, .mov 19 (.t 6)⟩,
          ⟨none, .idx 20 18 (.t 18) (.t 19)⟩,
          ⟨none, .fad 21 20 2⟩,
          ⟨none, .load 22 21 1 false⟩,
          ⟨none, .len 23 (.t 22)⟩,
          ⟨none, .bin 24 .lss (.t 17) (.t 23)⟩])
         (.cond (.t 24)
         (.skip)
         (.exit 2)))
        (.seq (.block 3 (.seq (.reg [⟨none, .mov 27 (.t 0)⟩,
           ⟨none, .mov 28 (.t 0)⟩,
           ⟨none, .mov 29 (.t 6)⟩,
           ⟨none, .idx 30 18 (.t 28) (.t 29)⟩,
           ⟨none, .fad 31 30 2⟩,
           ⟨none, .load 32 31 1 false⟩,
           ⟨none, .mov 33 (.t 7)⟩,
           ⟨none, .idx 34 16 (.t 32) (.t 33)⟩,
           ⟨none, .load 35 34 6 true⟩,
           ⟨none, .call (some 36) 215 [(.t 27), (.t 35)] false⟩])
          (.cond (.t 36)
          (.reg [⟨none, .mov 38 (.t 4)⟩,
           ⟨none, .mov 39 (.t 5)⟩,
           ⟨none, .mov 40 (.t 0)⟩,
           ⟨none, .mov 41 (.t 6)⟩,
           ⟨none, .idx 42 18 (.t 40) (.t 41)⟩,
           ⟨none, .fad 43 42 2⟩,
           ⟨none, .load 44 43 1 false⟩,
           ⟨none, .mov 45 (.t 7)⟩,
           ⟨none, .idx 46 16 (.t 44) (.t 45)⟩,
           ⟨none, .fad 47 46 4⟩,
           ⟨none, .load 48 47 1 true⟩,
           ⟨none, .call (some 49) 208 [(.t 38), (.t 39), (.t 48)] false⟩,
           ⟨none, .mov 37 (.t 49)⟩,
           ⟨none, .ext 50 (.t 37) 0⟩,
           ⟨none, .ext 51 (.t 37) 1⟩,
           ⟨none, .mov 4 (.t 50)⟩,
           ⟨none, .mov 5 (.t 51)⟩])
          (.skip))))
        (.reg [⟨none, .mov 25 (.t 7)⟩,
        ⟨none, .bin 26 .add (.t 25) (.k (.int .i64 1))⟩,
        ⟨none, .mov 7 (.t 26)⟩]))
/-- A loop of spec.LiveTotal. -/
def r171L1 : RC :=
 .seq (.seq (.reg [⟨none, .mov 11 (.t 6)⟩,
      ⟨none, .mov 12 (.t 0)⟩,
      ⟨none, .len 13 (.t 12)⟩,
      ⟨none, .bin 14 .lss (.t 11) (.t 13)⟩])
     (.cond (.t 14)
     (.skip)
     (.exit 0)))
    (.seq (.block 1 (.seq (.reg [⟨none, .mov 7 (.k (.int .i64 0))⟩])
      (.block 2 (.loop [0, 4, 5, 6, 7]
       r171L0))))
    (.reg [⟨none, .mov 15 (.t 6)⟩,
    ⟨none, .bin 16 .add (.t 15) (.k (.int .i64 1))⟩,
    ⟨none, .mov 6 (.t 16)⟩]))
/-- spec.LiveTotal -/
def r171 : RF :=
 ⟨1, [.tmp 2, .tmp 3],
 .seq (.reg [⟨none, .mov 2 (.k (.int .u64 0))⟩,
  ⟨none, .mov 3 (.k (.int .u64 0))⟩])
 (.seq (.reg [⟨none, .mov 4 (.k (.int .u64 0))⟩,
  ⟨none, .mov 5 (.k (.int .u64 0))⟩])
 (.seq (.seq (.reg [⟨none, .mov 8 (.t 0)⟩,
   ⟨none, .call (some 9) 214 [(.t 8)] false⟩,
   ⟨none, .not 10 (.t 9)⟩])
  (.cond (.t 10)
  (.seq (.reg [⟨none, .mov 2 (.k (.int .u64 0))⟩,
    ⟨none, .mov 3 (.k (.int .u64 0))⟩])
   (.ret))
  (.skip)))
 (.seq (.seq (.reg [⟨none, .mov 6 (.k (.int .i64 0))⟩])
  (.block 0 (.loop [0, 4, 5, 6]
   r171L1)))
 (.seq (.reg [⟨none, .mov 52 (.t 4)⟩,
  ⟨none, .mov 53 (.t 5)⟩,
  ⟨none, .mov 2 (.t 52)⟩,
  ⟨none, .mov 3 (.t 53)⟩])
 (.ret)))))⟩
/-- A loop of spec.l15All. -/
def r214L0 : RC :=
 .seq (.seq (.reg [⟨none, .mov 4 (.t 3)⟩,
      ⟨none, .mov 5 (.t 0)⟩,
      ⟨none, .len 6 (.t 5)⟩,
      ⟨none, .bin 7 .lss (.t 4) (.t 6)⟩,
      ⟨none, .mov 8 (.t 7)⟩,
      ⟨some (8, true), .mov 9 (.t 0)⟩,
      ⟨some (8, true), .len 10 (.t 9)⟩,
      ⟨some (8, true), .bin 11 .leq (.t 10) (.k (.int .i64 40))⟩,
      ⟨none, .pick 12 (.t 8) (.t 11) (.k (.bool false))⟩])
     (.cond (.t 12)
     (.skip)
     (.exit 0)))
    (.seq (.block 1 (.seq (.reg [⟨none, .mov 15 (.t 0)⟩,
       ⟨none, .mov 16 (.t 3)⟩,
       ⟨none, .idx 17 18 (.t 15) (.t 16)⟩,
       ⟨none, .load 18 17 3 true⟩,
       ⟨none, .call (some 19) 156 [(.t 18)] false⟩,
       ⟨none, .not 20 (.t 19)⟩])
      (.cond (.t 20)
      (.seq (.reg [⟨none, .mov 2 (.k (.bool false))⟩])
       (.ret))
      (.skip))))
    (.reg [⟨none, .mov 13 (.t 3)⟩,
    ⟨none, .bin 14 .add (.t 13) (.k (.int .i64 1))⟩,
    ⟨none, .mov 3 (.t 14)⟩]))
/-- spec.l15All -/
def r214 : RF :=
 ⟨1, [.tmp 2],
 .seq (.reg [⟨none, .mov 2 (.k (.bool false))⟩])
 (.seq (.seq (.reg [⟨none, .mov 3 (.k (.int .i64 0))⟩])
  (.block 0 (.loop [0, 3]
   r214L0)))
 (.seq (.reg [⟨none, .mov 21 (.t 0)⟩,
  ⟨none, .len 22 (.t 21)⟩,
  ⟨none, .bin 23 .leq (.t 22) (.k (.int .i64 40))⟩,
  ⟨none, .mov 2 (.t 23)⟩])
 (.ret)))⟩
/-- A loop of spec.l15Newest. -/
def r215L0 : RC :=
 .seq (.seq (.reg [⟨none, .mov 14 (.t 6)⟩,
          ⟨none, .mov 15 (.t 0)⟩,
          ⟨none, .mov 16 (.t 5)⟩,
          ⟨none, .idx 17 18 (.t 15) (.t 16)⟩,
          ⟨none, .fad 18 17 2⟩,
          ⟨none, .load 19 18 1 false⟩,
          ⟨none, .len 20 (.t 19)⟩,
          ⟨none, .bin 21 .lss (.t 14) (.t 20)⟩])
         (.cond (.t 21)
         (.skip)
         (.exit 2)))
        (.seq (.block 3 (.seq (.reg [⟨none, .mov 24 (.t 0)⟩,
           ⟨none, .mov 25 (.t 5)⟩,
           ⟨none, .idx 26 18 (.t 24) (.t 25)⟩,
           ⟨none, .fad 27 26 2⟩,
           ⟨none, .load 28 27 1 false⟩,
           ⟨none, .mov 29 (.t 6)⟩,
           ⟨none, .idx 30 16 (.t 28) (.t 29)⟩,
           ⟨none, .load 31 30 6 true⟩,
           ⟨none, .loc 7 [.int .u64 0, .int .u64 0, .int .i64 0, .int .i64 0, .nil, .nil]⟩,
           ⟨none, .store 7 6 (.t 31)⟩])
          (.seq (.reg [⟨none, .fad 32 7 3⟩,
           ⟨none, .load 33 32 1 false⟩,
           ⟨none, .fad 34 3 3⟩,
           ⟨none, .load 35 34 1 false⟩,
           ⟨none, .bin 36 .gtr (.t 33) (.t 35)⟩,
           ⟨none, .mov 37 (.t 36)⟩,
           ⟨some (37, true), .fad 38 7 0⟩,
           ⟨some (37, true), .load 39 38 1 false⟩,
           ⟨some (37, true), .fad 40 3 1⟩,
           ⟨some (37, true), .load 41 40 1 false⟩,
           ⟨some (37, true), .bin 42 .leq (.t 39) (.t 41)⟩,
           ⟨none, .pick 43 (.t 37) (.t 42) (.k (.bool false))⟩,
           ⟨none, .mov 44 (.t 43)⟩,
           ⟨some (44, true), .fad 45 3 0⟩,
           ⟨some (44, true), .load 46 45 1 false⟩,
           ⟨some (44, true), .fad 47 7 1⟩,
           ⟨some (44, true), .load 48 47 1 false⟩,
           ⟨some (44, true), .bin 49 .leq (.t 46) (.t 48)⟩,
           ⟨none, .pick 50 (.t 44) (.t 49) (.k (.bool false))⟩])
          (.cond (.t 50)
          (.seq (.reg [⟨none, .mov 4 (.k (.bool false))⟩])
           (.ret))
          (.skip)))))
        (.reg [⟨none, .mov 22 (.t 6)⟩,
        ⟨none, .bin 23 .add (.t 22) (.k (.int .i64 1))⟩,
        ⟨none, .mov 6 (.t 23)⟩]))
/-- A loop of spec.l15Newest. -/
def r215L1 : RC :=
 .seq (.seq (.reg [⟨none, .mov 8 (.t 5)⟩,
      ⟨none, .mov 9 (.t 0)⟩,
      ⟨none, .len 10 (.t 9)⟩,
      ⟨none, .bin 11 .lss (.t 8) (.t 10)⟩])
     (.cond (.t 11)
     (.skip)
     (.exit 0)))
    (.seq (.block 1 (.seq (.reg [⟨none, .mov 6 (.k (.int .i64 0))⟩])
      (.block 2 (.loop [0, 3, 5, 6]
       r215L0))))
    (.reg [⟨none, .mov 12 (.t 5)⟩,
    ⟨none, .bin 13 .add (.t 12) (.k (.int .i64 1))⟩,
    ⟨none, .mov 5 (.t 13)⟩]))
/-- spec.l15Newest -/
def r215 : RF :=
 ⟨2, [.tmp 4],
 .seq (.reg [⟨none, .locb 3 (.t 1)⟩,
  ⟨none, .mov 4 (.k (.bool false))⟩])
 (.seq (.seq (.reg [⟨none, .mov 5 (.k (.int .i64 0))⟩])
  (.block 0 (.loop [0, 3, 5]
   r215L1)))
 (.seq (.reg [⟨none, .mov 4 (.k (.bool true))⟩])
 (.ret)))⟩
/-- The functions of this text, with their numbers. -/
def tS15 : List (Nat × RF) := [(3, r3), (84, r84), (166, r166), (171, r171), (214, r214), (215, r215)]
end Go.Proofs.Ytlbagejkjkfkjaa.A
/- Has a store a message of a hand-over had? -/
namespace Go.Proofs.Ytlbagejkjkfkjaa.A
open Go
set_option linter.unusedSimpArgs false
set_option linter.unusedVariables false
def Shard.cells (t : Shard) (x y : Cell) : List Cell := [.int .u64 t.lo, .int .u64 t.hi, .int .i64 t.state, .int .i64 t.epoch, x, y]
/-- The shard in a state that begins with an id has an epoch. -/
def Store.atE (s : Store) (lo st epoch : Int) : Bool := decide (0 ≤ findAt s.shards lo st) && ((Shard.at_ s.shards (findAt s.shards lo st).toNat).epoch == epoch)
def handHas (s : Store) (m : HandMsg) : Bool := s.good && ((m.to == s.group) && (bif m.step == 1 then s.atE m.lo 0 m.epoch else bif m.step == 2 then decide (findId s.shards m.lo < 0) && decide (m.epoch ≤ s.seen) else bif m.step == 0 then s.atE m.lo 1 m.epoch else false))
section
variable {F : Nat → Option RF} {Z : CallF} {h : Heap} {x : Cell} {xs : List Shard} {fp fq : List Nat} {cs ms : List Cell} {s : Store} {m : HandMsg}
theorem SlR.found (w : SlR 16 Shard.RI h x xs fp) (p : Shard → Bool) : findI p xs = -1 ∨ ∃ i : Nat, findI p xs = (i : Int) ∧ i < xs.length ∧ p (Shard.at_ xs i) = true ∧ idxR 16 (some x) (some (i : Int)) = some (.ptr x.sid i 0) ∧
    ∃ y z, ∀ j n, loadP h x.sid i j n = cut? ((Shard.at_ xs i).cells y z) j n := by
  by_cases h0 : 0 ≤ findI p xs
  · obtain ⟨i, e, hi, hp⟩ := findI_at h0
    obtain ⟨r, f, hl, hR, _⟩ := w.one hi
    rw [← Shard.at_get hi] at hR hp
    obtain ⟨x1, p1, x2, p2, rfl, _⟩ := hR
    exact .inr ⟨i, e, hi, hp, w.idx hi, x1, x2, hl⟩
  · exact .inl (findI_no (by omega))
set_option maxHeartbeats 4000000 in
theorem HandHas_run (k : KI F) (hI15 : Has F tI15) (hL : Has F tLibslicesIndexFuncimplShardimplShard) (v : Store.RI h cs s fp) (u : HandMsg.RI h ms m fq) (ok : s.Ok) :
    ∃ h', call F Z 167 [.agg cs, .agg ms] h = some (.c (.bool (handHas s m)), h') ∧ On h h' := by
  obtain ⟨h1, e1, o1⟩ := isStore_run (Z := Z) k v ok
  have v1 := Store.okI.on v o1
  have e2 := shardWith_run (Z := Z) k.i13 hL v1 m.lo
  have e3 := fun st => shardAt_run (Z := Z) k.i13 hL v1 m.lo st
  have hdef : handHas s m = (s.good && ((m.to == s.group) && (bif m.step == 1 then s.atE m.lo 0 m.epoch else bif m.step == 2 then decide (findId s.shards m.lo < 0) && decide (m.epoch ≤ s.seen) else bif m.step == 0 then s.atE m.lo 1 m.epoch else false))) := rfl
  obtain ⟨y1, q1, y2, q2, rfl, rfl, _, _⟩ := u
  obtain ⟨x, p, rfl, rfl, w⟩ := v1
  have fd := fun st => (w.on Shard.okI ((On.push h1 [[.int .u64 m.lo]]).trans (On.push _ [[.int .i64 st]]))).found (fun t => (t.lo == m.lo) && (t.state == st))
  change ∀ st, findAt s.shards m.lo st = -1 ∨ ∃ i : Nat, findAt s.shards m.lo st = (i : Int) ∧ _ at fd
  clear v w
  rw [call_run F Z (hI15.lk (g := 167) rfl) _ _ rfl]
  generalize s.good = gd at *
  cases gd with
  | false =>
    simp only [run0, run1, run2, run3, run4, noSlot, memN, RO.dst, lk, drop, forget, number, Nat.reduceBEq, cut?, splice?, builds, List.length_cons, List.length_nil, List.drop_succ_cons, List.drop_zero, List.take_succ_cons, List.take_zero, List.cons_append, List.nil_append, List.append_nil, List.drop_nil, List.take_nil, Nat.reduceAdd, Nat.reduceLeDiff, Nat.zero_add, Nat.add_zero, ↓reduceIte, Bool.not_true, Bool.not_false, decide_true, decide_false, eq_self, bne_self_eq_false, List.getElem?_cons_zero, List.getElem?_cons_succ, decide_eq_true_eq, Bool.false_eq_true, Bool.true_eq_false, reduceCtorEq, Nat.le_refl, e1]
    exact ⟨_, by rw [hdef]; rfl, o1⟩
  | true =>
    by_cases ht : m.to = s.group
    · have ht' : ¬ (m.to != s.group) = true := by simp [ht]
      by_cases c1 : m.step = 1
      · simp only [run0, run1, run2, run3, run4, noSlot, memN, RO.dst, lk, drop, forget, number, Nat.reduceBEq, cut?, splice?, builds, List.length_cons, List.length_nil, List.drop_succ_cons, List.drop_zero, List.take_succ_cons, List.take_zero, List.cons_append, List.nil_append, List.append_nil, List.drop_nil, List.take_nil, Nat.reduceAdd, Nat.reduceLeDiff, Nat.zero_add, Nat.add_zero, ↓reduceIte, Bool.not_true, Bool.not_false, decide_true, decide_false, eq_self, bne_self_eq_false, List.getElem?_cons_zero, List.getElem?_cons_succ, decide_eq_true_eq, Bool.false_eq_true, Bool.true_eq_false, reduceCtorEq, Nat.le_refl, e1, ht, bne_self_eq_false, c1, e3, Int.reduceBEq, beq_self_eq_true]
        have hd : handHas s m = s.atE m.lo 0 m.epoch := by rw [hdef]; simp [ht, c1]
        rw [hd]
        rcases fd 0 with e | ⟨i, e, hi, _, hx, z1, z2, hl⟩
        · rw [e]
          have g0 : ¬ (-1 : Int) ≥ 0 := by omega
          simp only [run0, run1, run2, run3, run4, noSlot, memN, RO.dst, lk, drop, forget, number, Nat.reduceBEq, cut?, splice?, builds, List.length_cons, List.length_nil, List.drop_succ_cons, List.drop_zero, List.take_succ_cons, List.take_zero, List.cons_append, List.nil_append, List.append_nil, List.drop_nil, List.take_nil, Nat.reduceAdd, Nat.reduceLeDiff, Nat.zero_add, Nat.add_zero, ↓reduceIte, Bool.not_true, Bool.not_false, decide_true, decide_false, eq_self, bne_self_eq_false, List.getElem?_cons_zero, List.getElem?_cons_succ, decide_eq_true_eq, Bool.false_eq_true, Bool.true_eq_false, reduceCtorEq, Nat.le_refl, g0]
          refine ⟨_, ?_, o1.trans ((On.push h1 [[.int .u64 m.lo]]).trans (On.push _ [[.int .i64 0]]))⟩; simp [Store.atE, e]
        · rw [e]
          have g0 : (i : Int) ≥ 0 := by omega
          simp only [run0, run1, run2, run3, run4, noSlot, memN, RO.dst, lk, drop, forget, number, Nat.reduceBEq, cut?, splice?, builds, List.length_cons, List.length_nil, List.drop_succ_cons, List.drop_zero, List.take_succ_cons, List.take_zero, List.cons_append, List.nil_append, List.append_nil, List.drop_nil, List.take_nil, Nat.reduceAdd, Nat.reduceLeDiff, Nat.zero_add, Nat.add_zero, ↓reduceIte, Bool.not_true, Bool.not_false, decide_true, decide_false, eq_self, bne_self_eq_false, List.getElem?_cons_zero, List.getElem?_cons_succ, decide_eq_true_eq, Bool.false_eq_true, Bool.true_eq_false, reduceCtorEq, Nat.le_refl, g0, hx, hl, Shard.cells]
          refine ⟨_, ?_, o1.trans ((On.push h1 [[.int .u64 m.lo]]).trans (On.push _ [[.int .i64 0]]))⟩; simp [Store.atE, e]
      · by_cases c2 : m.step = 2
        · have hd : handHas s m = (decide (findId s.shards m.lo < 0) && decide (m.epoch ≤ s.seen)) := by rw [hdef]; simp [ht, c2]
          rw [hd]
          simp only [run0, run1, run2, run3, run4, noSlot, memN, RO.dst, lk, drop, forget, number, Nat.reduceBEq, cut?, splice?, builds, List.length_cons, List.length_nil, List.drop_succ_cons, List.drop_zero, List.take_succ_cons, List.take_zero, List.cons_append, List.nil_append, List.append_nil, List.drop_nil, List.take_nil, Nat.reduceAdd, Nat.reduceLeDiff, Nat.zero_add, Nat.add_zero, ↓reduceIte, Bool.not_true, Bool.not_false, decide_true, decide_false, eq_self, bne_self_eq_false, List.getElem?_cons_zero, List.getElem?_cons_succ, decide_eq_true_eq, Bool.false_eq_true, Bool.true_eq_false, reduceCtorEq, Nat.le_refl, e1, ht, bne_self_eq_false, c2, e2, Int.reduceBEq, beq_self_eq_true]
          (repeat' ((first | (rw [gF_if]; split) | (rw [condC_if]; split) | (rw [pickR_if]; split)) <;> (rename_i hh; (try simp only [Bool.not_eq_true, decide_eq_true_eq] at hh); simp only [hh, run0, run1, run2, run3, run4, noSlot, memN, RO.dst, lk, drop, forget, number, Nat.reduceBEq, cut?, splice?, builds, List.length_cons, List.length_nil, List.drop_succ_cons, List.drop_zero, List.take_succ_cons, List.take_zero, List.cons_append, List.nil_append, List.append_nil, List.drop_nil, List.take_nil, Nat.reduceAdd, Nat.reduceLeDiff, Nat.zero_add, Nat.add_zero, ↓reduceIte, Bool.not_true, Bool.not_false, decide_true, decide_false, eq_self, bne_self_eq_false, List.getElem?_cons_zero, List.getElem?_cons_succ, decide_eq_true_eq, Bool.false_eq_true, Bool.true_eq_false, reduceCtorEq, Nat.le_refl, e1]))) <;> (refine ⟨_, ?_, o1.trans (On.push h1 [[.int .u64 m.lo]])⟩; clear fd; simp_all)
        · by_cases c3 : m.step = 0
          · simp only [run0, run1, run2, run3, run4, noSlot, memN, RO.dst, lk, drop, forget, number, Nat.reduceBEq, cut?, splice?, builds, List.length_cons, List.length_nil, List.drop_succ_cons, List.drop_zero, List.take_succ_cons, List.take_zero, List.cons_append, List.nil_append, List.append_nil, List.drop_nil, List.take_nil, Nat.reduceAdd, Nat.reduceLeDiff, Nat.zero_add, Nat.add_zero, ↓reduceIte, Bool.not_true, Bool.not_false, decide_true, decide_false, eq_self, bne_self_eq_false, List.getElem?_cons_zero, List.getElem?_cons_succ, decide_eq_true_eq, Bool.false_eq_true, Bool.true_eq_false, reduceCtorEq, Nat.le_refl, e1, ht, bne_self_eq_false, c3, e3, Int.reduceBEq, beq_self_eq_true]
            have hd : handHas s m = s.atE m.lo 1 m.epoch := by rw [hdef]; simp [ht, c3]
            rw [hd]
            rcases fd 1 with e | ⟨i, e, hi, _, hx, z1, z2, hl⟩
            · rw [e]
              have g0 : ¬ (-1 : Int) ≥ 0 := by omega
              simp only [run0, run1, run2, run3, run4, noSlot, memN, RO.dst, lk, drop, forget, number, Nat.reduceBEq, cut?, splice?, builds, List.length_cons, List.length_nil, List.drop_succ_cons, List.drop_zero, List.take_succ_cons, List.take_zero, List.cons_append, List.nil_append, List.append_nil, List.drop_nil, List.take_nil, Nat.reduceAdd, Nat.reduceLeDiff, Nat.zero_add, Nat.add_zero, ↓reduceIte, Bool.not_true, Bool.not_false, decide_true, decide_false, eq_self, bne_self_eq_false, List.getElem?_cons_zero, List.getElem?_cons_succ, decide_eq_true_eq, Bool.false_eq_true, Bool.true_eq_false, reduceCtorEq, Nat.le_refl, g0]
              refine ⟨_, ?_, o1.trans ((On.push h1 [[.int .u64 m.lo]]).trans (On.push _ [[.int .i64 1]]))⟩; simp [Store.atE, e]
            · rw [e]
              have g0 : (i : Int) ≥ 0 := by omega
              simp only [run0, run1, run2, run3, run4, noSlot, memN, RO.dst, lk, drop, forget, number, Nat.reduceBEq, cut?, splice?, builds, List.length_cons, List.length_nil, List.drop_succ_cons, List.drop_zero, List.take_succ_cons, List.take_zero, List.cons_append, List.nil_append, List.append_nil, List.drop_nil, List.take_nil, Nat.reduceAdd, Nat.reduceLeDiff, Nat.zero_add, Nat.add_zero, ↓reduceIte, Bool.not_true, Bool.not_false, decide_true, decide_false, eq_self, bne_self_eq_false, List.getElem?_cons_zero, List.getElem?_cons_succ, decide_eq_true_eq, Bool.false_eq_true, Bool.true_eq_false, reduceCtorEq, Nat.le_refl, g0, hx, hl, Shard.cells]
              refine ⟨_, ?_, o1.trans ((On.push h1 [[.int .u64 m.lo]]).trans (On.push _ [[.int .i64 1]]))⟩; simp [Store.atE, e]
          · have hd : handHas s m = false := by rw [hdef]; simp [ht, c1, c2, c3]
            have d1 : (m.step == 1) = false := by simpa using c1
            have d2 : (m.step == 2) = false := by simpa using c2
            have d3 : (m.step == 0) = false := by simpa using c3
            rw [hd]
            simp only [run0, run1, run2, run3, run4, noSlot, memN, RO.dst, lk, drop, forget, number, Nat.reduceBEq, cut?, splice?, builds, List.length_cons, List.length_nil, List.drop_succ_cons, List.drop_zero, List.take_succ_cons, List.take_zero, List.cons_append, List.nil_append, List.append_nil, List.drop_nil, List.take_nil, Nat.reduceAdd, Nat.reduceLeDiff, Nat.zero_add, Nat.add_zero, ↓reduceIte, Bool.not_true, Bool.not_false, decide_true, decide_false, eq_self, bne_self_eq_false, List.getElem?_cons_zero, List.getElem?_cons_succ, decide_eq_true_eq, Bool.false_eq_true, Bool.true_eq_false, reduceCtorEq, Nat.le_refl, e1, ht, bne_self_eq_false, d1, d2, d3]
            exact ⟨_, rfl, o1⟩
    · have ht' : (m.to != s.group) = true := by simp [ht]
      simp only [run0, run1, run2, run3, run4, noSlot, memN, RO.dst, lk, drop, forget, number, Nat.reduceBEq, cut?, splice?, builds, List.length_cons, List.length_nil, List.drop_succ_cons, List.drop_zero, List.take_succ_cons, List.take_zero, List.cons_append, List.nil_append, List.append_nil, List.drop_nil, List.take_nil, Nat.reduceAdd, Nat.reduceLeDiff, Nat.zero_add, Nat.add_zero, ↓reduceIte, Bool.not_true, Bool.not_false, decide_true, decide_false, eq_self, bne_self_eq_false, List.getElem?_cons_zero, List.getElem?_cons_succ, decide_eq_true_eq, Bool.false_eq_true, Bool.true_eq_false, reduceCtorEq, Nat.le_refl, e1, ht']
      exact ⟨_, by rw [hdef]; simp [ht], o1⟩
set_option maxHeartbeats 4000000 in
theorem sHandHas_run (k : KS F) (hS15 : Has F tS15) (v : Store.RI h cs s fp) (u : HandMsg.RI h ms m fq) (ok : s.Ok) :
    call F Z 166 [.agg cs, .agg ms] h = some (.c (.bool (handHas s m)), h) := by
  have e1 := sStoreOk_run (Z := Z) k v ok
  have e2 := l13Find_run (Z := Z) k.s13 v m.lo
  have e3 := fun st => l13At_run (Z := Z) k.s13 (Store.okI.up v h.next) m.lo st
  have hdef : handHas s m = (s.good && ((m.to == s.group) && (bif m.step == 1 then s.atE m.lo 0 m.epoch else bif m.step == 2 then decide (findId s.shards m.lo < 0) && decide (m.epoch ≤ s.seen) else bif m.step == 0 then s.atE m.lo 1 m.epoch else false))) := rfl
  obtain ⟨y1, q1, y2, q2, rfl, rfl, _, _⟩ := u
  obtain ⟨x, p, rfl, rfl, w⟩ := v
  have fd := fun st => w.found (fun t => (t.lo == m.lo) && (t.state == st))
  change ∀ st, findAt s.shards m.lo st = -1 ∨ ∃ i : Nat, findAt s.shards m.lo st = (i : Int) ∧ _ at fd
  clear w
  rw [call_run F Z (hS15.lk (g := 166) rfl) _ _ rfl]
  generalize s.good = gd at *
  cases gd with
  | false =>
    simp only [run0, run1, run2, run3, run4, noSlot, memN, RO.dst, lk, drop, forget, number, Nat.reduceBEq, cut?, splice?, builds, List.length_cons, List.length_nil, List.drop_succ_cons, List.drop_zero, List.take_succ_cons, List.take_zero, List.cons_append, List.nil_append, List.append_nil, List.drop_nil, List.take_nil, Nat.reduceAdd, Nat.reduceLeDiff, Nat.zero_add, Nat.add_zero, ↓reduceIte, Bool.not_true, Bool.not_false, decide_true, decide_false, eq_self, bne_self_eq_false, List.getElem?_cons_zero, List.getElem?_cons_succ, decide_eq_true_eq, Bool.false_eq_true, Bool.true_eq_false, reduceCtorEq, Nat.le_refl, e1]
    rw [hdef]; rfl
  | true =>
    by_cases ht : m.to = s.group
    · by_cases c1 : m.step = 1
      · simp only [run0, run1, run2, run3, run4, noSlot, memN, RO.dst, lk, drop, forget, number, Nat.reduceBEq, cut?, splice?, builds, List.length_cons, List.length_nil, List.drop_succ_cons, List.drop_zero, List.take_succ_cons, List.take_zero, List.cons_append, List.nil_append, List.append_nil, List.drop_nil, List.take_nil, Nat.reduceAdd, Nat.reduceLeDiff, Nat.zero_add, Nat.add_zero, ↓reduceIte, Bool.not_true, Bool.not_false, decide_true, decide_false, eq_self, bne_self_eq_false, List.getElem?_cons_zero, List.getElem?_cons_succ, decide_eq_true_eq, Bool.false_eq_true, Bool.true_eq_false, reduceCtorEq, Nat.le_refl, e1, ht, bne_self_eq_false, c1, e3, Int.reduceBEq, beq_self_eq_true]
        have hd : handHas s m = s.atE m.lo 0 m.epoch := by rw [hdef]; simp [ht, c1]
        rw [hd]
        rcases fd 0 with e | ⟨i, e, hi, _, hx, z1, z2, hl⟩
        · rw [e]
          have g0 : ¬ (-1 : Int) ≥ 0 := by omega
          simp only [run0, run1, run2, run3, run4, noSlot, memN, RO.dst, lk, drop, forget, number, Nat.reduceBEq, cut?, splice?, builds, List.length_cons, List.length_nil, List.drop_succ_cons, List.drop_zero, List.take_succ_cons, List.take_zero, List.cons_append, List.nil_append, List.append_nil, List.drop_nil, List.take_nil, Nat.reduceAdd, Nat.reduceLeDiff, Nat.zero_add, Nat.add_zero, ↓reduceIte, Bool.not_true, Bool.not_false, decide_true, decide_false, eq_self, bne_self_eq_false, List.getElem?_cons_zero, List.getElem?_cons_succ, decide_eq_true_eq, Bool.false_eq_true, Bool.true_eq_false, reduceCtorEq, Nat.le_refl, g0]
          simp [Store.atE, e]
        · rw [e]
          have g0 : (i : Int) ≥ 0 := by omega
          simp only [run0, run1, run2, run3, run4, noSlot, memN, RO.dst, lk, drop, forget, number, Nat.reduceBEq, cut?, splice?, builds, List.length_cons, List.length_nil, List.drop_succ_cons, List.drop_zero, List.take_succ_cons, List.take_zero, List.cons_append, List.nil_append, List.append_nil, List.drop_nil, List.take_nil, Nat.reduceAdd, Nat.reduceLeDiff, Nat.zero_add, Nat.add_zero, ↓reduceIte, Bool.not_true, Bool.not_false, decide_true, decide_false, eq_self, bne_self_eq_false, List.getElem?_cons_zero, List.getElem?_cons_succ, decide_eq_true_eq, Bool.false_eq_true, Bool.true_eq_false, reduceCtorEq, Nat.le_refl, g0, hx, hl, Shard.cells]
          simp [Store.atE, e]
      · by_cases c2 : m.step = 2
        · have hd : handHas s m = (decide (findId s.shards m.lo < 0) && decide (m.epoch ≤ s.seen)) := by rw [hdef]; simp [ht, c2]
          rw [hd]
          simp only [run0, run1, run2, run3, run4, noSlot, memN, RO.dst, lk, drop, forget, number, Nat.reduceBEq, cut?, splice?, builds, List.length_cons, List.length_nil, List.drop_succ_cons, List.drop_zero, List.take_succ_cons, List.take_zero, List.cons_append, List.nil_append, List.append_nil, List.drop_nil, List.take_nil, Nat.reduceAdd, Nat.reduceLeDiff, Nat.zero_add, Nat.add_zero, ↓reduceIte, Bool.not_true, Bool.not_false, decide_true, decide_false, eq_self, bne_self_eq_false, List.getElem?_cons_zero, List.getElem?_cons_succ, decide_eq_true_eq, Bool.false_eq_true, Bool.true_eq_false, reduceCtorEq, Nat.le_refl, e1, ht, bne_self_eq_false, c2, e2, e3, Int.reduceBEq, beq_self_eq_true]
          (repeat' ((first | (rw [gF_if]; split) | (rw [condC_if]; split) | (rw [pickR_if]; split)) <;> (rename_i hh; (try simp only [Bool.not_eq_true, decide_eq_true_eq] at hh); simp only [hh, run0, run1, run2, run3, run4, noSlot, memN, RO.dst, lk, drop, forget, number, Nat.reduceBEq, cut?, splice?, builds, List.length_cons, List.length_nil, List.drop_succ_cons, List.drop_zero, List.take_succ_cons, List.take_zero, List.cons_append, List.nil_append, List.append_nil, List.drop_nil, List.take_nil, Nat.reduceAdd, Nat.reduceLeDiff, Nat.zero_add, Nat.add_zero, ↓reduceIte, Bool.not_true, Bool.not_false, decide_true, decide_false, eq_self, bne_self_eq_false, List.getElem?_cons_zero, List.getElem?_cons_succ, decide_eq_true_eq, Bool.false_eq_true, Bool.true_eq_false, reduceCtorEq, Nat.le_refl, e1]))) <;> (clear fd; simp_all)
        · by_cases c3 : m.step = 0
          · simp only [run0, run1, run2, run3, run4, noSlot, memN, RO.dst, lk, drop, forget, number, Nat.reduceBEq, cut?, splice?, builds, List.length_cons, List.length_nil, List.drop_succ_cons, List.drop_zero, List.take_succ_cons, List.take_zero, List.cons_append, List.nil_append, List.append_nil, List.drop_nil, List.take_nil, Nat.reduceAdd, Nat.reduceLeDiff, Nat.zero_add, Nat.add_zero, ↓reduceIte, Bool.not_true, Bool.not_false, decide_true, decide_false, eq_self, bne_self_eq_false, List.getElem?_cons_zero, List.getElem?_cons_succ, decide_eq_true_eq, Bool.false_eq_true, Bool.true_eq_false, reduceCtorEq, Nat.le_refl, e1, ht, bne_self_eq_false, c3, e3, Int.reduceBEq, beq_self_eq_true]
            have hd : handHas s m = s.atE m.lo 1 m.epoch := by rw [hdef]; simp [ht, c3]
            rw [hd]
            rcases fd 1 with e | ⟨i, e, hi, _, hx, z1, z2, hl⟩
            · rw [e]
              have g0 : ¬ (-1 : Int) ≥ 0 := by omega
              simp only [run0, run1, run2, run3, run4, noSlot, memN, RO.dst, lk, drop, forget, number, Nat.reduceBEq, cut?, splice?, builds, List.length_cons, List.length_nil, List.drop_succ_cons, List.drop_zero, List.take_succ_cons, List.take_zero, List.cons_append, List.nil_append, List.append_nil, List.drop_nil, List.take_nil, Nat.reduceAdd, Nat.reduceLeDiff, Nat.zero_add, Nat.add_zero, ↓reduceIte, Bool.not_true, Bool.not_false, decide_true, decide_false, eq_self, bne_self_eq_false, List.getElem?_cons_zero, List.getElem?_cons_succ, decide_eq_true_eq, Bool.false_eq_true, Bool.true_eq_false, reduceCtorEq, Nat.le_refl, g0]
              simp [Store.atE, e]
            · rw [e]
              have g0 : (i : Int) ≥ 0 := by omega
              simp only [run0, run1, run2, run3, run4, noSlot, memN, RO.dst, lk, drop, forget, number, Nat.reduceBEq, cut?, splice?, builds, List.length_cons, List.length_nil, List.drop_succ_cons, List.drop_zero, List.take_succ_cons, List.take_zero, List.cons_append, List.nil_append, List.append_nil, List.drop_nil, List.take_nil, Nat.reduceAdd, Nat.reduceLeDiff, Nat.zero_add, Nat.add_zero, ↓reduceIte, Bool.not_true, Bool.not_false, decide_true, decide_false, eq_self, bne_self_eq_false, List.getElem?_cons_zero, List.getElem?_cons_succ, decide_eq_true_eq, Bool.false_eq_true, Bool.true_eq_false, reduceCtorEq, Nat.le_refl, g0, hx, hl, Shard.cells]
              simp [Store.atE, e]
          · have hd : handHas s m = false := by rw [hdef]; simp [ht, c1, c2, c3]
            have d1 : (m.step == 1) = false := by simpa using c1
            have d2 : (m.step == 2) = false := by simpa using c2
            have d3 : (m.step == 0) = false := by simpa using c3
            rw [hd]
            simp only [run0, run1, run2, run3, run4, noSlot, memN, RO.dst, lk, drop, forget, number, Nat.reduceBEq, cut?, splice?, builds, List.length_cons, List.length_nil, List.drop_succ_cons, List.drop_zero, List.take_succ_cons, List.take_zero, List.cons_append, List.nil_append, List.append_nil, List.drop_nil, List.take_nil, Nat.reduceAdd, Nat.reduceLeDiff, Nat.zero_add, Nat.add_zero, ↓reduceIte, Bool.not_true, Bool.not_false, decide_true, decide_false, eq_self, bne_self_eq_false, List.getElem?_cons_zero, List.getElem?_cons_succ, decide_eq_true_eq, Bool.false_eq_true, Bool.true_eq_false, reduceCtorEq, Nat.le_refl, e1, ht, bne_self_eq_false, d1, d2, d3, e3]
    · have ht' : (s.group != m.to) = true := by simp; exact fun e => ht e.symm
      simp only [run0, run1, run2, run3, run4, noSlot, memN, RO.dst, lk, drop, forget, number, Nat.reduceBEq, cut?, splice?, builds, List.length_cons, List.length_nil, List.drop_succ_cons, List.drop_zero, List.take_succ_cons, List.take_zero, List.cons_append, List.nil_append, List.append_nil, List.drop_nil, List.take_nil, Nat.reduceAdd, Nat.reduceLeDiff, Nat.zero_add, Nat.add_zero, ↓reduceIte, Bool.not_true, Bool.not_false, decide_true, decide_false, eq_self, bne_self_eq_false, List.getElem?_cons_zero, List.getElem?_cons_succ, decide_eq_true_eq, Bool.false_eq_true, Bool.true_eq_false, reduceCtorEq, Nat.le_refl, e1, ht']
      rw [hdef]; simp [ht]
theorem HandHas_c (k : KI F) (hI15 : Has F tI15) (hL : Has F tLibslicesIndexFuncimplShardimplShard) (hf : h.floor ≤ h.next) (v : Store.RI h cs s fp) (u : HandMsg.RI h ms m fq) (ok : s.Ok) :
    ∃ h', call F Z 167 [.agg cs, .agg ms] h = some (.c (.bool (handHas s m)), h') ∧ On h h' := HandHas_run k hI15 hL v u ok
theorem sHandHas_c (k : KS F) (hS15 : Has F tS15) (hf : h.floor ≤ h.next) (v : Store.RI h cs s fp) (u : HandMsg.RI h ms m fq) (ok : s.Ok) :
    ∃ h', call F Z 166 [.agg cs, .agg ms] h = some (.c (.bool (handHas s m)), h') ∧ On h h' := ⟨h, sHandHas_run k hS15 v u ok, On.refl h⟩
end
end Go.Proofs.Ytlbagejkjkfkjaa.A
/- Copies of books and of shards. -/
namespace Go.Proofs.Ytlbagejkjkfkjaa.A
open Go
set_option linter.unusedSimpArgs false
set_option linter.unusedVariables false
theorem flatMap_one {α β : Type} (g : α → β) (xs : List α) : xs.flatMap (fun r => [g r]) = xs.map g := by
  induction xs with
  | nil => rfl
  | cons a r ih => rw [List.flatMap_cons, ih]; rfl
section
variable {F : Nat → Option RF} {Z : CallF} {h : Heap} {x : Cell} {xs : List Account} {fp fq : List Nat} {cs : List Cell} {t : Shard}
theorem copyBook_c (hI10 : Has F tI10) (hf : h.floor ≤ h.next) (w : SlR 11 (Fl Account.enc) h x xs fp) (sm : xs.length ≤ 1048576) : ∃ y h' fq, call F Z 260 [.agg [x]] h = some (.agg [y], h') ∧ On h h' ∧ SlR 11 (Fl Account.enc) h' y xs fq ∧ Fre h fq := by
  have a0 := Acc.lit0 (tag := 11) (On.refl h)
  have w' := w.on (Fl.ok _) (On.push h [])
  have ce := a0.cat_eq (bytes := 40) (y := x) (new := xs.map Account.enc) hf w'.isTag w'.rows (by simp; omega)
  have ac := a0.cat (new := xs.map Account.enc) hf (by simp; omega)
  simp only [List.nil_append] at ac
  obtain ⟨o, fq, u, f⟩ := ac.flat
  rw [call_run F Z (hI10.lk (g := 260) rfl) _ _ rfl]
  simp only [run0, run1, run2, run3, run4, noSlot, memN, RO.dst, lk, drop, forget, number, Nat.reduceBEq, cut?, splice?, builds, List.length_cons, List.length_nil, List.drop_succ_cons, List.drop_zero, List.take_succ_cons, List.take_zero, List.cons_append, List.nil_append, List.append_nil, List.drop_nil, List.take_nil, Nat.reduceAdd, Nat.reduceLeDiff, Nat.zero_add, Nat.add_zero, ↓reduceIte, Bool.not_true, Bool.not_false, decide_true, decide_false, eq_self, bne_self_eq_false, List.getElem?_cons_zero, List.getElem?_cons_succ, decide_eq_true_eq, Bool.false_eq_true, Bool.true_eq_false, reduceCtorEq, Nat.le_refl, List.replicate_zero, fills, ce]
  exact ⟨_, _, _, rfl, o, u, f⟩
theorem l10Copy_c (hS10 : Has F tS10) (hf : h.floor ≤ h.next) (w : SlR 11 (Fl Account.enc) h x xs fp) (sm : xs.length ≤ 1048576) : ∃ y h' fq, call F Z 259 [.agg [x]] h = some (.agg [y], h') ∧ On h h' ∧ SlR 11 (Fl Account.enc) h' y xs fq ∧ Fre h fq := by
  rw [call_run F Z (hS10.lk (g := 259) rfl) _ _ rfl]
  simp only [run0, run1, run2, run3, run4, noSlot, memN, RO.dst, lk, drop, forget, number, Nat.reduceBEq, cut?, splice?, builds, List.length_cons, List.length_nil, List.drop_succ_cons, List.drop_zero, List.take_succ_cons, List.take_zero, List.cons_append, List.nil_append, List.append_nil, List.drop_nil, List.take_nil, Nat.reduceAdd, Nat.reduceLeDiff, Nat.zero_add, Nat.add_zero, ↓reduceIte, Bool.not_true, Bool.not_false, decide_true, decide_false, eq_self, bne_self_eq_false, List.getElem?_cons_zero, List.getElem?_cons_succ, decide_eq_true_eq, Bool.false_eq_true, Bool.true_eq_false, reduceCtorEq, Nat.le_refl]
  obtain ⟨y1, h1, a1, l1⟩ := loop_acc (F := F) (Z := Z) (live := [1, 2, 3, 4]) (b := r259L0) xs (fun r => [r.enc]) 11 h (fun i y g => ⟨[(4, .c (.int .i64 (i : Nat)))], [(1, 1, 0), (2, 2, 0), (3, 3, 0)], [(1, [x]), (2, [.nil]), (3, [y])], g⟩) (fun r => by simp) (fun i hi y g rows a hr => by
    have e1 := a.one_eq hf (bytes := 40) (by omega)
    have a1 := a.one hf (by omega)
    have hlt : (i : Int) < xs.length := by omega
    have wg := w.on (Fl.ok _) a.on
    rw [loop_run]
    conv in (codeF _ _ r259L0 _) => unfold r259L0
    simp only [run0, run1, run2, run3, run4, noSlot, memN, RO.dst, lk, drop, forget, number, Nat.reduceBEq, cut?, splice?, builds, List.length_cons, List.length_nil, List.drop_succ_cons, List.drop_zero, List.take_succ_cons, List.take_zero, List.cons_append, List.nil_append, List.append_nil, List.drop_nil, List.take_nil, Nat.reduceAdd, Nat.reduceLeDiff, Nat.zero_add, Nat.add_zero, ↓reduceIte, Bool.not_true, Bool.not_false, decide_true, decide_false, eq_self, bne_self_eq_false, List.getElem?_cons_zero, List.getElem?_cons_succ, decide_eq_true_eq, Bool.false_eq_true, Bool.true_eq_false, reduceCtorEq, Nat.le_refl, w.len, hlt, w.idx hi, wg.load hi, Account.len, Account.tak, wrapS i (by omega), List.replicate_succ, List.replicate_zero, fills, and_self, Nat.zero_lt_one, List.set_cons_zero, e1]
    exact ⟨_, _, a1 _, rfl⟩) (Acc.nil 11 h)
  simp only [show ((0 : Nat) : Int) = 0 from rfl] at l1
  have hlt : ¬ (xs.length : Int) < xs.length := by omega
  rw [l1, loop_run]
  conv in (codeF _ _ r259L0 _) => unfold r259L0
  simp only [run0, run1, run2, run3, run4, noSlot, memN, RO.dst, lk, drop, forget, number, Nat.reduceBEq, cut?, splice?, builds, List.length_cons, List.length_nil, List.drop_succ_cons, List.drop_zero, List.take_succ_cons, List.take_zero, List.cons_append, List.nil_append, List.append_nil, List.drop_nil, List.take_nil, Nat.reduceAdd, Nat.reduceLeDiff, Nat.zero_add, Nat.add_zero, ↓reduceIte, Bool.not_true, Bool.not_false, decide_true, decide_false, eq_self, bne_self_eq_false, List.getElem?_cons_zero, List.getElem?_cons_succ, decide_eq_true_eq, Bool.false_eq_true, Bool.true_eq_false, reduceCtorEq, Nat.le_refl, w.len, hlt]
  rw [flatMap_one] at a1
  obtain ⟨o, fq, u, f⟩ := a1.flat
  exact ⟨_, _, _, rfl, o, u, f⟩
theorem copyShard_c (hI10 : Has F tI10) (hI13 : Has F tI13) (hf : h.floor ≤ h.next) (v : Shard.RI h cs t fp) (sm : t.Small) : ∃ cs' h' fq, call F Z 229 [.agg cs] h = some (.agg cs', h') ∧ On h h' ∧ Shard.RI h' cs' t fq ∧ Fre h fq := by
  obtain ⟨x, p, y, q, rfl, rfl, w, u⟩ := v
  obtain ⟨y1, h1, q1, e1, o1, u1, f1⟩ := copyBook_c (Z := Z) hI10 hf w sm.1
  have sm2 : t.finished.length ≤ 1048576 := sm.2
  have hf1 := o1.le hf
  have a0 := Acc.lit0 (tag := 9) (On.refl h1)
  have w' := (u.on (Fl.ok _) o1).on (Fl.ok _) (On.push h1 [])
  have ce := a0.cat_eq (bytes := 16) (y := y) (new := t.finished.map Fin.enc) hf1 w'.isTag w'.rows (by simp; omega)
  have ac := a0.cat (new := t.finished.map Fin.enc) hf1 (by simp; omega)
  simp only [List.nil_append] at ac
  obtain ⟨o, fq, u2, f⟩ := ac.flat
  rw [call_run F Z (hI13.lk (g := 229) rfl) _ _ rfl]
  simp only [run0, run1, run2, run3, run4, noSlot, memN, RO.dst, lk, drop, forget, number, Nat.reduceBEq, cut?, splice?, builds, List.length_cons, List.length_nil, List.drop_succ_cons, List.drop_zero, List.take_succ_cons, List.take_zero, List.cons_append, List.nil_append, List.append_nil, List.drop_nil, List.take_nil, Nat.reduceAdd, Nat.reduceLeDiff, Nat.zero_add, Nat.add_zero, ↓reduceIte, Bool.not_true, Bool.not_false, decide_true, decide_false, eq_self, bne_self_eq_false, List.getElem?_cons_zero, List.getElem?_cons_succ, decide_eq_true_eq, Bool.false_eq_true, Bool.true_eq_false, reduceCtorEq, Nat.le_refl, e1, List.replicate_zero, fills, ce]
  exact ⟨_, _, _, rfl, o1.trans o, ⟨_, _, _, _, rfl, rfl, u1.on (Fl.ok _) o, u2⟩, f1.app (u1.lt (Fl.ok _)) f o1.ext.1⟩
theorem l13CopyShard_c (hS10 : Has F tS10) (hS13 : Has F tS13) (hf : h.floor ≤ h.next) (v : Shard.RI h cs t fp) (sm : t.Small) : ∃ cs' h' fq, call F Z 228 [.agg cs] h = some (.agg cs', h') ∧ On h h' ∧ Shard.RI h' cs' t fq ∧ Fre h fq := by
  obtain ⟨x, p, y, q, rfl, rfl, w, u⟩ := v
  obtain ⟨y1, h1, q1, e1, o1, u1, f1⟩ := l10Copy_c (Z := Z) hS10 hf w sm.1
  have sm2 : t.finished.length ≤ 1048576 := sm.2
  have hf1 := o1.le hf
  rw [call_run F Z (hS13.lk (g := 228) rfl) _ _ rfl]
  simp only [run0, run1, run2, run3, run4, noSlot, memN, RO.dst, lk, drop, forget, number, Nat.reduceBEq, cut?, splice?, builds, List.length_cons, List.length_nil, List.drop_succ_cons, List.drop_zero, List.take_succ_cons, List.take_zero, List.cons_append, List.nil_append, List.append_nil, List.drop_nil, List.take_nil, Nat.reduceAdd, Nat.reduceLeDiff, Nat.zero_add, Nat.add_zero, ↓reduceIte, Bool.not_true, Bool.not_false, decide_true, decide_false, eq_self, bne_self_eq_false, List.getElem?_cons_zero, List.getElem?_cons_succ, decide_eq_true_eq, Bool.false_eq_true, Bool.true_eq_false, reduceCtorEq, Nat.le_refl, e1, List.replicate_zero, fills]
  obtain ⟨y2, h2, a2, l2⟩ := loop_acc (F := F) (Z := Z) (live := [1, 2, 3, 4]) (b := r228L0) t.finished (fun r => [r.enc]) 9 h1 (fun i z g => ⟨[(3, .c z), (4, .c (.int .i64 (i : Nat)))], [(1, 1, 0), (2, 2, 0)], [(1, [.int .u64 t.lo, .int .u64 t.hi, .int .i64 t.state, .int .i64 t.epoch, y1, y]), (2, [.int .u64 0, .int .u64 0, .int .i64 0, .int .i64 0, .nil, .nil])], g⟩) (fun r => by simp) (fun i hi z g rows a hr => by
    have e1 := a.one_eq hf1 (bytes := 16) (by omega)
    have a1 := a.one hf1 (by omega)
    have hlt : (i : Int) < t.finished.length := by omega
    have wg := (u.on (Fl.ok _) o1).on (Fl.ok _) a.on
    rw [loop_run]
    conv in (codeF _ _ r228L0 _) => unfold r228L0
    simp only [run0, run1, run2, run3, run4, noSlot, memN, RO.dst, lk, drop, forget, number, Nat.reduceBEq, cut?, splice?, builds, List.length_cons, List.length_nil, List.drop_succ_cons, List.drop_zero, List.take_succ_cons, List.take_zero, List.cons_append, List.nil_append, List.append_nil, List.drop_nil, List.take_nil, Nat.reduceAdd, Nat.reduceLeDiff, Nat.zero_add, Nat.add_zero, ↓reduceIte, Bool.not_true, Bool.not_false, decide_true, decide_false, eq_self, bne_self_eq_false, List.getElem?_cons_zero, List.getElem?_cons_succ, decide_eq_true_eq, Bool.false_eq_true, Bool.true_eq_false, reduceCtorEq, Nat.le_refl, u.len, hlt, u.idx hi, wg.load hi, Fin.len, Fin.tak, wrapS i (by omega), List.replicate_succ, List.replicate_zero, fills, and_self, Nat.zero_lt_one, List.set_cons_zero, e1]
    exact ⟨_, _, a1 _, rfl⟩) (Acc.lit0 (On.refl h1))
  simp only [show ((0 : Nat) : Int) = 0 from rfl] at l2
  have hlt : ¬ (t.finished.length : Int) < t.finished.length := by omega
  rw [l2, loop_run]
  conv in (codeF _ _ r228L0 _) => unfold r228L0
  simp only [run0, run1, run2, run3, run4, noSlot, memN, RO.dst, lk, drop, forget, number, Nat.reduceBEq, cut?, splice?, builds, List.length_cons, List.length_nil, List.drop_succ_cons, List.drop_zero, List.take_succ_cons, List.take_zero, List.cons_append, List.nil_append, List.append_nil, List.drop_nil, List.take_nil, Nat.reduceAdd, Nat.reduceLeDiff, Nat.zero_add, Nat.add_zero, ↓reduceIte, Bool.not_true, Bool.not_false, decide_true, decide_false, eq_self, bne_self_eq_false, List.getElem?_cons_zero, List.getElem?_cons_succ, decide_eq_true_eq, Bool.false_eq_true, Bool.true_eq_false, reduceCtorEq, Nat.le_refl, u.len, hlt]
  rw [flatMap_one] at a2
  obtain ⟨o, fq, u2, f⟩ := a2.flat
  exact ⟨_, _, _, rfl, o1.trans o, ⟨_, _, _, _, rfl, rfl, u1.on (Fl.ok _) o, u2⟩, f1.app (u1.lt (Fl.ok _)) f o1.ext.1⟩
theorem Shard.none_R (h : Heap) : Shard.RI h [.int .u64 0, .int .u64 0, .int .i64 0, .int .i64 0, .nil, .nil] Shard.none_ [] := ⟨.nil, [], .nil, [], rfl, rfl, SlR.nil _ _ _, SlR.nil _ _ _⟩
def exportShard (s : Store) (lo : Int) : Shard × Bool := bif s.good && decide (0 ≤ findAt s.shards lo 1) then (Shard.at_ s.shards (findAt s.shards lo 1).toNat, true) else (Shard.none_, false)
variable {s : Store}
theorem Store.at_small (sm : s.Small) {i : Nat} (hi : i < s.shards.length) : (Shard.at_ s.shards i).Small := by
  rw [Shard.at_get hi]
  exact sm.2 _ (List.getElem_mem hi)
theorem Store.at_ok (ok : s.Ok) {i : Nat} (hi : i < s.shards.length) : (Shard.at_ s.shards i).Ok := by
  rw [Shard.at_get hi]
  exact ok.shards _ (List.getElem_mem hi)
theorem exportShard_small {lo : Int} (sm : s.Small) : (exportShard s lo).1.Small := by
  unfold exportShard
  cases h : (s.good && decide (0 ≤ findAt s.shards lo 1)) with
  | false => exact ⟨show (0 : Nat) ≤ 1048576 by omega, show (0 : Nat) ≤ 1048576 by omega⟩
  | true =>
    simp only [Bool.and_eq_true, decide_eq_true_eq] at h
    obtain ⟨i, e, hi, _⟩ := findI_at h.2
    have e' : findAt s.shards lo 1 = (i : Int) := e
    simp only [cond_true, e', Int.toNat_natCast]
    exact Store.at_small sm hi
theorem SlR.atR {ys : List Shard} (w : SlR 16 Shard.RI h x ys fp) {i : Nat} (hi : i < ys.length) : ∃ r f, (∀ j n, loadP h x.sid i j n = cut? r j n) ∧ Shard.RI h r (Shard.at_ ys i) f ∧ ∀ id, id ∈ f → id ∈ fp := by
  rw [Shard.at_get hi]
  exact w.one hi
set_option maxHeartbeats 1000000 in
theorem ExportShard_c (k : KI F) (hL : Has F tLibslicesIndexFuncimplShardimplShard) (hf : h.floor ≤ h.next) (v : Store.RI h cs s fp) (lo : Int) (ok : s.Ok) (sm : s.Small) :
    ∃ cs' h' fq, call F Z 190 [.agg cs, .c (.int .u64 lo)] h = some (.tup [.agg cs', .c (.bool (exportShard s lo).2)], h') ∧ On h h' ∧ Shard.RI h' cs' (exportShard s lo).1 fq ∧ Fre h fq := by
  obtain ⟨h1, e1, o1⟩ := shardAt_on (Z := Z) k.i13 hL v lo 1
  have v1 := Store.okI.on v o1
  obtain ⟨h2, e2, o2⟩ := isStore_run (Z := Z) k v1 ok
  have v2 := Store.okI.on v1 o2
  have hf2 := (o1.trans o2).le hf
  obtain ⟨x, p, rfl, rfl, w⟩ := v2
  rw [call_run F Z (k.i13.lk (g := 190) rfl) _ _ rfl]
  have hdef : exportShard s lo = bif s.good && decide (0 ≤ findAt s.shards lo 1) then (Shard.at_ s.shards (findAt s.shards lo 1).toNat, true) else (Shard.none_, false) := rfl
  cases gd : s.good with
  | false =>
    rw [gd] at e2
    have hd : exportShard s lo = (Shard.none_, false) := by rw [hdef, gd]; rfl
    rw [hd]
    simp only [run0, run1, run2, run3, run4, noSlot, memN, RO.dst, lk, drop, forget, number, Nat.reduceBEq, cut?, splice?, builds, List.length_cons, List.length_nil, List.drop_succ_cons, List.drop_zero, List.take_succ_cons, List.take_zero, List.cons_append, List.nil_append, List.append_nil, List.drop_nil, List.take_nil, Nat.reduceAdd, Nat.reduceLeDiff, Nat.zero_add, Nat.add_zero, ↓reduceIte, Bool.not_true, Bool.not_false, decide_true, decide_false, eq_self, bne_self_eq_false, List.getElem?_cons_zero, List.getElem?_cons_succ, decide_eq_true_eq, Bool.false_eq_true, Bool.true_eq_false, reduceCtorEq, Nat.le_refl, e1, e2]
    exact ⟨_, _, _, rfl, o1.trans o2, Shard.none_R _, Fre.nil h⟩
  | true =>
    rw [gd] at e2
    rcases w.found (fun t => (t.lo == lo) && (t.state == 1)) with e | ⟨i, e, hi, _, hx, _⟩
    · change findAt s.shards lo 1 = -1 at e
      have hd : exportShard s lo = (Shard.none_, false) := by rw [hdef, gd, e]; rfl
      rw [hd]
      rw [e] at e1
      simp only [run0, run1, run2, run3, run4, noSlot, memN, RO.dst, lk, drop, forget, number, Nat.reduceBEq, cut?, splice?, builds, List.length_cons, List.length_nil, List.drop_succ_cons, List.drop_zero, List.take_succ_cons, List.take_zero, List.cons_append, List.nil_append, List.append_nil, List.drop_nil, List.take_nil, Nat.reduceAdd, Nat.reduceLeDiff, Nat.zero_add, Nat.add_zero, ↓reduceIte, Bool.not_true, Bool.not_false, decide_true, decide_false, eq_self, bne_self_eq_false, List.getElem?_cons_zero, List.getElem?_cons_succ, decide_eq_true_eq, Bool.false_eq_true, Bool.true_eq_false, reduceCtorEq, Nat.le_refl, e1, e2, Int.reduceLT, Int.reduceNeg]
      exact ⟨_, _, _, rfl, o1.trans o2, Shard.none_R _, Fre.nil h⟩
    · change findAt s.shards lo 1 = (i : Int) at e
      have hd : exportShard s lo = (Shard.at_ s.shards i, true) := by
        rw [hdef, gd, e]
        have : decide (0 ≤ (i : Int)) = true := by simp
        rw [this]; rfl
      rw [hd]
      rw [e] at e1
      obtain ⟨r, f, hl, hR, _⟩ := w.atR hi
      obtain ⟨cs', h3, fq, e3, o3, u3, f3⟩ := copyShard_c (Z := Z) k.i10 k.i13 hf2 hR (Store.at_small sm hi)
      obtain ⟨r1, r2, r3⟩ := Shard.lenI hR
      obtain ⟨c1, c2, c3⟩ := Shard.lenI u3
      have g0 : ¬ (i : Int) < 0 := by omega
      simp only [run0, run1, run2, run3, run4, noSlot, memN, RO.dst, lk, drop, forget, number, Nat.reduceBEq, cut?, splice?, builds, List.length_cons, List.length_nil, List.drop_succ_cons, List.drop_zero, List.take_succ_cons, List.take_zero, List.cons_append, List.nil_append, List.append_nil, List.drop_nil, List.take_nil, Nat.reduceAdd, Nat.reduceLeDiff, Nat.zero_add, Nat.add_zero, ↓reduceIte, Bool.not_true, Bool.not_false, decide_true, decide_false, eq_self, bne_self_eq_false, List.getElem?_cons_zero, List.getElem?_cons_succ, decide_eq_true_eq, Bool.false_eq_true, Bool.true_eq_false, reduceCtorEq, Nat.le_refl, e1, e2, g0, hx, hl, r1, r2, r3, e3, c1, c2, c3]
      exact ⟨_, _, _, rfl, (o1.trans o2).trans o3, u3, ⟨fun id hid => Nat.le_trans (o1.trans o2).ext.1 (f3.lo id hid), f3.nd⟩⟩
set_option maxHeartbeats 1000000 in
theorem sExportShard_c (k : KS F) (hf : h.floor ≤ h.next) (v : Store.RI h cs s fp) (lo : Int) (ok : s.Ok) (sm : s.Small) :
    ∃ cs' h' fq, call F Z 189 [.agg cs, .c (.int .u64 lo)] h = some (.tup [.agg cs', .c (.bool (exportShard s lo).2)], h') ∧ On h h' ∧ Shard.RI h' cs' (exportShard s lo).1 fq ∧ Fre h fq := by
  have e1 := l13At_run (Z := Z) k.s13 v lo 1
  have e2 := sStoreOk_run (Z := Z) k v ok
  obtain ⟨x, p, rfl, rfl, w⟩ := v
  rw [call_run F Z (k.s13.lk (g := 189) rfl) _ _ rfl]
  have hdef : exportShard s lo = bif s.good && decide (0 ≤ findAt s.shards lo 1) then (Shard.at_ s.shards (findAt s.shards lo 1).toNat, true) else (Shard.none_, false) := rfl
  cases gd : s.good with
  | false =>
    rw [gd] at e2
    have hd : exportShard s lo = (Shard.none_, false) := by rw [hdef, gd]; rfl
    rw [hd]
    simp only [run0, run1, run2, run3, run4, noSlot, memN, RO.dst, lk, drop, forget, number, Nat.reduceBEq, cut?, splice?, builds, List.length_cons, List.length_nil, List.drop_succ_cons, List.drop_zero, List.take_succ_cons, List.take_zero, List.cons_append, List.nil_append, List.append_nil, List.drop_nil, List.take_nil, Nat.reduceAdd, Nat.reduceLeDiff, Nat.zero_add, Nat.add_zero, ↓reduceIte, Bool.not_true, Bool.not_false, decide_true, decide_false, eq_self, bne_self_eq_false, List.getElem?_cons_zero, List.getElem?_cons_succ, decide_eq_true_eq, Bool.false_eq_true, Bool.true_eq_false, reduceCtorEq, Nat.le_refl, e1, e2]
    exact ⟨_, _, _, rfl, On.refl h, Shard.none_R _, Fre.nil h⟩
  | true =>
    rw [gd] at e2
    rcases w.found (fun t => (t.lo == lo) && (t.state == 1)) with e | ⟨i, e, hi, _, hx, _⟩
    · change findAt s.shards lo 1 = -1 at e
      have hd : exportShard s lo = (Shard.none_, false) := by rw [hdef, gd, e]; rfl
      rw [hd]
      rw [e] at e1
      simp only [run0, run1, run2, run3, run4, noSlot, memN, RO.dst, lk, drop, forget, number, Nat.reduceBEq, cut?, splice?, builds, List.length_cons, List.length_nil, List.drop_succ_cons, List.drop_zero, List.take_succ_cons, List.take_zero, List.cons_append, List.nil_append, List.append_nil, List.drop_nil, List.take_nil, Nat.reduceAdd, Nat.reduceLeDiff, Nat.zero_add, Nat.add_zero, ↓reduceIte, Bool.not_true, Bool.not_false, decide_true, decide_false, eq_self, bne_self_eq_false, List.getElem?_cons_zero, List.getElem?_cons_succ, decide_eq_true_eq, Bool.false_eq_true, Bool.true_eq_false, reduceCtorEq, Nat.le_refl, e1, e2, Int.reduceLT, Int.reduceNeg]
      exact ⟨_, _, _, rfl, On.refl h, Shard.none_R _, Fre.nil h⟩
    · change findAt s.shards lo 1 = (i : Int) at e
      have hd : exportShard s lo = (Shard.at_ s.shards i, true) := by
        rw [hdef, gd, e]
        have : decide (0 ≤ (i : Int)) = true := by simp
        rw [this]; rfl
      rw [hd]
      rw [e] at e1
      obtain ⟨r, f, hl, hR, _⟩ := w.atR hi
      obtain ⟨cs', h3, fq, e3, o3, u3, f3⟩ := l13CopyShard_c (Z := Z) k.s10 k.s13 hf hR (Store.at_small sm hi)
      obtain ⟨r1, r2, r3⟩ := Shard.lenI hR
      obtain ⟨c1, c2, c3⟩ := Shard.lenI u3
      have g0 : ¬ (i : Int) < 0 := by omega
      simp only [run0, run1, run2, run3, run4, noSlot, memN, RO.dst, lk, drop, forget, number, Nat.reduceBEq, cut?, splice?, builds, List.length_cons, List.length_nil, List.drop_succ_cons, List.drop_zero, List.take_succ_cons, List.take_zero, List.cons_append, List.nil_append, List.append_nil, List.drop_nil, List.take_nil, Nat.reduceAdd, Nat.reduceLeDiff, Nat.zero_add, Nat.add_zero, ↓reduceIte, Bool.not_true, Bool.not_false, decide_true, decide_false, eq_self, bne_self_eq_false, List.getElem?_cons_zero, List.getElem?_cons_succ, decide_eq_true_eq, Bool.false_eq_true, Bool.true_eq_false, reduceCtorEq, Nat.le_refl, e1, e2, g0, hx, hl, r1, r2, r3, e3, c1, c2, c3]
      exact ⟨_, _, _, rfl, o3, u3, f3⟩
end
end Go.Proofs.Ytlbagejkjkfkjaa.A
/- Slices of data with memory: built by appending, and with one row turned. -/
namespace Go.Proofs.Ytlbagejkjkfkjaa.A
open Go
set_option linter.unusedSimpArgs false
set_option linter.unusedVariables false
theorem push_ne {h : Heap} (r : List (List Cell)) {id : Nat} (hid : id ≠ h.next) : (h.push r).get id = h.get id := by simp only [Heap.push]; rw [if_neg hid]
theorem kill_ne {h : Heap} {k id : Nat} (hid : id ≠ k) : (h.kill k).get id = h.get id := by simp only [Heap.kill]; rw [if_neg hid]
theorem put_ne {h : Heap} {k id : Nat} (r : List (List Cell)) (hid : id ≠ k) : (h.put k r).get id = h.get id := by simp only [Heap.put]; rw [if_neg hid]
theorem kill_next (h : Heap) (k : Nat) : (h.kill k).next = h.next := rfl
/-- A cell shows data that was made behind h0. -/
structure AccM {α : Type} (R : Rel α) (tag : Nat) (h0 h : Heap) (x : Cell) (xs : List α) (fp : List Nat) : Prop where
  on : On h0 h
  sh : SlR tag R h x xs fp
  fr : Fre h0 fp
section
variable {α : Type} {R : Rel α} {tag : Nat} {h0 h g : Heap} {x : Cell} {xs : List α} {fp fq : List Nat}
theorem AccM.nil (R : Rel α) (tag : Nat) (h : Heap) : AccM R tag h h .nil [] [] := ⟨On.refl h, SlR.nil _ _ _, Fre.nil h⟩
theorem AccM.none (R : Rel α) (tag : Nat) (o : On h0 h) : AccM R tag h0 h .nil [] [] := ⟨o, SlR.nil _ _ _, Fre.nil h0⟩
theorem AccM.lit0 (R : Rel α) (tag : Nat) (o : On h0 h) : AccM R tag h0 (h.push []) (.sl tag h.next 0 0) [] [h.next] :=
  ⟨o.trans (On.push h []), ⟨by simp, .inr ⟨h.next, [], [], rfl, push_get _ _, by rw [push_next]; omega, rfl, trivial⟩⟩, Fre.at o.ext.1⟩
theorem AccM.go (a : AccM R tag h0 h x xs fp) (ok : RelOk R) (o : On h g) : AccM R tag h0 g x xs fp := ⟨a.on.trans o, a.sh.on ok o, a.fr⟩
theorem Fre.gt (f : Fre h0 fp) : ∀ id, id < h0.next → id ∉ fp := fun id h1 h2 => by have := f.lo id h2; omega
theorem Fre.sep {p q : List Nat} (f : Fre h0 p) (hp : ∀ id, id ∈ p → id < h.next) (g : Fre h q) : ∀ id, id ∈ q → id ∉ p := fun id h1 h2 => by
  have := hp id h2
  have := g.lo id h1
  omega
theorem flat_snoc {fps : List (List Nat)} {fq : List Nat} : (fps ++ [fq]).flatten = fps.flatten ++ fq := by simp
/-- One more element. -/
theorem AccM.one (ok : RelOk R) (a : AccM R tag h0 h x xs fp) (hf : h0.floor ≤ h0.next) {bytes : Nat} (hb : (xs.length + 1) * bytes ≤ 140737488355328) (hl : xs.length + 1 ≤ 140737488355328)
    (o : On h g) {cs : List Cell} {t : α} (v : R g cs t fq) (f : Fre h0 fq) (d : ∀ id, id ∈ fq → id ∉ fp) :
    ∃ y' g' fp', appF (g.push [cs]) tag bytes x (.sl tag g.next 0 1) = some (y', g') ∧ AccM R tag h0 g' y' (xs ++ [t]) fp' ∧ h.next ≤ g'.next ∧ (∀ id, id ∈ fp' → id ∈ fp ∨ id ∈ fq ∨ g.next ≤ id) ∧ (∀ id, id < g.next → id ∉ fp → g'.get id = g.get id) := by
  have on' := a.on.trans o
  have hlt : ∀ id, id ∈ fq → id < g.next := ok.lt v
  have hp1 : ∀ id, id < g.next → (g.push [cs]).get id = g.get id := fun id hid => by simp only [Heap.push]; rw [if_neg (by omega)]
  have hn := o.ext.1
  rcases a.sh with ⟨_, ⟨rfl, rfl, rfl⟩ | ⟨id, rows, fps, rfl, q1, q2, rfl, q3⟩⟩
  · refine ⟨.sl tag (g.next + 1) 0 1, (g.push [cs]).push [cs], (g.next + 1) :: ([fq] : List (List Nat)).flatten, ?_, ⟨on'.trans ((On.push _ _).trans (On.push _ _)), ⟨by simp [maxLen], .inr ⟨g.next + 1, [cs], [fq], rfl, ?_, ?_, rfl, ?_⟩⟩, ⟨?_, ?_⟩⟩, ?_, ?_, ?_⟩
    · simp only [List.length_nil, Nat.zero_add] at hb
      simp only [appF, isTag, beq_self_eq_true, ↓reduceIte, rowsOf, push_get, Option.bind_some, List.length_singleton, Nat.zero_add, Nat.le_refl, List.drop_zero, List.take_one, List.head?_cons, Option.toList_some]
      rw [if_neg (by omega), if_pos (by omega)]; rfl
    · exact push_get _ _
    · simp only [push_next]; omega
    · refine ⟨ok.mv v (by simp only [push_next]; omega) fun id hid => ?_, trivial⟩
      have := hlt id hid
      rw [push_ne _ (by rw [push_next]; omega), push_ne _ (by omega)]
    · intro id hid
      simp only [List.flatten_cons, List.flatten_nil, List.append_nil, List.mem_cons] at hid
      rcases hid with rfl | hid
      · have := on'.ext.1; omega
      · exact f.lo id hid
    · simp only [List.flatten_cons, List.flatten_nil, List.append_nil, List.nodup_cons]
      exact ⟨fun hc => by have := hlt _ hc; omega, f.nd⟩
    · simp only [push_next]; omega
    · intro id hid
      simp only [List.flatten_cons, List.flatten_nil, List.append_nil, List.mem_cons] at hid
      rcases hid with rfl | hid
      · exact .inr (.inr (by omega))
      · exact .inr (.inl hid)
    · intro id h1 _
      rw [push_ne _ (by rw [push_next]; omega), push_ne _ (by omega)]
  · have hlo : h0.next ≤ id := a.fr.lo id (by simp)
    have hnd := List.nodup_cons.1 a.fr.nd
    have hrl := q3.len
    have hg : (g.push [cs]).get id = some rows := by rw [hp1 id (by omega), o.ext.2 id q2, q1]
    have hfl : g.floor ≤ id := by rw [on'.fl]; omega
    have hin : ∀ j, j ∈ fps.flatten → j < h.next := q3.lt ok
    have hgt : ∀ j, j < g.next → j ≠ id → (((g.push [cs]).kill id).push (rows ++ [cs])).get j = g.get j := fun j h1 h2 => by
      rw [push_ne _ (by rw [kill_next, push_next]; omega), kill_ne h2, push_ne _ (by omega)]
    refine ⟨.sl tag (g.next + 1) 0 (xs.length + 1), ((g.push [cs]).kill id).push (rows ++ [cs]), (g.next + 1) :: (fps ++ [fq]).flatten, ?_, ⟨⟨⟨?_, ?_⟩, ?_⟩, ⟨by simp [maxLen]; omega, .inr ⟨g.next + 1, rows ++ [cs], fps ++ [fq], by simp, ?_, ?_, rfl, ?_⟩⟩, ⟨?_, ?_⟩⟩, ?_, ?_, ?_⟩
    · simp only [appF, isTag, beq_self_eq_true, ↓reduceIte, rowsOf, push_get, Option.bind_some, List.length_singleton, Nat.zero_add, Nat.le_refl, List.drop_zero, List.take_one, List.head?_cons, Option.toList_some, hg]
      simp only [hrl, push_floor, hfl, hb, and_self, ↓reduceIte]; rfl
    · have := on'.ext.1
      simp only [Heap.push, Heap.kill]; omega
    · intro j hj
      have := on'.ext.1
      rw [hgt j (by omega) (by omega)]
      exact on'.ext.2 j hj
    · exact on'.fl
    · simp [Heap.push, Heap.kill]
    · simp only [Heap.push, Heap.kill]; omega
    · refine AllR.snoc (q3.mv (h' := ((g.push [cs]).kill id).push (rows ++ [cs])) ok (by simp only [Heap.push, Heap.kill]; omega) fun j hj => ?_) (ok.mv v (by simp only [Heap.push, Heap.kill]; omega) fun j hj => ?_)
      · have h1 := hin j hj
        rw [hgt j (by omega) (fun e => hnd.1 (e ▸ hj))]
        exact o.ext.2 j h1
      · exact hgt j (hlt j hj) fun e => d j hj (by rw [e]; simp)
    · intro j hj
      rw [flat_snoc] at hj
      rcases List.mem_cons.1 hj with rfl | hj
      · have := on'.ext.1; omega
      · rcases List.mem_append.1 hj with hj | hj
        · exact a.fr.lo j (by simp [hj])
        · exact f.lo j hj
    · rw [flat_snoc, List.nodup_cons]
      refine ⟨fun hc => ?_, List.nodup_append.2 ⟨hnd.2, f.nd, fun p hp q hq e => d q hq (by rw [← e]; simp [hp])⟩⟩
      rcases List.mem_append.1 hc with hc | hc
      · have := hin _ hc; omega
      · have := hlt _ hc; omega
    · simp only [Heap.push, Heap.kill]; omega
    · intro j hj
      rw [flat_snoc] at hj
      rcases List.mem_cons.1 hj with rfl | hj
      · exact .inr (.inr (by omega))
      · rcases List.mem_append.1 hj with hj | hj
        · exact .inl (by simp [hj])
        · exact .inr (.inl hj)
    · intro j h1 h2
      exact hgt j h1 fun e => h2 (by rw [e]; simp)
end
end Go.Proofs.Ytlbagejkjkfkjaa.A
