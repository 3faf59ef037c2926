/- The functions that the statement reaches, part 3: bodies and what they compute. No condition. -/
import Derived.Test.YtlfepembgjjejaaHCExactHolders2
import Derived.Test.YtlfepembgjjejaaA1
/- What the converters of slices of Shard compute. -/
namespace Go.Proofs.Ytlfepembgjjejaa.A
open Go
set_option linter.unusedSimpArgs false
set_option linter.unusedVariables false
def Shard.zeroC : List Cell := [.int .u64 0, .int .u64 0, .int .i64 0, .int .i64 0, .nil, .nil]
theorem Wf.isShardS' {h : Heap} {n : Nat} {a : List Cell} (w : Wf h (n + 6) shShardS a) : ∃ x xs fp, a = [x] ∧ SlR 20 Shard.RL h x xs fp ∧ ∀ t, t ∈ xs → t.Ok := by
  have hx : ∃ x, a = [x] := by rcases w with w | ⟨_, _, w, _⟩ <;> exact ⟨_, w⟩
  obtain ⟨x, rfl⟩ := hx
  obtain ⟨xs, fp, v, ok⟩ := SlR.ofWf (R := Shard.RL) (A := fun t => t.Ok) (fun r hr => by obtain ⟨t, fp, v, ok⟩ := Wf.isShard hr.2; exact ⟨t, fp, v, ok⟩) w
  exact ⟨x, xs, fp, rfl, v, ok⟩
section
variable {F : Nat → Option RF} {Z : CallF} {h : Heap} {x y : Cell} {xs ys : List Shard} {fp fq : List Nat}
theorem szShardS_c (hLShard : Has F tLShard) (hLBook : Has F tLBook) (hLAccount : Has F tLAccount) (hLFin : Has F tLFin) (w : SlR 20 Shard.RL h x xs fp) (left : Int) (h1 : 0 ≤ left) (h2 : left ≤ 1048576) : ∃ r, call F Z 203 [.c x, .c (.int .i64 left)] h = some (.c (.int .i64 r), h) ∧ r ≤ left ∧ (0 ≤ r → xs.length ≤ 1048576 ∧ ∀ a, a ∈ xs → a.Small) := by
  have hle := w.le2
  rw [call_run F Z (hLShard.lk (g := 203) rfl) _ _ rfl]
  simp only [run0, run1, run2, run3, run4, noSlot, memN, RO.dst, lk, drop, forget, number, Nat.reduceBEq, cut?, splice?, builds, List.length_cons, List.length_nil, List.drop_succ_cons, List.drop_zero, List.take_succ_cons, List.take_zero, List.cons_append, List.nil_append, List.append_nil, List.drop_nil, List.take_nil, Nat.reduceAdd, Nat.reduceLeDiff, Nat.zero_add, Nat.add_zero, ↓reduceIte, Bool.not_true, Bool.not_false, decide_true, decide_false, eq_self, bne_self_eq_false, List.getElem?_cons_zero, List.getElem?_cons_succ, decide_eq_true_eq, Bool.false_eq_true, Bool.true_eq_false, reduceCtorEq, Nat.le_refl, w.len, wrapI (left - xs.length) (by omega) (by omega)]
  by_cases n0 : left - xs.length < 0
  · simp only [run0, run1, run2, run3, run4, noSlot, memN, RO.dst, lk, drop, forget, number, Nat.reduceBEq, cut?, splice?, builds, List.length_cons, List.length_nil, List.drop_succ_cons, List.drop_zero, List.take_succ_cons, List.take_zero, List.cons_append, List.nil_append, List.append_nil, List.drop_nil, List.take_nil, Nat.reduceAdd, Nat.reduceLeDiff, Nat.zero_add, Nat.add_zero, ↓reduceIte, Bool.not_true, Bool.not_false, decide_true, decide_false, eq_self, bne_self_eq_false, List.getElem?_cons_zero, List.getElem?_cons_succ, decide_eq_true_eq, Bool.false_eq_true, Bool.true_eq_false, reduceCtorEq, Nat.le_refl, n0]
    exact ⟨_, rfl, by omega, by omega⟩
  simp only [run0, run1, run2, run3, run4, noSlot, memN, RO.dst, lk, drop, forget, number, Nat.reduceBEq, cut?, splice?, builds, List.length_cons, List.length_nil, List.drop_succ_cons, List.drop_zero, List.take_succ_cons, List.take_zero, List.cons_append, List.nil_append, List.append_nil, List.drop_nil, List.take_nil, Nat.reduceAdd, Nat.reduceLeDiff, Nat.zero_add, Nat.add_zero, ↓reduceIte, Bool.not_true, Bool.not_false, decide_true, decide_false, eq_self, bne_self_eq_false, List.getElem?_cons_zero, List.getElem?_cons_succ, decide_eq_true_eq, Bool.false_eq_true, Bool.true_eq_false, reduceCtorEq, Nat.le_refl, n0]
  rcases loop_rel (F := F) (Z := Z) (live := [0, 1, 5]) (b := r203L0) xs.length (fun i s => ∃ l, s = ⟨[(0, .c x), (1, .c (.int .i64 l)), (5, .c (.int .i64 (i : Nat)))], [], [], h⟩ ∧ 0 ≤ l ∧ l ≤ left ∧ ∀ a, a ∈ xs.take i → a.Small) (fun s => lk s.env 4 = some (.c (.int .i64 (-1))) ∧ s.hp = h) (fun i s hi ⟨l, hs, q1, q2, q3⟩ => by
    subst hs
    obtain ⟨r, f, hld, hr, _⟩ := w.one hi
    obtain ⟨l1, l2, l3⟩ := Shard.lenL hr
    obtain ⟨l', e, k1, k2⟩ := szShard_c (Z := Z) hLShard hLBook hLAccount hLFin hr l q1 (by omega)
    have hlt : (i : Int) < xs.length := by omega
    rw [loop_run]
    conv in (codeF _ _ r203L0 _) => unfold r203L0
    simp only [run0, run1, run2, run3, run4, noSlot, memN, RO.dst, lk, drop, forget, number, Nat.reduceBEq, cut?, splice?, builds, List.length_cons, List.length_nil, List.drop_succ_cons, List.drop_zero, List.take_succ_cons, List.take_zero, List.cons_append, List.nil_append, List.append_nil, List.drop_nil, List.take_nil, Nat.reduceAdd, Nat.reduceLeDiff, Nat.zero_add, Nat.add_zero, ↓reduceIte, Bool.not_true, Bool.not_false, decide_true, decide_false, eq_self, bne_self_eq_false, List.getElem?_cons_zero, List.getElem?_cons_succ, decide_eq_true_eq, Bool.false_eq_true, Bool.true_eq_false, reduceCtorEq, Nat.le_refl, w.len, hlt, w.idx hi, hld, l1, l2, e]
    by_cases n1 : l' < 0
    · simp only [run0, run1, run2, run3, run4, noSlot, memN, RO.dst, lk, drop, forget, number, Nat.reduceBEq, cut?, splice?, builds, List.length_cons, List.length_nil, List.drop_succ_cons, List.drop_zero, List.take_succ_cons, List.take_zero, List.cons_append, List.nil_append, List.append_nil, List.drop_nil, List.take_nil, Nat.reduceAdd, Nat.reduceLeDiff, Nat.zero_add, Nat.add_zero, ↓reduceIte, Bool.not_true, Bool.not_false, decide_true, decide_false, eq_self, bne_self_eq_false, List.getElem?_cons_zero, List.getElem?_cons_succ, decide_eq_true_eq, Bool.false_eq_true, Bool.true_eq_false, reduceCtorEq, Nat.le_refl, n1]
      exact Or.inr ⟨_, rfl, rfl, rfl⟩
    · simp only [run0, run1, run2, run3, run4, noSlot, memN, RO.dst, lk, drop, forget, number, Nat.reduceBEq, cut?, splice?, builds, List.length_cons, List.length_nil, List.drop_succ_cons, List.drop_zero, List.take_succ_cons, List.take_zero, List.cons_append, List.nil_append, List.append_nil, List.drop_nil, List.take_nil, Nat.reduceAdd, Nat.reduceLeDiff, Nat.zero_add, Nat.add_zero, ↓reduceIte, Bool.not_true, Bool.not_false, decide_true, decide_false, eq_self, bne_self_eq_false, List.getElem?_cons_zero, List.getElem?_cons_succ, decide_eq_true_eq, Bool.false_eq_true, Bool.true_eq_false, reduceCtorEq, Nat.le_refl, n1, wrapS i (by omega)]
      refine Or.inl ⟨_, ⟨l', rfl, by omega, by omega, fun a ha => ?_⟩, rfl⟩
      rw [List.take_add_one, List.getElem?_eq_getElem hi] at ha
      rcases List.mem_append.1 ha with ha | ha
      · exact q3 a ha
      · simp at ha; subst ha; exact k2 (by omega)) (s := ⟨[(0, .c x), (1, .c (.int .i64 (left - xs.length))), (5, .c (.int .i64 (0 : Nat)))], [], [], h⟩) ⟨_, rfl, by omega, by omega, fun a ha => by simp at ha⟩ with ⟨s', ⟨l, hs', q1, q2, q3⟩, l1⟩ | ⟨s', l1, q1, q2⟩
  · subst hs'
    simp only [show ((0 : Nat) : Int) = 0 from rfl] at l1
    rw [l1, loop_run]
    conv in (codeF _ _ r203L0 _) => unfold r203L0
    have hlt : ¬ (xs.length : Int) < xs.length := by omega
    simp only [run0, run1, run2, run3, run4, noSlot, memN, RO.dst, lk, drop, forget, number, Nat.reduceBEq, cut?, splice?, builds, List.length_cons, List.length_nil, List.drop_succ_cons, List.drop_zero, List.take_succ_cons, List.take_zero, List.cons_append, List.nil_append, List.append_nil, List.drop_nil, List.take_nil, Nat.reduceAdd, Nat.reduceLeDiff, Nat.zero_add, Nat.add_zero, ↓reduceIte, Bool.not_true, Bool.not_false, decide_true, decide_false, eq_self, bne_self_eq_false, List.getElem?_cons_zero, List.getElem?_cons_succ, decide_eq_true_eq, Bool.false_eq_true, Bool.true_eq_false, reduceCtorEq, Nat.le_refl, w.len, hlt]
    rw [List.take_length] at q3
    exact ⟨_, rfl, by omega, fun _ => ⟨by omega, q3⟩⟩
  · simp only [show ((0 : Nat) : Int) = 0 from rfl] at l1
    rw [l1]
    simp only [run0, run1, run2, run3, run4, noSlot, memN, RO.dst, lk, drop, forget, number, Nat.reduceBEq, cut?, splice?, builds, List.length_cons, List.length_nil, List.drop_succ_cons, List.drop_zero, List.take_succ_cons, List.take_zero, List.cons_append, List.nil_append, List.append_nil, List.drop_nil, List.take_nil, Nat.reduceAdd, Nat.reduceLeDiff, Nat.zero_add, Nat.add_zero, ↓reduceIte, Bool.not_true, Bool.not_false, decide_true, decide_false, eq_self, bne_self_eq_false, List.getElem?_cons_zero, List.getElem?_cons_succ, decide_eq_true_eq, Bool.false_eq_true, Bool.true_eq_false, reduceCtorEq, Nat.le_refl, q1, q2]
    exact ⟨_, rfl, by omega, by omega⟩
theorem toShardS_c (hLShard : Has F tLShard) (hLBook : Has F tLBook) (hLAccount : Has F tLAccount) (hLFin : Has F tLFin) (hf : h.floor ≤ h.next) (w : SlR 20 Shard.RL h x xs fp) (sm : xs.length ≤ 1048576 ∧ ∀ a, a ∈ xs → a.Small) : ∃ y h' fq, call F Z 205 [.c x] h = some (.c y, h') ∧ On h h' ∧ SlR 16 Shard.RI h' y xs fq ∧ Fre h fq := by
  obtain ⟨hn, sm⟩ := sm
  rw [call_run F Z (hLShard.lk (g := 205) rfl) _ _ rfl]
  simp only [run0, run1, run2, run3, run4, noSlot, memN, RO.dst, lk, drop, forget, number, Nat.reduceBEq, cut?, splice?, builds, List.length_cons, List.length_nil, List.drop_succ_cons, List.drop_zero, List.take_succ_cons, List.take_zero, List.cons_append, List.nil_append, List.append_nil, List.drop_nil, List.take_nil, Nat.reduceAdd, Nat.reduceLeDiff, Nat.zero_add, Nat.add_zero, ↓reduceIte, Bool.not_true, Bool.not_false, decide_true, decide_false, eq_self, bne_self_eq_false, List.getElem?_cons_zero, List.getElem?_cons_succ, decide_eq_true_eq, Bool.false_eq_true, Bool.true_eq_false, reduceCtorEq, Nat.le_refl, w.len]
  rw [if_pos (by omega)]
  simp only [run0, run1, run2, run3, run4, noSlot, memN, RO.dst, lk, drop, forget, number, Nat.reduceBEq, cut?, splice?, builds, List.length_cons, List.length_nil, List.drop_succ_cons, List.drop_zero, List.take_succ_cons, List.take_zero, List.cons_append, List.nil_append, List.append_nil, List.drop_nil, List.take_nil, Nat.reduceAdd, Nat.reduceLeDiff, Nat.zero_add, Nat.add_zero, ↓reduceIte, Bool.not_true, Bool.not_false, decide_true, decide_false, eq_self, bne_self_eq_false, List.getElem?_cons_zero, List.getElem?_cons_succ, decide_eq_true_eq, Bool.false_eq_true, Bool.true_eq_false, reduceCtorEq, Nat.le_refl, Int.toNat_natCast]
  obtain ⟨s', ⟨g, rows, fps, hs', fl⟩, l1⟩ := loop_goes (F := F) (Z := Z) (live := [0, 3, 4]) (b := r205L0) xs.length (fun i s => ∃ g rows fps, s = ⟨[(0, .c x), (3, .c (.sl 16 h.next 0 xs.length)), (4, .c (.int .i64 (i : Nat)))], [], [], g⟩ ∧ Filled Shard.RI h g h.next Shard.zeroC xs i rows fps) (fun i s hi ⟨g, rows, fps, hs, fl⟩ => by
    subst hs
    have wg := w.mono Shard.okL fl.on.ext
    obtain ⟨r, f, hld, hr, _⟩ := wg.one hi
    obtain ⟨l1, l2, l3⟩ := Shard.lenL hr
    obtain ⟨cs', g', fq, e, o', v, fr⟩ := toShard_c (Z := Z) hLShard hLBook hLAccount hLFin (fl.on.le hf) hr (sm _ (List.getElem_mem hi))
    obtain ⟨vl, _, _⟩ := Shard.lenI v
    obtain ⟨st, fl'⟩ := fl.step Shard.okI hf hi vl o' v fr
    have hlt : (i : Int) < xs.length := by omega
    have h0 : (0 : Int) ≤ i := by omega
    rw [loop_run]
    conv in (codeF _ _ r205L0 _) => unfold r205L0
    simp only [run0, run1, run2, run3, run4, noSlot, memN, RO.dst, lk, drop, forget, number, Nat.reduceBEq, cut?, splice?, builds, List.length_cons, List.length_nil, List.drop_succ_cons, List.drop_zero, List.take_succ_cons, List.take_zero, List.cons_append, List.nil_append, List.append_nil, List.drop_nil, List.take_nil, Nat.reduceAdd, Nat.reduceLeDiff, Nat.zero_add, Nat.add_zero, ↓reduceIte, Bool.not_true, Bool.not_false, decide_true, decide_false, eq_self, bne_self_eq_false, List.getElem?_cons_zero, List.getElem?_cons_succ, decide_eq_true_eq, Bool.false_eq_true, Bool.true_eq_false, reduceCtorEq, Nat.le_refl, w.len, hlt, w.idx hi, hld, l1, l2, e, h0, and_self, Int.toNat_natCast, vl, st, wrapS i (by omega)]
    exact ⟨_, ⟨_, _, _, rfl, fl'⟩, rfl⟩) (s := ⟨[(0, .c x), (3, .c (.sl 16 h.next 0 xs.length)), (4, .c (.int .i64 (0 : Nat)))], [], [], h.push (List.replicate xs.length Shard.zeroC)⟩) ⟨_, _, _, rfl, Filled.start h Shard.zeroC xs⟩
  subst hs'
  simp only [show ((0 : Nat) : Int) = 0 from rfl, Shard.zeroC] at l1
  rw [l1, loop_run]
  conv in (codeF _ _ r205L0 _) => unfold r205L0
  have hlt : ¬ (xs.length : Int) < xs.length := by omega
  simp only [run0, run1, run2, run3, run4, noSlot, memN, RO.dst, lk, drop, forget, number, Nat.reduceBEq, cut?, splice?, builds, List.length_cons, List.length_nil, List.drop_succ_cons, List.drop_zero, List.take_succ_cons, List.take_zero, List.cons_append, List.nil_append, List.append_nil, List.drop_nil, List.take_nil, Nat.reduceAdd, Nat.reduceLeDiff, Nat.zero_add, Nat.add_zero, ↓reduceIte, Bool.not_true, Bool.not_false, decide_true, decide_false, eq_self, bne_self_eq_false, List.getElem?_cons_zero, List.getElem?_cons_succ, decide_eq_true_eq, Bool.false_eq_true, Bool.true_eq_false, reduceCtorEq, Nat.le_refl, w.len, hlt]
  obtain ⟨o, v, f⟩ := fl.all hn 16
  exact ⟨_, _, _, rfl, o, v, f⟩
theorem eqShardS_r (hLShard : Has F tLShard) (hLBook : Has F tLBook) (hLAccount : Has F tLAccount) (hLFin : Has F tLFin) (w : SlR 16 Shard.RI h x xs fp) (v : SlR 16 Shard.RI h y ys fq) : call F Z 207 [.c x, .c y] h = some (.c (.bool (decide (xs = ys))), h) := by
  have hw := w.le2
  have hv := v.le2
  rw [call_run F Z (hLShard.lk (g := 207) rfl) _ _ rfl]
  simp only [run0, run1, run2, run3, run4, noSlot, memN, RO.dst, lk, drop, forget, number, Nat.reduceBEq, cut?, splice?, builds, List.length_cons, List.length_nil, List.drop_succ_cons, List.drop_zero, List.take_succ_cons, List.take_zero, List.cons_append, List.nil_append, List.append_nil, List.drop_nil, List.take_nil, Nat.reduceAdd, Nat.reduceLeDiff, Nat.zero_add, Nat.add_zero, ↓reduceIte, Bool.not_true, Bool.not_false, decide_true, decide_false, eq_self, bne_self_eq_false, List.getElem?_cons_zero, List.getElem?_cons_succ, decide_eq_true_eq, Bool.false_eq_true, Bool.true_eq_false, reduceCtorEq, Nat.le_refl, w.len, v.len]
  rw [condC_if]
  split
  · rename_i hne
    have : xs ≠ ys := by rintro rfl; simp at hne
    simp only [run0, run1, run2, run3, run4, noSlot, memN, RO.dst, lk, drop, forget, number, Nat.reduceBEq, cut?, splice?, builds, List.length_cons, List.length_nil, List.drop_succ_cons, List.drop_zero, List.take_succ_cons, List.take_zero, List.cons_append, List.nil_append, List.append_nil, List.drop_nil, List.take_nil, Nat.reduceAdd, Nat.reduceLeDiff, Nat.zero_add, Nat.add_zero, ↓reduceIte, Bool.not_true, Bool.not_false, decide_true, decide_false, eq_self, bne_self_eq_false, List.getElem?_cons_zero, List.getElem?_cons_succ, decide_eq_true_eq, Bool.false_eq_true, Bool.true_eq_false, reduceCtorEq, Nat.le_refl, this]
  · rename_i he
    have he : xs.length = ys.length := by simp at he; omega
    simp only [run0, run1, run2, run3, run4, noSlot, memN, RO.dst, lk, drop, forget, number, Nat.reduceBEq, cut?, splice?, builds, List.length_cons, List.length_nil, List.drop_succ_cons, List.drop_zero, List.take_succ_cons, List.take_zero, List.cons_append, List.nil_append, List.append_nil, List.drop_nil, List.take_nil, Nat.reduceAdd, Nat.reduceLeDiff, Nat.zero_add, Nat.add_zero, ↓reduceIte, Bool.not_true, Bool.not_false, decide_true, decide_false, eq_self, bne_self_eq_false, List.getElem?_cons_zero, List.getElem?_cons_succ, decide_eq_true_eq, Bool.false_eq_true, Bool.true_eq_false, reduceCtorEq, Nat.le_refl]
    have key := loop_allN (F := F) (Z := Z) (live := [0, 1, 5]) (b := r207L0) xs.length (fun i => ⟨[(0, .c x), (1, .c y), (5, .c (.int .i64 (i : Nat)))], [], [], h⟩) (fun i => decide (xs[i]? = ys[i]?)) (fun s => lk s.env 4 = some (.c (.bool false)) ∧ s.hp = h) fun i hi => by
      have hi' : i < ys.length := by omega
      have hlt : (i : Int) < xs.length := by omega
      obtain ⟨r, f, hld, hr, _⟩ := w.one hi
      obtain ⟨r', f', hld', hr', _⟩ := v.one hi'
      obtain ⟨l1, l2, l3⟩ := Shard.lenI hr
      obtain ⟨l1', l2', l3'⟩ := Shard.lenI hr'
      have e := eqShard_r (Z := Z) (h := ⟨h.next, h.next, h.get⟩) hLShard hLBook hLAccount hLFin (Shard.okI.up hr _) (Shard.okI.up hr' _)
      rw [loop_run]
      conv in (codeF _ _ r207L0 _) => unfold r207L0
      simp only [run0, run1, run2, run3, run4, noSlot, memN, RO.dst, lk, drop, forget, number, Nat.reduceBEq, cut?, splice?, builds, List.length_cons, List.length_nil, List.drop_succ_cons, List.drop_zero, List.take_succ_cons, List.take_zero, List.cons_append, List.nil_append, List.append_nil, List.drop_nil, List.take_nil, Nat.reduceAdd, Nat.reduceLeDiff, Nat.zero_add, Nat.add_zero, ↓reduceIte, Bool.not_true, Bool.not_false, decide_true, decide_false, eq_self, bne_self_eq_false, List.getElem?_cons_zero, List.getElem?_cons_succ, decide_eq_true_eq, Bool.false_eq_true, Bool.true_eq_false, reduceCtorEq, Nat.le_refl, w.len, hlt, w.idx hi, v.idx hi', hld, hld', l1, l2, l1', l2', e, wrapS i (by omega)]
      rw [List.getElem?_eq_getElem hi, List.getElem?_eq_getElem hi']
      clear e hld hld' hr hr' l1 l2 l3 l1' l2' l3'
      (repeat' ((first | (rw [gF_if]; split) | (rw [condC_if]; split) | (rw [pickR_if]; split)) <;> (rename_i hh; (try simp only [Bool.not_eq_true, decide_eq_true_eq] at hh); simp only [hh, run0, run1, run2, run3, run4, noSlot, memN, RO.dst, lk, drop, forget, number, Nat.reduceBEq, cut?, splice?, builds, List.length_cons, List.length_nil, List.drop_succ_cons, List.drop_zero, List.take_succ_cons, List.take_zero, List.cons_append, List.nil_append, List.append_nil, List.drop_nil, List.take_nil, Nat.reduceAdd, Nat.reduceLeDiff, Nat.zero_add, Nat.add_zero, ↓reduceIte, Bool.not_true, Bool.not_false, decide_true, decide_false, eq_self, bne_self_eq_false, List.getElem?_cons_zero, List.getElem?_cons_succ, decide_eq_true_eq, Bool.false_eq_true, Bool.true_eq_false, reduceCtorEq, Nat.le_refl, wrapS i (by omega)])))
      · exact .inr ⟨by simp_all, _, rfl, rfl, rfl⟩
      · exact .inl ⟨by simp_all, rfl⟩
    rw [all_same he] at key
    rcases key with ⟨k1, k2⟩ | ⟨k1, s, k2, k3, k4⟩
    · simp only [show ((0 : Nat) : Int) = 0 from rfl] at k2
      rw [k2, loop_run]
      conv in (codeF _ _ r207L0 _) => unfold r207L0
      have hlt : ¬ (xs.length : Int) < xs.length := by omega
      simp only [run0, run1, run2, run3, run4, noSlot, memN, RO.dst, lk, drop, forget, number, Nat.reduceBEq, cut?, splice?, builds, List.length_cons, List.length_nil, List.drop_succ_cons, List.drop_zero, List.take_succ_cons, List.take_zero, List.cons_append, List.nil_append, List.append_nil, List.drop_nil, List.take_nil, Nat.reduceAdd, Nat.reduceLeDiff, Nat.zero_add, Nat.add_zero, ↓reduceIte, Bool.not_true, Bool.not_false, decide_true, decide_false, eq_self, bne_self_eq_false, List.getElem?_cons_zero, List.getElem?_cons_succ, decide_eq_true_eq, Bool.false_eq_true, Bool.true_eq_false, reduceCtorEq, Nat.le_refl, w.len, hlt, k1]
    · simp only [show ((0 : Nat) : Int) = 0 from rfl] at k2
      rw [k2]
      simp only [run0, run1, run2, run3, run4, noSlot, memN, RO.dst, lk, drop, forget, number, Nat.reduceBEq, cut?, splice?, builds, List.length_cons, List.length_nil, List.drop_succ_cons, List.drop_zero, List.take_succ_cons, List.take_zero, List.cons_append, List.nil_append, List.append_nil, List.drop_nil, List.take_nil, Nat.reduceAdd, Nat.reduceLeDiff, Nat.zero_add, Nat.add_zero, ↓reduceIte, Bool.not_true, Bool.not_false, decide_true, decide_false, eq_self, bne_self_eq_false, List.getElem?_cons_zero, List.getElem?_cons_succ, decide_eq_true_eq, Bool.false_eq_true, Bool.true_eq_false, reduceCtorEq, Nat.le_refl, k3, k4, k1]
end
end Go.Proofs.Ytlfepembgjjejaa.A
/- The data of a Store with its memory, and what its converters compute. -/
namespace Go.Proofs.Ytlfepembgjjejaa.A
open Go
set_option linter.unusedSimpArgs false
set_option linter.unusedVariables false
structure Store where
  group : Int
  seen : Int
  shards : List Shard
  deriving DecidableEq
def Store.RL : Rel Store := fun h cs t fp => ∃ x1 p1, cs = [.int .i64 t.group, .int .i64 t.seen, x1] ∧ fp = p1 ∧ SlR 20 (Shard.RL) h x1 t.shards p1
theorem Store.okL : RelOk Store.RL where
  lt := by
    rintro h cs t fp ⟨x1, p1, rfl, rfl, w1⟩ id hid
    exact w1.lt (Shard.okL) id hid
  mv := by
    rintro h h' cs t fp ⟨x1, p1, rfl, rfl, w1⟩ hn hg
    exact ⟨x1, _, rfl, rfl, w1.mv (Shard.okL) hn hg⟩
def Store.RI : Rel Store := fun h cs t fp => ∃ x1 p1, cs = [.int .i64 t.group, .int .i64 t.seen, x1] ∧ fp = p1 ∧ SlR 16 (Shard.RI) h x1 t.shards p1
theorem Store.okI : RelOk Store.RI where
  lt := by
    rintro h cs t fp ⟨x1, p1, rfl, rfl, w1⟩ id hid
    exact w1.lt (Shard.okI) id hid
  mv := by
    rintro h h' cs t fp ⟨x1, p1, rfl, rfl, w1⟩ hn hg
    exact ⟨x1, _, rfl, rfl, w1.mv (Shard.okI) hn hg⟩
theorem Store.lenL {h : Heap} {cs : List Cell} {t : Store} {fp : List Nat} (v : Store.RL h cs t fp) : cs.length = 3 ∧ cs.take 3 = cs ∧ cs.drop 3 = [] := by
  obtain ⟨x1, p1, rfl, _⟩ := v
  exact ⟨rfl, rfl, rfl⟩
theorem Store.lenI {h : Heap} {cs : List Cell} {t : Store} {fp : List Nat} (v : Store.RI h cs t fp) : cs.length = 3 ∧ cs.take 3 = cs ∧ cs.drop 3 = [] := by
  obtain ⟨x1, p1, rfl, _⟩ := v
  exact ⟨rfl, rfl, rfl⟩
namespace Store
/-- The numbers are those of the machine. -/
structure Ok (t : Store) : Prop where
  group : -9223372036854775808 ≤ t.group ∧ t.group ≤ 9223372036854775807
  seen : -9223372036854775808 ≤ t.seen ∧ t.seen ≤ 9223372036854775807
  shards : ∀ a, a ∈ t.shards → a.Ok
def Small (t : Store) : Prop := (t.shards.length ≤ 1048576 ∧ ∀ a, a ∈ t.shards → a.Small)
end Store
theorem Wf.isStore {h : Heap} {n : Nat} {cs : List Cell} (w : Wf h (n + 7) shStore cs) : ∃ t fp, Store.RL h cs t fp ∧ t.Ok := by
  obtain ⟨_, _, rfl, _, ⟨i1, rfl, j1⟩, _, _, rfl, _, ⟨i2, rfl, j2⟩, _, _, rfl, _, m3, rfl⟩ := w
  obtain ⟨x1, l1, p1, rfl, w1, o1⟩ := Wf.isShardS' m3
  exact ⟨⟨i1, i2, l1⟩, _, ⟨x1, _, rfl, rfl, w1⟩, ⟨wfI j1, wfI j2, o1⟩⟩
section
variable {F : Nat → Option RF} {Z : CallF} {h : Heap} {cs cs' : List Cell} {t u : Store} {fp fq : List Nat}
theorem szStore_c (hLStore : Has F tLStore) (hLShard : Has F tLShard) (hLBook : Has F tLBook) (hLAccount : Has F tLAccount) (hLFin : Has F tLFin) (v : Store.RL h cs t fp) (left : Int) (h1 : 0 ≤ left) (h2 : left ≤ 1048576) : ∃ r, call F Z 154 [.agg cs, .c (.int .i64 left)] h = some (.c (.int .i64 r), h) ∧ r ≤ left ∧ (0 ≤ r → t.Small) := by
  obtain ⟨x1, p1, rfl, rfl, w1⟩ := v
  rw [call_run F Z (hLStore.lk (g := 154) rfl) _ _ rfl]
  simp only [run0, run1, run2, run3, run4, noSlot, memN, RO.dst, lk, drop, forget, number, Nat.reduceBEq, cut?, splice?, builds, List.length_cons, List.length_nil, List.drop_succ_cons, List.drop_zero, List.take_succ_cons, List.take_zero, List.cons_append, List.nil_append, List.append_nil, List.drop_nil, List.take_nil, Nat.reduceAdd, Nat.reduceLeDiff, Nat.zero_add, Nat.add_zero, ↓reduceIte, Bool.not_true, Bool.not_false, decide_true, decide_false, eq_self, bne_self_eq_false, List.getElem?_cons_zero, List.getElem?_cons_succ, decide_eq_true_eq, Bool.false_eq_true, Bool.true_eq_false, reduceCtorEq, Nat.le_refl]
  obtain ⟨l0, s0, a0, b0⟩ := szShardS_c (Z := Z) hLShard hLBook hLAccount hLFin w1 left (by omega) (by omega)
  simp only [run0, run1, run2, run3, run4, noSlot, memN, RO.dst, lk, drop, forget, number, Nat.reduceBEq, cut?, splice?, builds, List.length_cons, List.length_nil, List.drop_succ_cons, List.drop_zero, List.take_succ_cons, List.take_zero, List.cons_append, List.nil_append, List.append_nil, List.drop_nil, List.take_nil, Nat.reduceAdd, Nat.reduceLeDiff, Nat.zero_add, Nat.add_zero, ↓reduceIte, Bool.not_true, Bool.not_false, decide_true, decide_false, eq_self, bne_self_eq_false, List.getElem?_cons_zero, List.getElem?_cons_succ, decide_eq_true_eq, Bool.false_eq_true, Bool.true_eq_false, reduceCtorEq, Nat.le_refl, s0]
  by_cases n0 : l0 < 0
  · simp only [run0, run1, run2, run3, run4, noSlot, memN, RO.dst, lk, drop, forget, number, Nat.reduceBEq, cut?, splice?, builds, List.length_cons, List.length_nil, List.drop_succ_cons, List.drop_zero, List.take_succ_cons, List.take_zero, List.cons_append, List.nil_append, List.append_nil, List.drop_nil, List.take_nil, Nat.reduceAdd, Nat.reduceLeDiff, Nat.zero_add, Nat.add_zero, ↓reduceIte, Bool.not_true, Bool.not_false, decide_true, decide_false, eq_self, bne_self_eq_false, List.getElem?_cons_zero, List.getElem?_cons_succ, decide_eq_true_eq, Bool.false_eq_true, Bool.true_eq_false, reduceCtorEq, Nat.le_refl, n0]
    exact ⟨_, rfl, by omega, by omega⟩
  simp only [run0, run1, run2, run3, run4, noSlot, memN, RO.dst, lk, drop, forget, number, Nat.reduceBEq, cut?, splice?, builds, List.length_cons, List.length_nil, List.drop_succ_cons, List.drop_zero, List.take_succ_cons, List.take_zero, List.cons_append, List.nil_append, List.append_nil, List.drop_nil, List.take_nil, Nat.reduceAdd, Nat.reduceLeDiff, Nat.zero_add, Nat.add_zero, ↓reduceIte, Bool.not_true, Bool.not_false, decide_true, decide_false, eq_self, bne_self_eq_false, List.getElem?_cons_zero, List.getElem?_cons_succ, decide_eq_true_eq, Bool.false_eq_true, Bool.true_eq_false, reduceCtorEq, Nat.le_refl, n0]
  exact ⟨_, rfl, by omega, fun _ => b0 (by omega)⟩
theorem toStore_c (hLStore : Has F tLStore) (hLShard : Has F tLShard) (hLBook : Has F tLBook) (hLAccount : Has F tLAccount) (hLFin : Has F tLFin) (hf : h.floor ≤ h.next) (v : Store.RL h cs t fp) (sm : t.Small) : ∃ cs' h' fq, call F Z 155 [.agg cs] h = some (.agg cs', h') ∧ On h h' ∧ Store.RI h' cs' t fq ∧ Fre h fq := by
  obtain ⟨x1, p1, rfl, rfl, w1⟩ := v
  have sm0 := sm
  obtain ⟨y1, g0, q1, e0, o0, u1, r0⟩ := toShardS_c (Z := Z) hLShard hLBook hLAccount hLFin hf w1 sm0
  rw [call_run F Z (hLStore.lk (g := 155) rfl) _ _ rfl]
  simp only [run0, run1, run2, run3, run4, noSlot, memN, RO.dst, lk, drop, forget, number, Nat.reduceBEq, cut?, splice?, builds, List.length_cons, List.length_nil, List.drop_succ_cons, List.drop_zero, List.take_succ_cons, List.take_zero, List.cons_append, List.nil_append, List.append_nil, List.drop_nil, List.take_nil, Nat.reduceAdd, Nat.reduceLeDiff, Nat.zero_add, Nat.add_zero, ↓reduceIte, Bool.not_true, Bool.not_false, decide_true, decide_false, eq_self, bne_self_eq_false, List.getElem?_cons_zero, List.getElem?_cons_succ, decide_eq_true_eq, Bool.false_eq_true, Bool.true_eq_false, reduceCtorEq, Nat.le_refl, e0]
  exact ⟨_, _, _, rfl, o0, ⟨y1, _, rfl, rfl, u1⟩, r0⟩
set_option maxHeartbeats 1000000 in
theorem eqStore_r (hLStore : Has F tLStore) (hLShard : Has F tLShard) (hLBook : Has F tLBook) (hLAccount : Has F tLAccount) (hLFin : Has F tLFin) (v : Store.RI h cs t fp) (v' : Store.RI h cs' u fq) : call F Z 158 [.agg cs, .agg cs'] h = some (.c (.bool (decide (t = u))), h) := by
  obtain ⟨x1, p1, rfl, rfl, w1⟩ := v
  obtain ⟨x1', p1', rfl, rfl, w1'⟩ := v'
  obtain ⟨group1, seen1, shards1⟩ := t
  obtain ⟨group2, seen2, shards2⟩ := u
  have e0 := eqShardS_r (Z := Z) hLShard hLBook hLAccount hLFin w1 w1'
  clear w1 w1'
  rw [call_run F Z (hLStore.lk (g := 158) rfl) _ _ rfl]
  simp only [run0, run1, run2, run3, run4, noSlot, memN, RO.dst, lk, drop, forget, number, Nat.reduceBEq, cut?, splice?, builds, List.length_cons, List.length_nil, List.drop_succ_cons, List.drop_zero, List.take_succ_cons, List.take_zero, List.cons_append, List.nil_append, List.append_nil, List.drop_nil, List.take_nil, Nat.reduceAdd, Nat.reduceLeDiff, Nat.zero_add, Nat.add_zero, ↓reduceIte, Bool.not_true, Bool.not_false, decide_true, decide_false, eq_self, bne_self_eq_false, List.getElem?_cons_zero, List.getElem?_cons_succ, decide_eq_true_eq, Bool.false_eq_true, Bool.true_eq_false, reduceCtorEq, Nat.le_refl, e0]
  (repeat' ((first | (rw [gF_if]; split) | (rw [condC_if]; split) | (rw [pickR_if]; split)) <;> (rename_i hh; (try simp only [Bool.not_eq_true, decide_eq_true_eq] at hh); simp only [hh, run0, run1, run2, run3, run4, noSlot, memN, RO.dst, lk, drop, forget, number, Nat.reduceBEq, cut?, splice?, builds, List.length_cons, List.length_nil, List.drop_succ_cons, List.drop_zero, List.take_succ_cons, List.take_zero, List.cons_append, List.nil_append, List.append_nil, List.drop_nil, List.take_nil, Nat.reduceAdd, Nat.reduceLeDiff, Nat.zero_add, Nat.add_zero, ↓reduceIte, Bool.not_true, Bool.not_false, decide_true, decide_false, eq_self, bne_self_eq_false, List.getElem?_cons_zero, List.getElem?_cons_succ, decide_eq_true_eq, Bool.false_eq_true, Bool.true_eq_false, reduceCtorEq, Nat.le_refl, e0]))) <;> clear e0 <;> refine fin_bool ?_ <;> simp_all <;> (try (intros; omega))
end
end Go.Proofs.Ytlfepembgjjejaa.A
/- Is a store right? -/
namespace Go.Proofs.Ytlfepembgjjejaa.A
open Go
set_option linter.unusedSimpArgs false
set_option linter.unusedVariables false
/-- The functions that the program's shards reach. -/
structure KI (F : Nat → Option RF) : Prop where
  i10 : Has F tI10
  i11 : Has F tI11
  i13 : Has F tI13
  c1 : Has F tLibcmpCompareint
  c2 : Has F tLibcmpCompareuint64
  c3 : Has F tLibcmpOrint
  c4 : Has F tLibcmpisNaNint
  c5 : Has F tLibcmpisNaNuint64
  li : Has F tLibslicesIndeximplFinimplFin
  lc : Has F tLibslicesContainsimplFinimplFin
/-- The functions that the reference's shards reach. -/
structure KS (F : Nat → Option RF) : Prop where
  s01 : Has F tS01d
  s10 : Has F tS10
  s13 : Has F tS13
def Shard.none_ : Shard := ⟨0, 0, 0, 0, ⟨[]⟩, []⟩
def Shard.at_ (xs : List Shard) (i : Nat) : Shard := xs[i]?.getD Shard.none_
theorem Shard.at_get {xs : List Shard} {i : Nat} (hi : i < xs.length) : Shard.at_ xs i = xs[i] := by simp [Shard.at_, List.getElem?_eq_getElem hi]
def Store.fits (s : Store) (i : Nat) : Bool := (Shard.at_ s.shards i).good && (decide ((Shard.at_ s.shards i).epoch ≤ s.seen) && (i == 0 || decide ((Shard.at_ s.shards (i - 1)).hi < (Shard.at_ s.shards i).lo)))
def Store.good (s : Store) : Bool := inR s.group 0 99 && (inR s.seen 0 1000000 && (decide ((s.shards.length : Int) ≤ 8) && (List.range s.shards.length).all s.fits))
section
variable {F : Nat → Option RF} {Z : CallF} {h : Heap} {cs : List Cell} {s : Store} {fp : List Nat} {x : Cell}
theorem isShard_q (k : KI F) {t : Shard} {cs : List Cell} {fp : List Nat} (v : Shard.RI h cs t fp) (ok : t.Ok) :
    ∃ h' g, call F Z 244 [.agg cs] ⟨h.next, h.next, h.get⟩ = some (.c (.bool t.good), h') ∧ Heap.mk h'.next h.floor h'.get = g ∧ On h g := by
  obtain ⟨h', e, o⟩ := isShard_run (Z := Z) k.i10 k.i13 k.c1 k.c2 k.c3 k.c4 k.c5 k.li k.lc (Shard.okI.up v h.next) ok
  exact quietly e o
set_option maxHeartbeats 4000000 in
theorem isStore_turn (k : KI F) (w : SlR 16 Shard.RI h x s.shards fp) (ok : ∀ a, a ∈ s.shards → a.Ok) (i : Nat) (hi : i < s.shards.length) :
    TurnO (loop F Z [1, 26, 27, 28] r206L0 ⟨[(26, .c x), (27, .c (.int .i64 (s.shards.length : Nat))), (28, .c (.int .i64 (i : Nat)))], [(1, 1, 0)], [(1, [.int .i64 s.group, .int .i64 s.seen, x])], h⟩)
      (fun g => loop F Z [1, 26, 27, 28] r206L0 ⟨[(26, .c x), (27, .c (.int .i64 (s.shards.length : Nat))), (28, .c (.int .i64 ((i + 1 : Nat) : Int)))], [(1, 1, 0)], [(1, [.int .i64 s.group, .int .i64 s.seen, x])], g⟩)
      h (s.fits i) (fun s' => lk s'.env 2 = some (.c (.bool false))) := by
  have hle := w.le2
  have hlt : (i : Int) < s.shards.length := by omega
  have hws := wrapS i (by omega)
  have hxi := w.idx hi
  obtain ⟨r, f, hld, hR, _⟩ := w.one hi
  rw [← Shard.at_get hi] at hR
  have aok := ok _ (List.getElem_mem hi)
  rw [← Shard.at_get hi] at aok
  obtain ⟨h', g, hc, hg, og⟩ := isShard_q (Z := Z) k hR aok
  have hpre : 0 < i → IntKind.i64.wrap ((i : Int) - 1) = ((i - 1 : Nat) : Int) := fun hp => by rw [wrapI _ (by omega) (by omega)]; omega
  have hpi : 0 < i → idxR 16 (some x) (some ((i - 1 : Nat) : Int)) = some (.ptr x.sid (i - 1) 0) := fun hp => w.idx (by omega)
  have hpl : 0 < i → ∃ r', (∀ j n, loadP g x.sid (i - 1) j n = cut? r' j n) ∧ ∃ f', Shard.RI g r' (Shard.at_ s.shards (i - 1)) f' := fun hp => by
    obtain ⟨r', f', h1, h2, _⟩ := (w.on Shard.okI og).one (show i - 1 < s.shards.length by omega)
    rw [← Shard.at_get] at h2
    exact ⟨r', h1, f', h2⟩
  have hfit : s.fits i = ((Shard.at_ s.shards i).good && (decide ((Shard.at_ s.shards i).epoch ≤ s.seen) && (i == 0 || decide ((Shard.at_ s.shards (i - 1)).hi < (Shard.at_ s.shards i).lo)))) := rfl
  obtain ⟨x1, p1, x2, p2, rfl, _⟩ := hR
  clear w ok aok
  generalize s.fits i = fa at *
  generalize (Shard.at_ s.shards i).good = gd at *
  generalize Shard.at_ s.shards (i - 1) = pa at *
  generalize Shard.at_ s.shards i = a at *
  rw [loop_run]
  conv in (codeF _ _ r206L0 _) => unfold r206L0
  simp only [run0, run1, run2, run3, run4, noSlot, memN, RO.dst, lk, drop, forget, number, Nat.reduceBEq, cut?, splice?, builds, List.length_cons, List.length_nil, List.drop_succ_cons, List.drop_zero, List.take_succ_cons, List.take_zero, List.cons_append, List.nil_append, List.append_nil, List.drop_nil, List.take_nil, Nat.reduceAdd, Nat.reduceLeDiff, Nat.zero_add, Nat.add_zero, ↓reduceIte, Bool.not_true, Bool.not_false, decide_true, decide_false, eq_self, bne_self_eq_false, List.getElem?_cons_zero, List.getElem?_cons_succ, decide_eq_true_eq, Bool.false_eq_true, Bool.true_eq_false, reduceCtorEq, Nat.le_refl, hlt, hxi, hld]
  cases gd with
  | false =>
    simp only [run0, run1, run2, run3, run4, noSlot, memN, RO.dst, lk, drop, forget, number, Nat.reduceBEq, cut?, splice?, builds, List.length_cons, List.length_nil, List.drop_succ_cons, List.drop_zero, List.take_succ_cons, List.take_zero, List.cons_append, List.nil_append, List.append_nil, List.drop_nil, List.take_nil, Nat.reduceAdd, Nat.reduceLeDiff, Nat.zero_add, Nat.add_zero, ↓reduceIte, Bool.not_true, Bool.not_false, decide_true, decide_false, eq_self, bne_self_eq_false, List.getElem?_cons_zero, List.getElem?_cons_succ, decide_eq_true_eq, Bool.false_eq_true, Bool.true_eq_false, reduceCtorEq, Nat.le_refl, hc, hg]
    exact .inr ⟨by simp_all, _, rfl, og, rfl⟩
  | true =>
    by_cases hp : 0 < i
    · have g1 : (i : Int) > 0 := by omega
      have hi0 : (i == 0) = false := by simp; omega
      have q1 := hpre hp
      have q2 := hpi hp
      obtain ⟨r', q3, f', y1, y2, y3, y4, rfl, _⟩ := hpl hp
      clear hxi hpre hpi hpl hld
      simp only [run0, run1, run2, run3, run4, noSlot, memN, RO.dst, lk, drop, forget, number, Nat.reduceBEq, cut?, splice?, builds, List.length_cons, List.length_nil, List.drop_succ_cons, List.drop_zero, List.take_succ_cons, List.take_zero, List.cons_append, List.nil_append, List.append_nil, List.drop_nil, List.take_nil, Nat.reduceAdd, Nat.reduceLeDiff, Nat.zero_add, Nat.add_zero, ↓reduceIte, Bool.not_true, Bool.not_false, decide_true, decide_false, eq_self, bne_self_eq_false, List.getElem?_cons_zero, List.getElem?_cons_succ, decide_eq_true_eq, Bool.false_eq_true, Bool.true_eq_false, reduceCtorEq, Nat.le_refl, hws, g1, q1, q2, q3, hc, hg]
      (repeat' ((first | (rw [gF_if]; split) | (rw [condC_if]; split) | (rw [pickR_if]; split)) <;> (rename_i hh; (try simp only [Bool.not_eq_true, decide_eq_true_eq] at hh); simp only [hh, run0, run1, run2, run3, run4, noSlot, memN, RO.dst, lk, drop, forget, number, Nat.reduceBEq, cut?, splice?, builds, List.length_cons, List.length_nil, List.drop_succ_cons, List.drop_zero, List.take_succ_cons, List.take_zero, List.cons_append, List.nil_append, List.append_nil, List.drop_nil, List.take_nil, Nat.reduceAdd, Nat.reduceLeDiff, Nat.zero_add, Nat.add_zero, ↓reduceIte, Bool.not_true, Bool.not_false, decide_true, decide_false, eq_self, bne_self_eq_false, List.getElem?_cons_zero, List.getElem?_cons_succ, decide_eq_true_eq, Bool.false_eq_true, Bool.true_eq_false, reduceCtorEq, Nat.le_refl, hws, g1, q1, q2, q3, hc, hg])))
      all_goals clear q2 q3 hc hg
      all_goals first
        | exact .inl ⟨by simp_all <;> omega, _, og, rfl⟩
        | exact .inr ⟨by simp_all <;> omega, _, rfl, og, rfl⟩
    · have g1 : ¬ (i : Int) > 0 := by omega
      have hi0 : (i == 0) = true := by simp; omega
      clear hxi hpre hpi hpl hld
      simp only [run0, run1, run2, run3, run4, noSlot, memN, RO.dst, lk, drop, forget, number, Nat.reduceBEq, cut?, splice?, builds, List.length_cons, List.length_nil, List.drop_succ_cons, List.drop_zero, List.take_succ_cons, List.take_zero, List.cons_append, List.nil_append, List.append_nil, List.drop_nil, List.take_nil, Nat.reduceAdd, Nat.reduceLeDiff, Nat.zero_add, Nat.add_zero, ↓reduceIte, Bool.not_true, Bool.not_false, decide_true, decide_false, eq_self, bne_self_eq_false, List.getElem?_cons_zero, List.getElem?_cons_succ, decide_eq_true_eq, Bool.false_eq_true, Bool.true_eq_false, reduceCtorEq, Nat.le_refl, hws, g1, hc, hg]
      (repeat' ((first | (rw [gF_if]; split) | (rw [condC_if]; split) | (rw [pickR_if]; split)) <;> (rename_i hh; (try simp only [Bool.not_eq_true, decide_eq_true_eq] at hh); simp only [hh, run0, run1, run2, run3, run4, noSlot, memN, RO.dst, lk, drop, forget, number, Nat.reduceBEq, cut?, splice?, builds, List.length_cons, List.length_nil, List.drop_succ_cons, List.drop_zero, List.take_succ_cons, List.take_zero, List.cons_append, List.nil_append, List.append_nil, List.drop_nil, List.take_nil, Nat.reduceAdd, Nat.reduceLeDiff, Nat.zero_add, Nat.add_zero, ↓reduceIte, Bool.not_true, Bool.not_false, decide_true, decide_false, eq_self, bne_self_eq_false, List.getElem?_cons_zero, List.getElem?_cons_succ, decide_eq_true_eq, Bool.false_eq_true, Bool.true_eq_false, reduceCtorEq, Nat.le_refl, hws, g1, hc, hg])))
      all_goals clear hc hg
      all_goals first
        | exact .inl ⟨by simp_all <;> omega, _, og, rfl⟩
        | exact .inr ⟨by simp_all <;> omega, _, rfl, og, rfl⟩
set_option maxHeartbeats 4000000 in
theorem isStore_run (k : KI F) (v : Store.RI h cs s fp) (ok : s.Ok) : ∃ h', call F Z 206 [.agg cs] h = some (.c (.bool s.good), h') ∧ On h h' := by
  obtain ⟨x, p, rfl, rfl, w⟩ := v
  have key := loop_on (F := F) (Z := Z) (live := [1, 26, 27, 28]) (b := r206L0) s.shards.length (fun i g => ⟨[(26, .c x), (27, .c (.int .i64 (s.shards.length : Nat))), (28, .c (.int .i64 (i : Nat)))], [(1, 1, 0)], [(1, [.int .i64 s.group, .int .i64 s.seen, x])], g⟩) h s.fits (fun s' => lk s'.env 2 = some (.c (.bool false)))
    fun i g hi og => isStore_turn k (w.on Shard.okI og) ok.shards i hi
  have l1 := w.len
  have n1 : ¬ (s.shards.length : Int) < s.shards.length := by omega
  clear w ok
  simp only [show ((0 : Nat) : Int) = 0 from rfl] at key
  have hg := isGroupId_run (Z := Z) k.i11
  have hgd : s.good = (inR s.group 0 99 && (inR s.seen 0 1000000 && (decide ((s.shards.length : Int) ≤ 8) && (List.range s.shards.length).all s.fits))) := rfl
  generalize s.good = sg at *
  generalize (List.range s.shards.length).all s.fits = al at *
  rw [call_run F Z (k.i13.lk (g := 206) rfl) _ _ rfl]
  simp only [run0, run1, run2, run3, run4, noSlot, memN, RO.dst, lk, drop, forget, number, Nat.reduceBEq, cut?, splice?, builds, List.length_cons, List.length_nil, List.drop_succ_cons, List.drop_zero, List.take_succ_cons, List.take_zero, List.cons_append, List.nil_append, List.append_nil, List.drop_nil, List.take_nil, Nat.reduceAdd, Nat.reduceLeDiff, Nat.zero_add, Nat.add_zero, ↓reduceIte, Bool.not_true, Bool.not_false, decide_true, decide_false, eq_self, bne_self_eq_false, List.getElem?_cons_zero, List.getElem?_cons_succ, decide_eq_true_eq, Bool.false_eq_true, Bool.true_eq_false, reduceCtorEq, Nat.le_refl, hg, l1]
  clear k
  (repeat' ((first | (rw [gF_if]; split) | (rw [condC_if]; split) | (rw [pickR_if]; split)) <;> (rename_i hh; (try simp only [Bool.not_eq_true, decide_eq_true_eq] at hh); simp only [hh, run0, run1, run2, run3, run4, noSlot, memN, RO.dst, lk, drop, forget, number, Nat.reduceBEq, cut?, splice?, builds, List.length_cons, List.length_nil, List.drop_succ_cons, List.drop_zero, List.take_succ_cons, List.take_zero, List.cons_append, List.nil_append, List.append_nil, List.drop_nil, List.take_nil, Nat.reduceAdd, Nat.reduceLeDiff, Nat.zero_add, Nat.add_zero, ↓reduceIte, Bool.not_true, Bool.not_false, decide_true, decide_false, eq_self, bne_self_eq_false, List.getElem?_cons_zero, List.getElem?_cons_succ, decide_eq_true_eq, Bool.false_eq_true, Bool.true_eq_false, reduceCtorEq, Nat.le_refl, hg, l1])))
  all_goals clear hg l1
  all_goals first
    | (refine ⟨_, ?_, On.refl h⟩; simp_all [inR]; done)
    | (refine ⟨_, ?_, On.refl h⟩; simp_all [inR]; omega)
    | (rcases key with ⟨a1, g, og, a2⟩ | ⟨a1, s', a2, og, a3⟩
       · dsimp only at a2
         rw [a2, loop_run]
         conv in (codeF _ _ r206L0 _) => unfold r206L0
         simp only [run0, run1, run2, run3, run4, noSlot, memN, RO.dst, lk, drop, forget, number, Nat.reduceBEq, cut?, splice?, builds, List.length_cons, List.length_nil, List.drop_succ_cons, List.drop_zero, List.take_succ_cons, List.take_zero, List.cons_append, List.nil_append, List.append_nil, List.drop_nil, List.take_nil, Nat.reduceAdd, Nat.reduceLeDiff, Nat.zero_add, Nat.add_zero, ↓reduceIte, Bool.not_true, Bool.not_false, decide_true, decide_false, eq_self, bne_self_eq_false, List.getElem?_cons_zero, List.getElem?_cons_succ, decide_eq_true_eq, Bool.false_eq_true, Bool.true_eq_false, reduceCtorEq, Nat.le_refl, n1]
         refine ⟨_, ?_, og⟩
         simp_all [inR] <;> omega
       · rw [a2]
         simp only [run0, run1, run2, run3, run4, noSlot, memN, RO.dst, lk, drop, forget, number, Nat.reduceBEq, cut?, splice?, builds, List.length_cons, List.length_nil, List.drop_succ_cons, List.drop_zero, List.take_succ_cons, List.take_zero, List.cons_append, List.nil_append, List.append_nil, List.drop_nil, List.take_nil, Nat.reduceAdd, Nat.reduceLeDiff, Nat.zero_add, Nat.add_zero, ↓reduceIte, Bool.not_true, Bool.not_false, decide_true, decide_false, eq_self, bne_self_eq_false, List.getElem?_cons_zero, List.getElem?_cons_succ, decide_eq_true_eq, Bool.false_eq_true, Bool.true_eq_false, reduceCtorEq, Nat.le_refl, a3]
         refine ⟨_, ?_, og⟩
         simp_all [inR] <;> omega)
end
end Go.Proofs.Ytlfepembgjjejaa.A
/- Is a store right, by the reference? -/
namespace Go.Proofs.Ytlfepembgjjejaa.A
open Go
set_option linter.unusedSimpArgs false
set_option linter.unusedVariables false
section
variable {F : Nat → Option RF} {Z : CallF} {h : Heap} {cs : List Cell} {s : Store} {fp : List Nat} {x : Cell}
theorem l13Shard_q (k : KS F) {t : Shard} {cs : List Cell} {fp : List Nat} (v : Shard.RI h cs t fp) (ok : t.Ok) :
    call F Z 204 [.agg cs] ⟨h.next, h.next, h.get⟩ = some (.c (.bool t.good), ⟨h.next, h.next, h.get⟩) := l13Shard_run (Z := Z) k.s01 k.s10 k.s13 (Shard.okI.up v h.next) ok
set_option maxHeartbeats 4000000 in
theorem sStoreOk_turn (k : KS F) (w : SlR 16 Shard.RI h x s.shards fp) (ok : ∀ a, a ∈ s.shards → a.Ok) (i : Nat) (hi : i < s.shards.length) :
    Turn (loop F Z [1, 3] r156L0 ⟨[(3, .c (.int .i64 (i : Nat)))], [(1, 1, 0)], [(1, [.int .i64 s.group, .int .i64 s.seen, x])], h⟩)
      (loop F Z [1, 3] r156L0 ⟨[(3, .c (.int .i64 ((i + 1 : Nat) : Int)))], [(1, 1, 0)], [(1, [.int .i64 s.group, .int .i64 s.seen, x])], h⟩)
      (s.fits i) (fun s' => lk s'.env 2 = some (.c (.bool false)) ∧ s'.hp = h) := by
  have hle := w.le2
  have hlt : (i : Int) < s.shards.length := by omega
  have hws := wrapS i (by omega)
  have hxi := w.idx hi
  have hwl := w.len
  obtain ⟨r, f, hld, hR, _⟩ := w.one hi
  rw [← Shard.at_get hi] at hR
  have aok := ok _ (List.getElem_mem hi)
  rw [← Shard.at_get hi] at aok
  have hc := l13Shard_q (Z := Z) k hR aok
  have hpre : 0 < i → IntKind.i64.wrap ((i : Int) - 1) = ((i - 1 : Nat) : Int) := fun hp => by rw [wrapI _ (by omega) (by omega)]; omega
  have hpi : 0 < i → idxR 16 (some x) (some ((i - 1 : Nat) : Int)) = some (.ptr x.sid (i - 1) 0) := fun hp => w.idx (by omega)
  have hpl : 0 < i → ∃ r', (∀ j n, loadP h x.sid (i - 1) j n = cut? r' j n) ∧ ∃ f', Shard.RI h r' (Shard.at_ s.shards (i - 1)) f' := fun hp => by
    obtain ⟨r', f', h1, h2, _⟩ := w.one (show i - 1 < s.shards.length by omega)
    rw [← Shard.at_get] at h2
    exact ⟨r', h1, f', h2⟩
  have hfit : s.fits i = ((Shard.at_ s.shards i).good && (decide ((Shard.at_ s.shards i).epoch ≤ s.seen) && (i == 0 || decide ((Shard.at_ s.shards (i - 1)).hi < (Shard.at_ s.shards i).lo)))) := rfl
  obtain ⟨x1, p1, x2, p2, rfl, _⟩ := hR
  clear w ok aok
  generalize s.fits i = fa at *
  generalize (Shard.at_ s.shards i).good = gd at *
  generalize Shard.at_ s.shards (i - 1) = pa at *
  generalize Shard.at_ s.shards i = a at *
  rw [loop_run]
  conv in (codeF _ _ r156L0 _) => unfold r156L0
  simp only [run0, run1, run2, run3, run4, noSlot, memN, RO.dst, lk, drop, forget, number, Nat.reduceBEq, cut?, splice?, builds, List.length_cons, List.length_nil, List.drop_succ_cons, List.drop_zero, List.take_succ_cons, List.take_zero, List.cons_append, List.nil_append, List.append_nil, List.drop_nil, List.take_nil, Nat.reduceAdd, Nat.reduceLeDiff, Nat.zero_add, Nat.add_zero, ↓reduceIte, Bool.not_true, Bool.not_false, decide_true, decide_false, eq_self, bne_self_eq_false, List.getElem?_cons_zero, List.getElem?_cons_succ, decide_eq_true_eq, Bool.false_eq_true, Bool.true_eq_false, reduceCtorEq, Nat.le_refl, hwl, hlt, hxi, hld]
  cases gd with
  | false =>
    simp only [run0, run1, run2, run3, run4, noSlot, memN, RO.dst, lk, drop, forget, number, Nat.reduceBEq, cut?, splice?, builds, List.length_cons, List.length_nil, List.drop_succ_cons, List.drop_zero, List.take_succ_cons, List.take_zero, List.cons_append, List.nil_append, List.append_nil, List.drop_nil, List.take_nil, Nat.reduceAdd, Nat.reduceLeDiff, Nat.zero_add, Nat.add_zero, ↓reduceIte, Bool.not_true, Bool.not_false, decide_true, decide_false, eq_self, bne_self_eq_false, List.getElem?_cons_zero, List.getElem?_cons_succ, decide_eq_true_eq, Bool.false_eq_true, Bool.true_eq_false, reduceCtorEq, Nat.le_refl, hc]
    exact .inr ⟨by simp_all, _, rfl, rfl, rfl⟩
  | true =>
    by_cases hp : 0 < i
    · have g1 : (i : Int) > 0 := by omega
      have hi0 : (i == 0) = false := by simp; omega
      have q1 := hpre hp
      have q2 := hpi hp
      obtain ⟨r', q3, f', y1, y2, y3, y4, rfl, _⟩ := hpl hp
      clear hxi hpre hpi hpl hld
      simp only [run0, run1, run2, run3, run4, noSlot, memN, RO.dst, lk, drop, forget, number, Nat.reduceBEq, cut?, splice?, builds, List.length_cons, List.length_nil, List.drop_succ_cons, List.drop_zero, List.take_succ_cons, List.take_zero, List.cons_append, List.nil_append, List.append_nil, List.drop_nil, List.take_nil, Nat.reduceAdd, Nat.reduceLeDiff, Nat.zero_add, Nat.add_zero, ↓reduceIte, Bool.not_true, Bool.not_false, decide_true, decide_false, eq_self, bne_self_eq_false, List.getElem?_cons_zero, List.getElem?_cons_succ, decide_eq_true_eq, Bool.false_eq_true, Bool.true_eq_false, reduceCtorEq, Nat.le_refl, hws, g1, q1, q2, q3, hc]
      (repeat' ((first | (rw [gF_if]; split) | (rw [condC_if]; split) | (rw [pickR_if]; split)) <;> (rename_i hh; (try simp only [Bool.not_eq_true, decide_eq_true_eq] at hh); simp only [hh, run0, run1, run2, run3, run4, noSlot, memN, RO.dst, lk, drop, forget, number, Nat.reduceBEq, cut?, splice?, builds, List.length_cons, List.length_nil, List.drop_succ_cons, List.drop_zero, List.take_succ_cons, List.take_zero, List.cons_append, List.nil_append, List.append_nil, List.drop_nil, List.take_nil, Nat.reduceAdd, Nat.reduceLeDiff, Nat.zero_add, Nat.add_zero, ↓reduceIte, Bool.not_true, Bool.not_false, decide_true, decide_false, eq_self, bne_self_eq_false, List.getElem?_cons_zero, List.getElem?_cons_succ, decide_eq_true_eq, Bool.false_eq_true, Bool.true_eq_false, reduceCtorEq, Nat.le_refl, hws, g1, q1, q2, q3, hc])))
      all_goals clear q2 q3 hc
      all_goals first
        | exact .inl ⟨by simp_all <;> omega, rfl⟩
        | exact .inr ⟨by simp_all <;> omega, _, rfl, rfl, rfl⟩
    · have g1 : ¬ (i : Int) > 0 := by omega
      have hi0 : (i == 0) = true := by simp; omega
      clear hxi hpre hpi hpl hld
      simp only [run0, run1, run2, run3, run4, noSlot, memN, RO.dst, lk, drop, forget, number, Nat.reduceBEq, cut?, splice?, builds, List.length_cons, List.length_nil, List.drop_succ_cons, List.drop_zero, List.take_succ_cons, List.take_zero, List.cons_append, List.nil_append, List.append_nil, List.drop_nil, List.take_nil, Nat.reduceAdd, Nat.reduceLeDiff, Nat.zero_add, Nat.add_zero, ↓reduceIte, Bool.not_true, Bool.not_false, decide_true, decide_false, eq_self, bne_self_eq_false, List.getElem?_cons_zero, List.getElem?_cons_succ, decide_eq_true_eq, Bool.false_eq_true, Bool.true_eq_false, reduceCtorEq, Nat.le_refl, hws, g1, hc]
      (repeat' ((first | (rw [gF_if]; split) | (rw [condC_if]; split) | (rw [pickR_if]; split)) <;> (rename_i hh; (try simp only [Bool.not_eq_true, decide_eq_true_eq] at hh); simp only [hh, run0, run1, run2, run3, run4, noSlot, memN, RO.dst, lk, drop, forget, number, Nat.reduceBEq, cut?, splice?, builds, List.length_cons, List.length_nil, List.drop_succ_cons, List.drop_zero, List.take_succ_cons, List.take_zero, List.cons_append, List.nil_append, List.append_nil, List.drop_nil, List.take_nil, Nat.reduceAdd, Nat.reduceLeDiff, Nat.zero_add, Nat.add_zero, ↓reduceIte, Bool.not_true, Bool.not_false, decide_true, decide_false, eq_self, bne_self_eq_false, List.getElem?_cons_zero, List.getElem?_cons_succ, decide_eq_true_eq, Bool.false_eq_true, Bool.true_eq_false, reduceCtorEq, Nat.le_refl, hws, g1, hc])))
      all_goals clear hc
      all_goals first
        | exact .inl ⟨by simp_all <;> omega, rfl⟩
        | exact .inr ⟨by simp_all <;> omega, _, rfl, rfl, rfl⟩
set_option maxHeartbeats 4000000 in
theorem sStoreOk_run (k : KS F) (v : Store.RI h cs s fp) (ok : s.Ok) : call F Z 156 [.agg cs] h = some (.c (.bool s.good), h) := by
  obtain ⟨x, p, rfl, rfl, w⟩ := v
  have key := loop_allN (F := F) (Z := Z) (live := [1, 3]) (b := r156L0) s.shards.length (fun i => ⟨[(3, .c (.int .i64 (i : Nat)))], [(1, 1, 0)], [(1, [.int .i64 s.group, .int .i64 s.seen, x])], h⟩) s.fits (fun s' => lk s'.env 2 = some (.c (.bool false)) ∧ s'.hp = h)
    fun i hi => sStoreOk_turn k w ok.shards i hi
  have l1 := w.len
  have n1 : ¬ (s.shards.length : Int) < s.shards.length := by omega
  clear w ok
  simp only [show ((0 : Nat) : Int) = 0 from rfl] at key
  have hg := fun n lo hi => l01In_run (Z := Z) k.s01 n lo hi h
  have hgd : s.good = (inR s.group 0 99 && (inR s.seen 0 1000000 && (decide ((s.shards.length : Int) ≤ 8) && (List.range s.shards.length).all s.fits))) := rfl
  generalize s.good = sg at *
  generalize (List.range s.shards.length).all s.fits = al at *
  rw [call_run F Z (k.s13.lk (g := 156) rfl) _ _ rfl]
  simp only [run0, run1, run2, run3, run4, noSlot, memN, RO.dst, lk, drop, forget, number, Nat.reduceBEq, cut?, splice?, builds, List.length_cons, List.length_nil, List.drop_succ_cons, List.drop_zero, List.take_succ_cons, List.take_zero, List.cons_append, List.nil_append, List.append_nil, List.drop_nil, List.take_nil, Nat.reduceAdd, Nat.reduceLeDiff, Nat.zero_add, Nat.add_zero, ↓reduceIte, Bool.not_true, Bool.not_false, decide_true, decide_false, eq_self, bne_self_eq_false, List.getElem?_cons_zero, List.getElem?_cons_succ, decide_eq_true_eq, Bool.false_eq_true, Bool.true_eq_false, reduceCtorEq, Nat.le_refl, hg, l1]
  clear k
  (repeat' ((first | (rw [gF_if]; split) | (rw [condC_if]; split) | (rw [pickR_if]; split)) <;> (rename_i hh; (try simp only [Bool.not_eq_true, decide_eq_true_eq] at hh); simp only [hh, run0, run1, run2, run3, run4, noSlot, memN, RO.dst, lk, drop, forget, number, Nat.reduceBEq, cut?, splice?, builds, List.length_cons, List.length_nil, List.drop_succ_cons, List.drop_zero, List.take_succ_cons, List.take_zero, List.cons_append, List.nil_append, List.append_nil, List.drop_nil, List.take_nil, Nat.reduceAdd, Nat.reduceLeDiff, Nat.zero_add, Nat.add_zero, ↓reduceIte, Bool.not_true, Bool.not_false, decide_true, decide_false, eq_self, bne_self_eq_false, List.getElem?_cons_zero, List.getElem?_cons_succ, decide_eq_true_eq, Bool.false_eq_true, Bool.true_eq_false, reduceCtorEq, Nat.le_refl, hg, l1])))
  all_goals clear hg
  all_goals first
    | (simp_all [inR] <;> omega)
    | (rcases key with ⟨a1, a2⟩ | ⟨a1, s', a2, a3, a4⟩
       · rw [a2, loop_run]
         conv in (codeF _ _ r156L0 _) => unfold r156L0
         simp only [run0, run1, run2, run3, run4, noSlot, memN, RO.dst, lk, drop, forget, number, Nat.reduceBEq, cut?, splice?, builds, List.length_cons, List.length_nil, List.drop_succ_cons, List.drop_zero, List.take_succ_cons, List.take_zero, List.cons_append, List.nil_append, List.append_nil, List.drop_nil, List.take_nil, Nat.reduceAdd, Nat.reduceLeDiff, Nat.zero_add, Nat.add_zero, ↓reduceIte, Bool.not_true, Bool.not_false, decide_true, decide_false, eq_self, bne_self_eq_false, List.getElem?_cons_zero, List.getElem?_cons_succ, decide_eq_true_eq, Bool.false_eq_true, Bool.true_eq_false, reduceCtorEq, Nat.le_refl, l1, n1]
         simp_all [inR] <;> omega
       · rw [a2]
         simp only [run0, run1, run2, run3, run4, noSlot, memN, RO.dst, lk, drop, forget, number, Nat.reduceBEq, cut?, splice?, builds, List.length_cons, List.length_nil, List.drop_succ_cons, List.drop_zero, List.take_succ_cons, List.take_zero, List.cons_append, List.nil_append, List.append_nil, List.drop_nil, List.take_nil, Nat.reduceAdd, Nat.reduceLeDiff, Nat.zero_add, Nat.add_zero, ↓reduceIte, Bool.not_true, Bool.not_false, decide_true, decide_false, eq_self, bne_self_eq_false, List.getElem?_cons_zero, List.getElem?_cons_succ, decide_eq_true_eq, Bool.false_eq_true, Bool.true_eq_false, reduceCtorEq, Nat.le_refl, a3, a4]
         simp_all [inR] <;> omega)
variable {c : Heap}
theorem StoreOk_c (k : KI F) (hf : h.floor ≤ h.next) (v : Store.RI h cs s fp) (ok : s.Ok) : ∃ h', call F Z 157 [.agg cs] h = some (.c (.bool s.good), h') ∧ On h h' := by
  obtain ⟨l1, l2, l3⟩ := Store.lenI v
  obtain ⟨h', e, o⟩ := isStore_run (Z := Z) k v ok
  refine ⟨h', ?_, o⟩
  rw [call_run F Z (k.i13.lk (g := 157) rfl) _ _ rfl]
  simp only [run0, run1, run2, run3, run4, noSlot, memN, RO.dst, lk, drop, forget, number, Nat.reduceBEq, cut?, splice?, builds, List.length_cons, List.length_nil, List.drop_succ_cons, List.drop_zero, List.take_succ_cons, List.take_zero, List.cons_append, List.nil_append, List.append_nil, List.drop_nil, List.take_nil, Nat.reduceAdd, Nat.reduceLeDiff, Nat.zero_add, Nat.add_zero, ↓reduceIte, Bool.not_true, Bool.not_false, decide_true, decide_false, eq_self, bne_self_eq_false, List.getElem?_cons_zero, List.getElem?_cons_succ, decide_eq_true_eq, Bool.false_eq_true, Bool.true_eq_false, reduceCtorEq, Nat.le_refl, l1, l2, l3, e]
theorem sStoreOk_c (k : KS F) (hf : h.floor ≤ h.next) (v : Store.RI h cs s fp) (ok : s.Ok) : ∃ h', call F Z 156 [.agg cs] h = some (.c (.bool s.good), h') ∧ On h h' := ⟨h, sStoreOk_run k v ok, On.refl h⟩
end
end Go.Proofs.Ytlfepembgjjejaa.A
/- Sums of money, in two words. -/
namespace Go.Proofs.Ytlfepembgjjejaa.A
open Go
set_option linter.unusedSimpArgs false
set_option linter.unusedVariables false
def sumI {α : Type} (f : α → Int) : List α → Int
  | [] => 0
  | a :: r => f a + sumI f r
section
variable {α : Type} (f : α → Int)
theorem sumI_app : ∀ (xs ys : List α), sumI f (xs ++ ys) = sumI f xs + sumI f ys
  | [], ys => by simp [sumI]
  | a :: r, ys => by
    simp only [List.cons_append, sumI, sumI_app r ys]; omega
theorem sumI_take (xs : List α) {i : Nat} (hi : i < xs.length) : sumI f (xs.take (i + 1)) = sumI f (xs.take i) + f xs[i] := by
  rw [List.take_add_one, List.getElem?_eq_getElem hi, sumI_app]
  simp [sumI]
theorem sumI_le {m : Int} : ∀ (xs : List α), (∀ a, a ∈ xs → 0 ≤ f a ∧ f a ≤ m) → 0 ≤ sumI f xs ∧ sumI f xs ≤ m * xs.length
  | [], _ => by simp [sumI]
  | a :: r, h => by
    have h1 := h a (by simp)
    have h2 := sumI_le r fun b hb => h b (by simp [hb])
    simp only [sumI, List.length_cons]
    constructor
    · omega
    · rw [Int.natCast_add, Int.mul_add]
      simp only [Int.natCast_one, Int.mul_one]
      omega
theorem sumI_take_le {m : Int} (hm : 0 ≤ m) (xs : List α) (h : ∀ a, a ∈ xs → 0 ≤ f a ∧ f a ≤ m) (i : Nat) : 0 ≤ sumI f (xs.take i) ∧ sumI f (xs.take i) ≤ m * xs.length := by
  have h1 := sumI_le f (m := m) (xs.take i) fun a ha => h a (List.mem_of_mem_take ha)
  have h2 : m * ((xs.take i).length : Int) ≤ m * (xs.length : Int) := Int.mul_le_mul_of_nonneg_left (by rw [List.length_take]; omega) hm
  exact ⟨h1.1, by omega⟩
end
def Account.money (a : Account) : Int := a.bal + a.hold
def moneyOf (xs : List Account) : Int := sumI Account.money xs
/-- The two words of a sum. -/
def wHi (t : Int) : Int := t / 18446744073709551616
def wLo (t : Int) : Int := t % 18446744073709551616
theorem Account.money_ok {xs : List Account} (hok : ∀ t, t ∈ xs → t.Ok) (hb : bookOk xs = true) : xs.length ≤ 40 ∧ ∀ a, a ∈ xs → 0 ≤ a.money ∧ a.money ≤ 18446744073709551615 := by
  simp only [bookOk, Bool.and_eq_true, List.all_eq_true, List.mem_range, decide_eq_true_eq] at hb
  refine ⟨by omega, fun a ha => ?_⟩
  obtain ⟨i, hi, rfl⟩ := List.mem_iff_getElem.1 ha
  have h1 := hb.1 i hi
  have o := hok _ ha
  have e1 : Account.at_ xs i = xs[i] := by simp [Account.at_, List.getElem?_eq_getElem hi]
  simp only [Account.fits, e1, Account.fine, Bool.and_eq_true, decide_eq_true_eq] at h1
  have b2 := o.bal
  have b3 := o.hold
  have b4 := o.due
  simp only [Account.money]
  omega
theorem moneyOf_le {xs : List Account} (hl : xs.length ≤ 40) (hm : ∀ a, a ∈ xs → 0 ≤ a.money ∧ a.money ≤ 18446744073709551615) : 0 ≤ moneyOf xs ∧ moneyOf xs ≤ 737869762948382064600 := by
  have := sumI_le Account.money xs hm
  simp only [moneyOf]
  omega
section
variable {F : Nat → Option RF} {Z : CallF} {h : Heap} {x : Cell} {xs : List Account} {fp : List Nat}
set_option maxHeartbeats 1000000 in
theorem totalOf_turn (w : SlR 11 (Fl Account.enc) h x xs fp) (hok : ∀ t, t ∈ xs → t.Ok) (hl : xs.length ≤ 40) (hm : ∀ a, a ∈ xs → 0 ≤ a.money ∧ a.money ≤ 18446744073709551615) (i : Nat) (hi : i < xs.length) :
    loop F Z [4, 5, 11, 12, 13] r209L0 ⟨[(4, .c (.int .u64 (wHi (moneyOf (xs.take i))))), (5, .c (.int .u64 (wLo (moneyOf (xs.take i))))), (11, .c x), (12, .c (.int .i64 (xs.length : Nat))), (13, .c (.int .i64 (i : Nat)))], [], [], h⟩
      = loop F Z [4, 5, 11, 12, 13] r209L0 ⟨[(4, .c (.int .u64 (wHi (moneyOf (xs.take (i + 1)))))), (5, .c (.int .u64 (wLo (moneyOf (xs.take (i + 1)))))), (11, .c x), (12, .c (.int .i64 (xs.length : Nat))), (13, .c (.int .i64 ((i + 1 : Nat) : Int)))], [], [], h⟩ := by
  have hle := w.le2
  have hlt : (i : Int) < xs.length := by omega
  have hws := wrapS i (by omega)
  have hxi := w.idx hi
  have hld := w.load hi
  have o1 := hok _ (List.getElem_mem hi)
  have m1 := hm _ (List.getElem_mem hi)
  have ht : moneyOf (xs.take (i + 1)) = moneyOf (xs.take i) + xs[i].money := sumI_take _ xs hi
  have hT := sumI_take_le Account.money (by omega) xs hm i
  change 0 ≤ moneyOf (xs.take i) ∧ moneyOf (xs.take i) ≤ _ at hT
  rw [ht]
  clear w hok hm ht
  generalize moneyOf (xs.take i) = T at *
  generalize xs[i] = a at *
  obtain ⟨id, bal, hold, due, tx⟩ := a
  obtain ⟨a1, a2, a3, a4, a5⟩ := o1
  dsimp only at a1 a2 a3 a4 a5
  simp only [Account.money] at m1 ⊢
  have e0 : IntKind.u64.wrap (bal + hold) = bal + hold := wrapU _ (by omega) (by omega)
  have e1 : (wLo T + (bal + hold) + 0) % 18446744073709551616 = wLo (T + (bal + hold)) := by simp only [wLo]; omega
  have e2 : IntKind.u64.wrap (wHi T + (wLo T + (bal + hold) + 0) / 18446744073709551616) = wHi (T + (bal + hold)) := by
    simp only [wHi, wLo]
    rw [wrapU _ (by omega) (by omega)]; omega
  have c1 : 0 ≤ wLo T := by simp only [wLo]; omega
  have c2 : 0 ≤ bal + hold := by omega
  have c3 : (0 : Int) ≤ 1 := by omega
  rw [loop_run]
  conv in (codeF _ _ r209L0 _) => unfold r209L0
  simp only [run0, run1, run2, run3, run4, noSlot, memN, RO.dst, lk, drop, forget, number, Nat.reduceBEq, cut?, splice?, builds, List.length_cons, List.length_nil, List.drop_succ_cons, List.drop_zero, List.take_succ_cons, List.take_zero, List.cons_append, List.nil_append, List.append_nil, List.drop_nil, List.take_nil, Nat.reduceAdd, Nat.reduceLeDiff, Nat.zero_add, Nat.add_zero, ↓reduceIte, Bool.not_true, Bool.not_false, decide_true, decide_false, eq_self, bne_self_eq_false, List.getElem?_cons_zero, List.getElem?_cons_succ, decide_eq_true_eq, Bool.false_eq_true, Bool.true_eq_false, reduceCtorEq, Nat.le_refl, hlt, hxi, hld, Account.enc, e0, e1, e2, c1, c2, c3, Int.le_refl, and_self, hws]
theorem totalOf_run (hI10 : Has F tI10) (w : SlR 11 (Fl Account.enc) h x xs fp) (hok : ∀ t, t ∈ xs → t.Ok) (hl : xs.length ≤ 40) (hm : ∀ a, a ∈ xs → 0 ≤ a.money ∧ a.money ≤ 18446744073709551615) :
    call F Z 209 [.agg [x]] h = some (.tup [.c (.int .u64 (wHi (moneyOf xs))), .c (.int .u64 (wLo (moneyOf xs)))], h) := by
  have key := loop_goesF (F := F) (Z := Z) (live := [4, 5, 11, 12, 13]) (b := r209L0) xs.length (fun i => ⟨[(4, .c (.int .u64 (wHi (moneyOf (xs.take i))))), (5, .c (.int .u64 (wLo (moneyOf (xs.take i))))), (11, .c x), (12, .c (.int .i64 (xs.length : Nat))), (13, .c (.int .i64 (i : Nat)))], [], [], h⟩)
    fun i hi => totalOf_turn w hok hl hm i hi
  have z1 : wHi (moneyOf (xs.take 0)) = 0 := rfl
  have z2 : wLo (moneyOf (xs.take 0)) = 0 := rfl
  simp only [show ((0 : Nat) : Int) = 0 from rfl, z1, z2, List.take_length] at key
  have hlt : ¬ (xs.length : Int) < xs.length := by omega
  have hwl := w.len
  rw [call_run F Z (hI10.lk (g := 209) rfl) _ _ rfl]
  simp only [run0, run1, run2, run3, run4, noSlot, memN, RO.dst, lk, drop, forget, number, Nat.reduceBEq, cut?, splice?, builds, List.length_cons, List.length_nil, List.drop_succ_cons, List.drop_zero, List.take_succ_cons, List.take_zero, List.cons_append, List.nil_append, List.append_nil, List.drop_nil, List.take_nil, Nat.reduceAdd, Nat.reduceLeDiff, Nat.zero_add, Nat.add_zero, ↓reduceIte, Bool.not_true, Bool.not_false, decide_true, decide_false, eq_self, bne_self_eq_false, List.getElem?_cons_zero, List.getElem?_cons_succ, decide_eq_true_eq, Bool.false_eq_true, Bool.true_eq_false, reduceCtorEq, Nat.le_refl, hwl, key]
  rw [loop_run]
  conv in (codeF _ _ r209L0 _) => unfold r209L0
  simp only [run0, run1, run2, run3, run4, noSlot, memN, RO.dst, lk, drop, forget, number, Nat.reduceBEq, cut?, splice?, builds, List.length_cons, List.length_nil, List.drop_succ_cons, List.drop_zero, List.take_succ_cons, List.take_zero, List.cons_append, List.nil_append, List.append_nil, List.drop_nil, List.take_nil, Nat.reduceAdd, Nat.reduceLeDiff, Nat.zero_add, Nat.add_zero, ↓reduceIte, Bool.not_true, Bool.not_false, decide_true, decide_false, eq_self, bne_self_eq_false, List.getElem?_cons_zero, List.getElem?_cons_succ, decide_eq_true_eq, Bool.false_eq_true, Bool.true_eq_false, reduceCtorEq, Nat.le_refl, hlt]
set_option maxHeartbeats 1000000 in
theorem sTotalOf_turn (w : SlR 11 (Fl Account.enc) h x xs fp) (hok : ∀ t, t ∈ xs → t.Ok) (hl : xs.length ≤ 40) (hm : ∀ a, a ∈ xs → 0 ≤ a.money ∧ a.money ≤ 18446744073709551615) (i : Nat) (hi : i < xs.length) :
    loop F Z [1, 4, 5, 6] r245L0 ⟨[(4, .c (.int .u64 (wHi (moneyOf (xs.take i))))), (5, .c (.int .u64 (wLo (moneyOf (xs.take i))))), (6, .c (.int .i64 (i : Nat)))], [(1, 1, 0)], [(1, [x])], h⟩
      = loop F Z [1, 4, 5, 6] r245L0 ⟨[(4, .c (.int .u64 (wHi (moneyOf (xs.take (i + 1)))))), (5, .c (.int .u64 (wLo (moneyOf (xs.take (i + 1)))))), (6, .c (.int .i64 ((i + 1 : Nat) : Int)))], [(1, 1, 0)], [(1, [x])], h⟩ := by
  have hle := w.le2
  have hlt : (i : Int) < xs.length := by omega
  have hws := wrapS i (by omega)
  have hxi := w.idx hi
  have hld := w.load hi
  have hwl := w.len
  have o1 := hok _ (List.getElem_mem hi)
  have m1 := hm _ (List.getElem_mem hi)
  have ht : moneyOf (xs.take (i + 1)) = moneyOf (xs.take i) + xs[i].money := sumI_take _ xs hi
  have hT := sumI_take_le Account.money (by omega) xs hm i
  change 0 ≤ moneyOf (xs.take i) ∧ moneyOf (xs.take i) ≤ _ at hT
  rw [ht]
  clear w hok hm ht
  generalize moneyOf (xs.take i) = T at *
  generalize xs[i] = a at *
  obtain ⟨id, bal, hold, due, tx⟩ := a
  obtain ⟨a1, a2, a3, a4, a5⟩ := o1
  dsimp only at a1 a2 a3 a4 a5
  simp only [Account.money] at m1 ⊢
  have e0 : IntKind.u64.wrap (bal + hold) = bal + hold := wrapU _ (by omega) (by omega)
  have e1 : IntKind.u64.wrap (wLo T + (bal + hold)) = wLo (T + (bal + hold)) := by
    show (wLo T + (bal + hold)) % 18446744073709551616 = _
    simp only [wLo]; omega
  have e3 : IntKind.u64.wrap (18446744073709551615 - wLo T) = 18446744073709551615 - wLo T := wrapU _ (by simp only [wLo]; omega) (by simp only [wLo]; omega)
  rw [loop_run]
  conv in (codeF _ _ r245L0 _) => unfold r245L0
  by_cases c : bal + hold > 18446744073709551615 - wLo T
  · have e2 : IntKind.u64.wrap (wHi T + 1) = wHi (T + (bal + hold)) := by
      simp only [wLo] at c
      simp only [wHi]
      rw [wrapU _ (by omega) (by omega)]; omega
    simp only [run0, run1, run2, run3, run4, noSlot, memN, RO.dst, lk, drop, forget, number, Nat.reduceBEq, cut?, splice?, builds, List.length_cons, List.length_nil, List.drop_succ_cons, List.drop_zero, List.take_succ_cons, List.take_zero, List.cons_append, List.nil_append, List.append_nil, List.drop_nil, List.take_nil, Nat.reduceAdd, Nat.reduceLeDiff, Nat.zero_add, Nat.add_zero, ↓reduceIte, Bool.not_true, Bool.not_false, decide_true, decide_false, eq_self, bne_self_eq_false, List.getElem?_cons_zero, List.getElem?_cons_succ, decide_eq_true_eq, Bool.false_eq_true, Bool.true_eq_false, reduceCtorEq, Nat.le_refl, hwl, hlt, hxi, hld, Account.enc, e0, e1, e2, e3, c, hws]
  · have e2 : wHi T = wHi (T + (bal + hold)) := by
      simp only [wLo] at c
      simp only [wHi]; omega
    simp only [run0, run1, run2, run3, run4, noSlot, memN, RO.dst, lk, drop, forget, number, Nat.reduceBEq, cut?, splice?, builds, List.length_cons, List.length_nil, List.drop_succ_cons, List.drop_zero, List.take_succ_cons, List.take_zero, List.cons_append, List.nil_append, List.append_nil, List.drop_nil, List.take_nil, Nat.reduceAdd, Nat.reduceLeDiff, Nat.zero_add, Nat.add_zero, ↓reduceIte, Bool.not_true, Bool.not_false, decide_true, decide_false, eq_self, bne_self_eq_false, List.getElem?_cons_zero, List.getElem?_cons_succ, decide_eq_true_eq, Bool.false_eq_true, Bool.true_eq_false, reduceCtorEq, Nat.le_refl, hwl, hlt, hxi, hld, Account.enc, e0, e1, e3, c, hws]
    rw [e2]
theorem sTotalOf_run (hS10 : Has F tS10) (w : SlR 11 (Fl Account.enc) h x xs fp) (hok : ∀ t, t ∈ xs → t.Ok) (hb : bookOk xs = true) :
    call F Z 245 [.agg [x]] h = some (.tup [.c (.int .u64 (wHi (moneyOf xs))), .c (.int .u64 (wLo (moneyOf xs)))], h) := by
  obtain ⟨hl, hm⟩ := Account.money_ok hok hb
  have hB := sBookOk_run (Z := Z) hS10 w hok
  rw [hb] at hB
  have key := loop_goesF (F := F) (Z := Z) (live := [1, 4, 5, 6]) (b := r245L0) xs.length (fun i => ⟨[(4, .c (.int .u64 (wHi (moneyOf (xs.take i))))), (5, .c (.int .u64 (wLo (moneyOf (xs.take i))))), (6, .c (.int .i64 (i : Nat)))], [(1, 1, 0)], [(1, [x])], h⟩)
    fun i hi => sTotalOf_turn w hok hl hm i hi
  have z1 : wHi (moneyOf (xs.take 0)) = 0 := rfl
  have z2 : wLo (moneyOf (xs.take 0)) = 0 := rfl
  simp only [show ((0 : Nat) : Int) = 0 from rfl, z1, z2, List.take_length] at key
  have hlt : ¬ (xs.length : Int) < xs.length := by omega
  have hwl := w.len
  rw [call_run F Z (hS10.lk (g := 245) rfl) _ _ rfl]
  simp only [run0, run1, run2, run3, run4, noSlot, memN, RO.dst, lk, drop, forget, number, Nat.reduceBEq, cut?, splice?, builds, List.length_cons, List.length_nil, List.drop_succ_cons, List.drop_zero, List.take_succ_cons, List.take_zero, List.cons_append, List.nil_append, List.append_nil, List.drop_nil, List.take_nil, Nat.reduceAdd, Nat.reduceLeDiff, Nat.zero_add, Nat.add_zero, ↓reduceIte, Bool.not_true, Bool.not_false, decide_true, decide_false, eq_self, bne_self_eq_false, List.getElem?_cons_zero, List.getElem?_cons_succ, decide_eq_true_eq, Bool.false_eq_true, Bool.true_eq_false, reduceCtorEq, Nat.le_refl, hB, key]
  rw [loop_run]
  conv in (codeF _ _ r245L0 _) => unfold r245L0
  simp only [run0, run1, run2, run3, run4, noSlot, memN, RO.dst, lk, drop, forget, number, Nat.reduceBEq, cut?, splice?, builds, List.length_cons, List.length_nil, List.drop_succ_cons, List.drop_zero, List.take_succ_cons, List.take_zero, List.cons_append, List.nil_append, List.append_nil, List.drop_nil, List.take_nil, Nat.reduceAdd, Nat.reduceLeDiff, Nat.zero_add, Nat.add_zero, ↓reduceIte, Bool.not_true, Bool.not_false, decide_true, decide_false, eq_self, bne_self_eq_false, List.getElem?_cons_zero, List.getElem?_cons_succ, decide_eq_true_eq, Bool.false_eq_true, Bool.true_eq_false, reduceCtorEq, Nat.le_refl, hwl, hlt]
end
end Go.Proofs.Ytlfepembgjjejaa.A
/- The sum of all money of a store. -/
namespace Go.Proofs.Ytlfepembgjjejaa.A
open Go
set_option linter.unusedSimpArgs false
set_option linter.unusedVariables false
def Shard.money (t : Shard) : Int := moneyOf t.book.list
def Store.money (s : Store) : Int := sumI Shard.money s.shards
def storeTotal (s : Store) : Int × Int := bif s.good then (wHi s.money, wLo s.money) else (0, 0)
theorem Shard.good_book {t : Shard} (h : t.good = true) : bookOk t.book.list = true := by
  simp only [Shard.good, Shard.head, Bool.and_eq_true] at h
  exact h.1.2.2.2.1
theorem Shard.money_le {t : Shard} (ok : t.Ok) (h : t.good = true) : 0 ≤ t.money ∧ t.money ≤ 737869762948382064600 := by
  obtain ⟨h1, h2⟩ := Account.money_ok ok.book.list (Shard.good_book h)
  exact moneyOf_le h1 h2
theorem Store.good_all {s : Store} (h : s.good = true) : s.shards.length ≤ 8 ∧ ∀ t, t ∈ s.shards → t.good = true := by
  simp only [Store.good, Bool.and_eq_true, List.all_eq_true, List.mem_range, decide_eq_true_eq] at h
  refine ⟨by omega, fun a ha => ?_⟩
  obtain ⟨i, hi, rfl⟩ := List.mem_iff_getElem.1 ha
  have h1 := h.2.2.2 i hi
  simp only [Store.fits, Bool.and_eq_true, Shard.at_get hi] at h1
  exact h1.1
section
variable {F : Nat → Option RF} {Z : CallF} {h : Heap} {cs : List Cell} {s : Store} {fp : List Nat} {x : Cell} {xs : List Shard}
/-- One more shard's money: what the program computes. -/
theorem StoreTotal_turn (k : KI F) (w : SlR 16 Shard.RI h x xs fp) (ok : ∀ a, a ∈ xs → a.Ok) (gd : ∀ a, a ∈ xs → a.good = true) (hl : xs.length ≤ 8) (i : Nat) (hi : i < xs.length) :
    loop F Z [4, 5, 16, 17, 18] r164L0 ⟨[(4, .c (.int .u64 (wHi (sumI Shard.money (xs.take i))))), (5, .c (.int .u64 (wLo (sumI Shard.money (xs.take i))))), (16, .c x), (17, .c (.int .i64 (xs.length : Nat))), (18, .c (.int .i64 (i : Nat)))], [], [], h⟩
      = loop F Z [4, 5, 16, 17, 18] r164L0 ⟨[(4, .c (.int .u64 (wHi (sumI Shard.money (xs.take (i + 1)))))), (5, .c (.int .u64 (wLo (sumI Shard.money (xs.take (i + 1)))))), (16, .c x), (17, .c (.int .i64 (xs.length : Nat))), (18, .c (.int .i64 ((i + 1 : Nat) : Int)))], [], [], h⟩ := by
  have hle := w.le2
  have hlt : (i : Int) < xs.length := by omega
  have hws := wrapS i (by omega)
  have hxi := w.idx hi
  obtain ⟨r, f, hld, hR, _⟩ := w.one hi
  have aok := ok _ (List.getElem_mem hi)
  have agd := gd _ (List.getElem_mem hi)
  have ml := Shard.money_le aok agd
  have ht : sumI Shard.money (xs.take (i + 1)) = sumI Shard.money (xs.take i) + xs[i].money := sumI_take _ xs hi
  have hT := sumI_take_le Shard.money (m := 737869762948382064600) (by omega) xs (fun a ha => Shard.money_le (ok a ha) (gd a ha)) i
  rw [ht]
  obtain ⟨x1, p1, x2, p2, rfl, rfl, w1, w2⟩ := hR
  obtain ⟨b1, b2⟩ := Account.money_ok aok.book.list (Shard.good_book agd)
  have hc := totalOf_run (Z := Z) k.i10 w1 aok.book.list b1 b2
  change _ = some (V.tup [.c (.int .u64 (wHi xs[i].money)), .c (.int .u64 (wLo xs[i].money))], h) at hc
  clear w w1 w2 b1 b2 agd aok gd ok ht
  generalize sumI Shard.money (xs.take i) = T at *
  generalize xs[i] = a at *
  generalize a.money = M at *
  have e1 : (wLo T + wLo M + 0) % 18446744073709551616 = wLo (T + M) := by simp only [wLo]; omega
  have e2 : IntKind.u64.wrap (wHi T + IntKind.u64.wrap (wHi M + (wLo T + wLo M + 0) / 18446744073709551616)) = wHi (T + M) := by
    simp only [wHi, wLo]
    rw [wrapU (M / 18446744073709551616 + _) (by omega) (by omega), wrapU _ (by omega) (by omega)]; omega
  have c1 : 0 ≤ wLo T := by simp only [wLo]; omega
  have c2 : 0 ≤ wLo M := by simp only [wLo]; omega
  have c3 : (0 : Int) ≤ 1 := by omega
  rw [loop_run]
  conv in (codeF _ _ r164L0 _) => unfold r164L0
  simp only [run0, run1, run2, run3, run4, noSlot, memN, RO.dst, lk, drop, forget, number, Nat.reduceBEq, cut?, splice?, builds, List.length_cons, List.length_nil, List.drop_succ_cons, List.drop_zero, List.take_succ_cons, List.take_zero, List.cons_append, List.nil_append, List.append_nil, List.drop_nil, List.take_nil, Nat.reduceAdd, Nat.reduceLeDiff, Nat.zero_add, Nat.add_zero, ↓reduceIte, Bool.not_true, Bool.not_false, decide_true, decide_false, eq_self, bne_self_eq_false, List.getElem?_cons_zero, List.getElem?_cons_succ, decide_eq_true_eq, Bool.false_eq_true, Bool.true_eq_false, reduceCtorEq, Nat.le_refl, hlt, hxi, hld, hc, e1, e2, c1, c2, c3, Int.le_refl, and_self, hws]
theorem StoreTotal_run (k : KI F) (v : Store.RI h cs s fp) (ok : s.Ok) : ∃ h', call F Z 164 [.agg cs] h = some (.tup [.c (.int .u64 (storeTotal s).1), .c (.int .u64 (storeTotal s).2)], h') ∧ On h h' := by
  obtain ⟨h', e, o⟩ := isStore_run (Z := Z) k v ok
  replace v := Store.okI.on v o
  obtain ⟨x, p, rfl, rfl, w⟩ := v
  refine ⟨h', ?_, o⟩
  rw [call_run F Z (k.i13.lk (g := 164) rfl) _ _ rfl]
  have hgd : storeTotal s = bif s.good then (wHi s.money, wLo s.money) else (0, 0) := rfl
  cases gd : s.good with
  | false =>
    rw [gd] at e
    rw [hgd, gd]
    simp only [run0, run1, run2, run3, run4, noSlot, memN, RO.dst, lk, drop, forget, number, Nat.reduceBEq, cut?, splice?, builds, List.length_cons, List.length_nil, List.drop_succ_cons, List.drop_zero, List.take_succ_cons, List.take_zero, List.cons_append, List.nil_append, List.append_nil, List.drop_nil, List.take_nil, Nat.reduceAdd, Nat.reduceLeDiff, Nat.zero_add, Nat.add_zero, ↓reduceIte, Bool.not_true, Bool.not_false, decide_true, decide_false, eq_self, bne_self_eq_false, List.getElem?_cons_zero, List.getElem?_cons_succ, decide_eq_true_eq, Bool.false_eq_true, Bool.true_eq_false, reduceCtorEq, Nat.le_refl, e]
  | true =>
    rw [gd] at e
    rw [hgd, gd]
    obtain ⟨hl, hg⟩ := Store.good_all gd
    have key := loop_goesF (F := F) (Z := Z) (live := [4, 5, 16, 17, 18]) (b := r164L0) s.shards.length (fun i => ⟨[(4, .c (.int .u64 (wHi (sumI Shard.money (s.shards.take i))))), (5, .c (.int .u64 (wLo (sumI Shard.money (s.shards.take i))))), (16, .c x), (17, .c (.int .i64 (s.shards.length : Nat))), (18, .c (.int .i64 (i : Nat)))], [], [], h'⟩)
      fun i hi => StoreTotal_turn k w ok.shards hg hl i hi
    have z1 : wHi (sumI Shard.money (s.shards.take 0)) = 0 := rfl
    have z2 : wLo (sumI Shard.money (s.shards.take 0)) = 0 := rfl
    simp only [show ((0 : Nat) : Int) = 0 from rfl, z1, z2, List.take_length] at key
    have hlt : ¬ (s.shards.length : Int) < s.shards.length := by omega
    have hwl := w.len
    simp only [run0, run1, run2, run3, run4, noSlot, memN, RO.dst, lk, drop, forget, number, Nat.reduceBEq, cut?, splice?, builds, List.length_cons, List.length_nil, List.drop_succ_cons, List.drop_zero, List.take_succ_cons, List.take_zero, List.cons_append, List.nil_append, List.append_nil, List.drop_nil, List.take_nil, Nat.reduceAdd, Nat.reduceLeDiff, Nat.zero_add, Nat.add_zero, ↓reduceIte, Bool.not_true, Bool.not_false, decide_true, decide_false, eq_self, bne_self_eq_false, List.getElem?_cons_zero, List.getElem?_cons_succ, decide_eq_true_eq, Bool.false_eq_true, Bool.true_eq_false, reduceCtorEq, Nat.le_refl, e, hwl, key]
    rw [loop_run]
    conv in (codeF _ _ r164L0 _) => unfold r164L0
    simp only [run0, run1, run2, run3, run4, noSlot, memN, RO.dst, lk, drop, forget, number, Nat.reduceBEq, cut?, splice?, builds, List.length_cons, List.length_nil, List.drop_succ_cons, List.drop_zero, List.take_succ_cons, List.take_zero, List.cons_append, List.nil_append, List.append_nil, List.drop_nil, List.take_nil, Nat.reduceAdd, Nat.reduceLeDiff, Nat.zero_add, Nat.add_zero, ↓reduceIte, Bool.not_true, Bool.not_false, decide_true, decide_false, eq_self, bne_self_eq_false, List.getElem?_cons_zero, List.getElem?_cons_succ, decide_eq_true_eq, Bool.false_eq_true, Bool.true_eq_false, reduceCtorEq, Nat.le_refl, hlt]
    rfl
theorem l13Add_run (k : KS F) {t : Book} {T : Int} (v : SlR 11 (Fl Account.enc) h x t.list fp) (ok : t.Ok) (hb : bookOk t.list = true) (h0 : 0 ≤ T) (h1 : T ≤ 9444732965739290427392000000) :
    call F Z 208 [.c (.int .u64 (wHi T)), .c (.int .u64 (wLo T)), .agg [x]] h = some (.tup [.c (.int .u64 (wHi (T + moneyOf t.list))), .c (.int .u64 (wLo (T + moneyOf t.list)))], h) := by
  have hc := sTotalOf_run (Z := Z) k.s10 v ok.list hb
  obtain ⟨b1, b2⟩ := Account.money_ok ok.list hb
  have hM := moneyOf_le b1 b2
  clear b1 b2 v hb ok
  generalize moneyOf t.list = M at *
  have e1 : IntKind.u64.wrap (wLo T + wLo M) = wLo (T + M) := by
    show (wLo T + wLo M) % 18446744073709551616 = _
    simp only [wLo]; omega
  have e3 : IntKind.u64.wrap (18446744073709551615 - wLo T) = 18446744073709551615 - wLo T := wrapU _ (by simp only [wLo]; omega) (by simp only [wLo]; omega)
  rw [call_run F Z (k.s13.lk (g := 208) rfl) _ _ rfl]
  by_cases c : wLo M > 18446744073709551615 - wLo T
  · have e2 : IntKind.u64.wrap (IntKind.u64.wrap (wHi T + 1) + wHi M) = wHi (T + M) := by
      simp only [wLo] at c
      simp only [wHi]
      rw [wrapU (_ + 1) (by omega) (by omega), wrapU _ (by omega) (by omega)]; omega
    simp only [run0, run1, run2, run3, run4, noSlot, memN, RO.dst, lk, drop, forget, number, Nat.reduceBEq, cut?, splice?, builds, List.length_cons, List.length_nil, List.drop_succ_cons, List.drop_zero, List.take_succ_cons, List.take_zero, List.cons_append, List.nil_append, List.append_nil, List.drop_nil, List.take_nil, Nat.reduceAdd, Nat.reduceLeDiff, Nat.zero_add, Nat.add_zero, ↓reduceIte, Bool.not_true, Bool.not_false, decide_true, decide_false, eq_self, bne_self_eq_false, List.getElem?_cons_zero, List.getElem?_cons_succ, decide_eq_true_eq, Bool.false_eq_true, Bool.true_eq_false, reduceCtorEq, Nat.le_refl, hc, e1, e2, e3, c]
  · have e2 : IntKind.u64.wrap (wHi T + wHi M) = wHi (T + M) := by
      simp only [wLo] at c
      simp only [wHi]
      rw [wrapU _ (by omega) (by omega)]; omega
    simp only [run0, run1, run2, run3, run4, noSlot, memN, RO.dst, lk, drop, forget, number, Nat.reduceBEq, cut?, splice?, builds, List.length_cons, List.length_nil, List.drop_succ_cons, List.drop_zero, List.take_succ_cons, List.take_zero, List.cons_append, List.nil_append, List.append_nil, List.drop_nil, List.take_nil, Nat.reduceAdd, Nat.reduceLeDiff, Nat.zero_add, Nat.add_zero, ↓reduceIte, Bool.not_true, Bool.not_false, decide_true, decide_false, eq_self, bne_self_eq_false, List.getElem?_cons_zero, List.getElem?_cons_succ, decide_eq_true_eq, Bool.false_eq_true, Bool.true_eq_false, reduceCtorEq, Nat.le_refl, hc, e1, e2, e3, c]
theorem sStoreTotal_turn (k : KS F) (w : SlR 16 Shard.RI h x s.shards fp) (ok : ∀ a, a ∈ s.shards → a.Ok) (gd : ∀ a, a ∈ s.shards → a.good = true) (hl : s.shards.length ≤ 8) (i : Nat) (hi : i < s.shards.length) :
    loop F Z [1, 4, 5, 6] r163L0 ⟨[(4, .c (.int .u64 (wHi (sumI Shard.money (s.shards.take i))))), (5, .c (.int .u64 (wLo (sumI Shard.money (s.shards.take i))))), (6, .c (.int .i64 (i : Nat)))], [(1, 1, 0)], [(1, [.int .i64 s.group, .int .i64 s.seen, x])], h⟩
      = loop F Z [1, 4, 5, 6] r163L0 ⟨[(4, .c (.int .u64 (wHi (sumI Shard.money (s.shards.take (i + 1)))))), (5, .c (.int .u64 (wLo (sumI Shard.money (s.shards.take (i + 1)))))), (6, .c (.int .i64 ((i + 1 : Nat) : Int)))], [(1, 1, 0)], [(1, [.int .i64 s.group, .int .i64 s.seen, x])], h⟩ := by
  have hle := w.le2
  have hlt : (i : Int) < s.shards.length := by omega
  have hws := wrapS i (by omega)
  have hxi := w.idx hi
  have hwl := w.len
  obtain ⟨r, f, hld, hR, _⟩ := w.one hi
  have aok := ok _ (List.getElem_mem hi)
  have agd := gd _ (List.getElem_mem hi)
  have ht : sumI Shard.money (s.shards.take (i + 1)) = sumI Shard.money (s.shards.take i) + s.shards[i].money := sumI_take _ s.shards hi
  have hT := sumI_take_le Shard.money (m := 737869762948382064600) (by omega) s.shards (fun a ha => Shard.money_le (ok a ha) (gd a ha)) i
  rw [ht]
  obtain ⟨x1, p1, x2, p2, rfl, rfl, w1, w2⟩ := hR
  have hc := l13Add_run (Z := Z) (T := sumI Shard.money (s.shards.take i)) k w1 aok.book (Shard.good_book agd) (by omega) (by omega)
  change _ = some (V.tup [.c (.int .u64 (wHi (sumI Shard.money (s.shards.take i) + s.shards[i].money))), .c (.int .u64 (wLo (sumI Shard.money (s.shards.take i) + s.shards[i].money)))], h) at hc
  clear w w1 w2 agd aok gd ok ht
  generalize sumI Shard.money (s.shards.take i) = T at *
  generalize s.shards[i] = a at *
  rw [loop_run]
  conv in (codeF _ _ r163L0 _) => unfold r163L0
  simp only [run0, run1, run2, run3, run4, noSlot, memN, RO.dst, lk, drop, forget, number, Nat.reduceBEq, cut?, splice?, builds, List.length_cons, List.length_nil, List.drop_succ_cons, List.drop_zero, List.take_succ_cons, List.take_zero, List.cons_append, List.nil_append, List.append_nil, List.drop_nil, List.take_nil, Nat.reduceAdd, Nat.reduceLeDiff, Nat.zero_add, Nat.add_zero, ↓reduceIte, Bool.not_true, Bool.not_false, decide_true, decide_false, eq_self, bne_self_eq_false, List.getElem?_cons_zero, List.getElem?_cons_succ, decide_eq_true_eq, Bool.false_eq_true, Bool.true_eq_false, reduceCtorEq, Nat.le_refl, hwl, hlt, hxi, hld, hc, hws]
theorem sStoreTotal_run (k : KS F) (v : Store.RI h cs s fp) (ok : s.Ok) : call F Z 163 [.agg cs] h = some (.tup [.c (.int .u64 (storeTotal s).1), .c (.int .u64 (storeTotal s).2)], h) := by
  have e := sStoreOk_run (Z := Z) k v ok
  obtain ⟨x, p, rfl, rfl, w⟩ := v
  rw [call_run F Z (k.s13.lk (g := 163) rfl) _ _ rfl]
  have hgd : storeTotal s = bif s.good then (wHi s.money, wLo s.money) else (0, 0) := rfl
  cases gd : s.good with
  | false =>
    rw [gd] at e
    rw [hgd, gd]
    simp only [run0, run1, run2, run3, run4, noSlot, memN, RO.dst, lk, drop, forget, number, Nat.reduceBEq, cut?, splice?, builds, List.length_cons, List.length_nil, List.drop_succ_cons, List.drop_zero, List.take_succ_cons, List.take_zero, List.cons_append, List.nil_append, List.append_nil, List.drop_nil, List.take_nil, Nat.reduceAdd, Nat.reduceLeDiff, Nat.zero_add, Nat.add_zero, ↓reduceIte, Bool.not_true, Bool.not_false, decide_true, decide_false, eq_self, bne_self_eq_false, List.getElem?_cons_zero, List.getElem?_cons_succ, decide_eq_true_eq, Bool.false_eq_true, Bool.true_eq_false, reduceCtorEq, Nat.le_refl, e]
  | true =>
    rw [gd] at e
    rw [hgd, gd]
    obtain ⟨hl, hg⟩ := Store.good_all gd
    have key := loop_goesF (F := F) (Z := Z) (live := [1, 4, 5, 6]) (b := r163L0) s.shards.length (fun i => ⟨[(4, .c (.int .u64 (wHi (sumI Shard.money (s.shards.take i))))), (5, .c (.int .u64 (wLo (sumI Shard.money (s.shards.take i))))), (6, .c (.int .i64 (i : Nat)))], [(1, 1, 0)], [(1, [.int .i64 s.group, .int .i64 s.seen, x])], h⟩)
      fun i hi => sStoreTotal_turn k w ok.shards hg hl i hi
    have z1 : wHi (sumI Shard.money (s.shards.take 0)) = 0 := rfl
    have z2 : wLo (sumI Shard.money (s.shards.take 0)) = 0 := rfl
    simp only [show ((0 : Nat) : Int) = 0 from rfl, z1, z2, List.take_length] at key
    have hlt : ¬ (s.shards.length : Int) < s.shards.length := by omega
    have hwl := w.len
    simp only [run0, run1, run2, run3, run4, noSlot, memN, RO.dst, lk, drop, forget, number, Nat.reduceBEq, cut?, splice?, builds, List.length_cons, List.length_nil, List.drop_succ_cons, List.drop_zero, List.take_succ_cons, List.take_zero, List.cons_append, List.nil_append, List.append_nil, List.drop_nil, List.take_nil, Nat.reduceAdd, Nat.reduceLeDiff, Nat.zero_add, Nat.add_zero, ↓reduceIte, Bool.not_true, Bool.not_false, decide_true, decide_false, eq_self, bne_self_eq_false, List.getElem?_cons_zero, List.getElem?_cons_succ, decide_eq_true_eq, Bool.false_eq_true, Bool.true_eq_false, reduceCtorEq, Nat.le_refl, e, hwl, key]
    rw [loop_run]
    conv in (codeF _ _ r163L0 _) => unfold r163L0
    simp only [run0, run1, run2, run3, run4, noSlot, memN, RO.dst, lk, drop, forget, number, Nat.reduceBEq, cut?, splice?, builds, List.length_cons, List.length_nil, List.drop_succ_cons, List.drop_zero, List.take_succ_cons, List.take_zero, List.cons_append, List.nil_append, List.append_nil, List.drop_nil, List.take_nil, Nat.reduceAdd, Nat.reduceLeDiff, Nat.zero_add, Nat.add_zero, ↓reduceIte, Bool.not_true, Bool.not_false, decide_true, decide_false, eq_self, bne_self_eq_false, List.getElem?_cons_zero, List.getElem?_cons_succ, decide_eq_true_eq, Bool.false_eq_true, Bool.true_eq_false, reduceCtorEq, Nat.le_refl, hwl, hlt]
    rfl
theorem StoreTotal_c (k : KI F) (hf : h.floor ≤ h.next) (v : Store.RI h cs s fp) (ok : s.Ok) : ∃ h', call F Z 164 [.agg cs] h = some (.tup [.c (.int .u64 (storeTotal s).1), .c (.int .u64 (storeTotal s).2)], h') ∧ On h h' := StoreTotal_run k v ok
theorem sStoreTotal_c (k : KS F) (hf : h.floor ≤ h.next) (v : Store.RI h cs s fp) (ok : s.Ok) : ∃ h', call F Z 163 [.agg cs] h = some (.tup [.c (.int .u64 (storeTotal s).1), .c (.int .u64 (storeTotal s).2)], h') ∧ On h h' := ⟨h, sStoreTotal_run k v ok, On.refl h⟩
end
end Go.Proofs.Ytlfepembgjjejaa.A
/- Where an id lies in the shards of a store. -/
namespace Go.Proofs.Ytlfepembgjjejaa.A
open Go
set_option linter.unusedSimpArgs false
set_option linter.unusedVariables false
def findId (xs : List Shard) (id : Int) : Int := findI (fun t => decide (t.lo ≤ id) && decide (id ≤ t.hi)) xs
def findAt (xs : List Shard) (lo st : Int) : Int := findI (fun t => (t.lo == lo) && (t.state == st)) xs
theorem findI_lt {α : Type} {p : α → Bool} {xs : List α} : -1 ≤ findI p xs ∧ findI p xs < xs.length := by
  unfold findI
  split
  · rename_i i hi
    rw [List.findIdx?_eq_some_iff_getElem] at hi
    obtain ⟨h, _⟩ := hi
    omega
  · omega
theorem findI_at {α : Type} {p : α → Bool} {xs : List α} (h : 0 ≤ findI p xs) : ∃ i : Nat, findI p xs = (i : Int) ∧ ∃ hi : i < xs.length, p xs[i] = true := by
  unfold findI at h ⊢
  split at h
  · rename_i i hi
    rw [List.findIdx?_eq_some_iff_getElem] at hi
    obtain ⟨h1, h2, _⟩ := hi
    exact ⟨i, rfl, h1, h2⟩
  · omega
theorem findI_no {α : Type} {p : α → Bool} {xs : List α} (h : findI p xs < 0) : findI p xs = -1 := by
  unfold findI at h ⊢
  split at h
  · omega
  · rfl
section
variable {F : Nat → Option RF} {Z : CallF} {h : Heap} {x : Cell} {xs : List Shard} {fp : List Nat} {cs : List Cell} {s : Store}
/-- slices.IndexFunc, of a function that leaves the heap alone. -/
theorem indexShard_run (hL : Has F tLibslicesIndexFuncimplShardimplShard) (w : SlR 16 Shard.RI h x xs fp) (f : Nat) (ps : List (Nat × Nat × Nat)) (p : Shard → Bool)
    (hc : ∀ r t q, Shard.RI h r t q → call F Z f (.agg r :: capV ps) h = some (.c (.bool (p t)), h)) : call F Z 248 [.c x, .c (.fn f ps)] h = some (.c (.int .i64 (findI p xs)), h) := by
  have hle := w.le2
  rw [call_run F Z (hL.lk (g := 248) rfl) _ _ rfl]
  simp only [run0, run1, run2, run3, run4, noSlot, memN, RO.dst, lk, drop, forget, number, Nat.reduceBEq, cut?, splice?, builds, List.length_cons, List.length_nil, List.drop_succ_cons, List.drop_zero, List.take_succ_cons, List.take_zero, List.cons_append, List.nil_append, List.append_nil, List.drop_nil, List.take_nil, Nat.reduceAdd, Nat.reduceLeDiff, Nat.zero_add, Nat.add_zero, ↓reduceIte, Bool.not_true, Bool.not_false, decide_true, decide_false, eq_self, bne_self_eq_false, List.getElem?_cons_zero, List.getElem?_cons_succ, decide_eq_true_eq, Bool.false_eq_true, Bool.true_eq_false, reduceCtorEq, Nat.le_refl, w.len]
  have key := loop_find (F := F) (Z := Z) (live := [0, 1, 7, 8]) (b := r248L0) xs p (fun i => ⟨[(0, .c x), (1, .c (.fn f ps)), (7, .c (.int .i64 (xs.length : Nat))), (8, .c (.int .i64 (i : Nat)))], [], [], h⟩) (fun i s => lk s.env 4 = some (.c (.int .i64 (i : Nat))) ∧ s.hp = h) fun i hi => by
    have hlt : (i : Int) < xs.length := by omega
    have hws := wrapS i (by omega)
    obtain ⟨r, q, hld, hR, _⟩ := w.one hi
    have hci := hc _ _ _ hR
    obtain ⟨r1, r2, r3⟩ := Shard.lenI hR
    have hxi := w.idx hi
    clear w hR
    rw [loop_run]
    conv in (codeF _ _ r248L0 _) => unfold r248L0
    simp only [run0, run1, run2, run3, run4, noSlot, memN, RO.dst, lk, drop, forget, number, Nat.reduceBEq, cut?, splice?, builds, List.length_cons, List.length_nil, List.drop_succ_cons, List.drop_zero, List.take_succ_cons, List.take_zero, List.cons_append, List.nil_append, List.append_nil, List.drop_nil, List.take_nil, Nat.reduceAdd, Nat.reduceLeDiff, Nat.zero_add, Nat.add_zero, ↓reduceIte, Bool.not_true, Bool.not_false, decide_true, decide_false, eq_self, bne_self_eq_false, List.getElem?_cons_zero, List.getElem?_cons_succ, decide_eq_true_eq, Bool.false_eq_true, Bool.true_eq_false, reduceCtorEq, Nat.le_refl, hlt, hxi, hld, r1, r2, r3]
    simp only [hci, run0, run1, run2, run3, run4, noSlot, memN, RO.dst, lk, drop, forget, number, Nat.reduceBEq, cut?, splice?, builds, List.length_cons, List.length_nil, List.drop_succ_cons, List.drop_zero, List.take_succ_cons, List.take_zero, List.cons_append, List.nil_append, List.append_nil, List.drop_nil, List.take_nil, Nat.reduceAdd, Nat.reduceLeDiff, Nat.zero_add, Nat.add_zero, ↓reduceIte, Bool.not_true, Bool.not_false, decide_true, decide_false, eq_self, bne_self_eq_false, List.getElem?_cons_zero, List.getElem?_cons_succ, decide_eq_true_eq, Bool.false_eq_true, Bool.true_eq_false, reduceCtorEq, Nat.le_refl]
    (repeat' ((first | (rw [gF_if]; split) | (rw [condC_if]; split) | (rw [pickR_if]; split)) <;> (rename_i hh; (try simp only [Bool.not_eq_true, decide_eq_true_eq] at hh); simp only [hh, run0, run1, run2, run3, run4, noSlot, memN, RO.dst, lk, drop, forget, number, Nat.reduceBEq, cut?, splice?, builds, List.length_cons, List.length_nil, List.drop_succ_cons, List.drop_zero, List.take_succ_cons, List.take_zero, List.cons_append, List.nil_append, List.append_nil, List.drop_nil, List.take_nil, Nat.reduceAdd, Nat.reduceLeDiff, Nat.zero_add, Nat.add_zero, ↓reduceIte, Bool.not_true, Bool.not_false, decide_true, decide_false, eq_self, bne_self_eq_false, List.getElem?_cons_zero, List.getElem?_cons_succ, decide_eq_true_eq, Bool.false_eq_true, Bool.true_eq_false, reduceCtorEq, Nat.le_refl, hws]))) <;> first
      | exact .inl ⟨by simp_all, rfl⟩
      | exact .inr ⟨by simp_all, _, rfl, rfl, rfl⟩
  have hlt : ¬ (xs.length : Int) < xs.length := by omega
  simp only [show ((0 : Nat) : Int) = 0 from rfl] at key
  rcases key with ⟨k1, k2⟩ | ⟨i, k1, hi, s, k2, k3, k4⟩
  · rw [k2, loop_run]
    conv in (codeF _ _ r248L0 _) => unfold r248L0
    simp only [run0, run1, run2, run3, run4, noSlot, memN, RO.dst, lk, drop, forget, number, Nat.reduceBEq, cut?, splice?, builds, List.length_cons, List.length_nil, List.drop_succ_cons, List.drop_zero, List.take_succ_cons, List.take_zero, List.cons_append, List.nil_append, List.append_nil, List.drop_nil, List.take_nil, Nat.reduceAdd, Nat.reduceLeDiff, Nat.zero_add, Nat.add_zero, ↓reduceIte, Bool.not_true, Bool.not_false, decide_true, decide_false, eq_self, bne_self_eq_false, List.getElem?_cons_zero, List.getElem?_cons_succ, decide_eq_true_eq, Bool.false_eq_true, Bool.true_eq_false, reduceCtorEq, Nat.le_refl, hlt, findI, k1]
  · rw [k2]
    simp only [run0, run1, run2, run3, run4, noSlot, memN, RO.dst, lk, drop, forget, number, Nat.reduceBEq, cut?, splice?, builds, List.length_cons, List.length_nil, List.drop_succ_cons, List.drop_zero, List.take_succ_cons, List.take_zero, List.cons_append, List.nil_append, List.append_nil, List.drop_nil, List.take_nil, Nat.reduceAdd, Nat.reduceLeDiff, Nat.zero_add, Nat.add_zero, ↓reduceIte, Bool.not_true, Bool.not_false, decide_true, decide_false, eq_self, bne_self_eq_false, List.getElem?_cons_zero, List.getElem?_cons_succ, decide_eq_true_eq, Bool.false_eq_true, Bool.true_eq_false, reduceCtorEq, Nat.le_refl, k3, k4, findI, k1]
theorem shardWith_run (hI13 : Has F tI13) (hL : Has F tLibslicesIndexFuncimplShardimplShard) (v : Store.RI h cs s fp) (id : Int) :
    call F Z 212 [.agg cs, .c (.int .u64 id)] h = some (.c (.int .i64 (findId s.shards id)), h.push [[.int .u64 id]]) := by
  obtain ⟨x, p, rfl, rfl, w⟩ := v
  have w' := w.on Shard.okI (On.push h [[.int .u64 id]])
  have hr := indexShard_run (Z := Z) hL w' 247 [(h.next, 0, 0)] (fun t => decide (t.lo ≤ id) && decide (id ≤ t.hi)) fun r t q hR => by
    obtain ⟨x1, p1, x2, p2, rfl, _⟩ := hR
    have hl : loadP (h.push [[.int .u64 id]]) h.next 0 0 1 = some [.int .u64 id] := by simp [loadP, rowOf, push_get, cut?]
    simp only [run0, run1, run2, run3, run4, noSlot, memN, RO.dst, lk, drop, forget, number, Nat.reduceBEq, cut?, splice?, builds, List.length_cons, List.length_nil, List.drop_succ_cons, List.drop_zero, List.take_succ_cons, List.take_zero, List.cons_append, List.nil_append, List.append_nil, List.drop_nil, List.take_nil, Nat.reduceAdd, Nat.reduceLeDiff, Nat.zero_add, Nat.add_zero, ↓reduceIte, Bool.not_true, Bool.not_false, decide_true, decide_false, eq_self, bne_self_eq_false, List.getElem?_cons_zero, List.getElem?_cons_succ, decide_eq_true_eq, Bool.false_eq_true, Bool.true_eq_false, reduceCtorEq, Nat.le_refl, capV_cons]
    rw [call_run F Z (hI13.lk (g := 247) rfl) _ _ rfl]
    simp only [run0, run1, run2, run3, run4, noSlot, memN, RO.dst, lk, drop, forget, number, Nat.reduceBEq, cut?, splice?, builds, List.length_cons, List.length_nil, List.drop_succ_cons, List.drop_zero, List.take_succ_cons, List.take_zero, List.cons_append, List.nil_append, List.append_nil, List.drop_nil, List.take_nil, Nat.reduceAdd, Nat.reduceLeDiff, Nat.zero_add, Nat.add_zero, ↓reduceIte, Bool.not_true, Bool.not_false, decide_true, decide_false, eq_self, bne_self_eq_false, List.getElem?_cons_zero, List.getElem?_cons_succ, decide_eq_true_eq, Bool.false_eq_true, Bool.true_eq_false, reduceCtorEq, Nat.le_refl, hl]
    (repeat' ((first | (rw [gF_if]; split) | (rw [condC_if]; split) | (rw [pickR_if]; split)) <;> (rename_i hh; (try simp only [Bool.not_eq_true, decide_eq_true_eq] at hh); simp only [hh, run0, run1, run2, run3, run4, noSlot, memN, RO.dst, lk, drop, forget, number, Nat.reduceBEq, cut?, splice?, builds, List.length_cons, List.length_nil, List.drop_succ_cons, List.drop_zero, List.take_succ_cons, List.take_zero, List.cons_append, List.nil_append, List.append_nil, List.drop_nil, List.take_nil, Nat.reduceAdd, Nat.reduceLeDiff, Nat.zero_add, Nat.add_zero, ↓reduceIte, Bool.not_true, Bool.not_false, decide_true, decide_false, eq_self, bne_self_eq_false, List.getElem?_cons_zero, List.getElem?_cons_succ, decide_eq_true_eq, Bool.false_eq_true, Bool.true_eq_false, reduceCtorEq, Nat.le_refl, hl]))) <;> simp_all
  rw [call_run F Z (hI13.lk (g := 212) rfl) _ _ rfl]
  simp only [run0, run1, run2, run3, run4, noSlot, memN, RO.dst, lk, drop, forget, number, Nat.reduceBEq, cut?, splice?, builds, List.length_cons, List.length_nil, List.drop_succ_cons, List.drop_zero, List.take_succ_cons, List.take_zero, List.cons_append, List.nil_append, List.append_nil, List.drop_nil, List.take_nil, Nat.reduceAdd, Nat.reduceLeDiff, Nat.zero_add, Nat.add_zero, ↓reduceIte, Bool.not_true, Bool.not_false, decide_true, decide_false, eq_self, bne_self_eq_false, List.getElem?_cons_zero, List.getElem?_cons_succ, decide_eq_true_eq, Bool.false_eq_true, Bool.true_eq_false, reduceCtorEq, Nat.le_refl, hr, evPtrs]
  rfl
theorem shardAt_run (hI13 : Has F tI13) (hL : Has F tLibslicesIndexFuncimplShardimplShard) (v : Store.RI h cs s fp) (lo st : Int) :
    call F Z 213 [.agg cs, .c (.int .u64 lo), .c (.int .i64 st)] h = some (.c (.int .i64 (findAt s.shards lo st)), (h.push [[.int .u64 lo]]).push [[.int .i64 st]]) := by
  obtain ⟨x, p, rfl, rfl, w⟩ := v
  have w' := (w.on Shard.okI (On.push h [[.int .u64 lo]])).on Shard.okI (On.push _ [[.int .i64 st]])
  have hr := indexShard_run (Z := Z) hL w' 249 [(h.next, 0, 0), (h.next + 1, 0, 0)] (fun t => (t.lo == lo) && (t.state == st)) fun r t q hR => by
    obtain ⟨x1, p1, x2, p2, rfl, _⟩ := hR
    have hl : loadP ((h.push [[.int .u64 lo]]).push [[.int .i64 st]]) h.next 0 0 1 = some [.int .u64 lo] := by
      simp [loadP, rowOf, Heap.push, cut?]
    have hl2 : loadP ((h.push [[.int .u64 lo]]).push [[.int .i64 st]]) (h.next + 1) 0 0 1 = some [.int .i64 st] := by
      simp [loadP, rowOf, Heap.push, cut?]
    simp only [run0, run1, run2, run3, run4, noSlot, memN, RO.dst, lk, drop, forget, number, Nat.reduceBEq, cut?, splice?, builds, List.length_cons, List.length_nil, List.drop_succ_cons, List.drop_zero, List.take_succ_cons, List.take_zero, List.cons_append, List.nil_append, List.append_nil, List.drop_nil, List.take_nil, Nat.reduceAdd, Nat.reduceLeDiff, Nat.zero_add, Nat.add_zero, ↓reduceIte, Bool.not_true, Bool.not_false, decide_true, decide_false, eq_self, bne_self_eq_false, List.getElem?_cons_zero, List.getElem?_cons_succ, decide_eq_true_eq, Bool.false_eq_true, Bool.true_eq_false, reduceCtorEq, Nat.le_refl, capV_cons]
    rw [call_run F Z (hI13.lk (g := 249) rfl) _ _ rfl]
    simp only [run0, run1, run2, run3, run4, noSlot, memN, RO.dst, lk, drop, forget, number, Nat.reduceBEq, cut?, splice?, builds, List.length_cons, List.length_nil, List.drop_succ_cons, List.drop_zero, List.take_succ_cons, List.take_zero, List.cons_append, List.nil_append, List.append_nil, List.drop_nil, List.take_nil, Nat.reduceAdd, Nat.reduceLeDiff, Nat.zero_add, Nat.add_zero, ↓reduceIte, Bool.not_true, Bool.not_false, decide_true, decide_false, eq_self, bne_self_eq_false, List.getElem?_cons_zero, List.getElem?_cons_succ, decide_eq_true_eq, Bool.false_eq_true, Bool.true_eq_false, reduceCtorEq, Nat.le_refl, hl, hl2]
    (repeat' ((first | (rw [gF_if]; split) | (rw [condC_if]; split) | (rw [pickR_if]; split)) <;> (rename_i hh; (try simp only [Bool.not_eq_true, decide_eq_true_eq] at hh); simp only [hh, run0, run1, run2, run3, run4, noSlot, memN, RO.dst, lk, drop, forget, number, Nat.reduceBEq, cut?, splice?, builds, List.length_cons, List.length_nil, List.drop_succ_cons, List.drop_zero, List.take_succ_cons, List.take_zero, List.cons_append, List.nil_append, List.append_nil, List.drop_nil, List.take_nil, Nat.reduceAdd, Nat.reduceLeDiff, Nat.zero_add, Nat.add_zero, ↓reduceIte, Bool.not_true, Bool.not_false, decide_true, decide_false, eq_self, bne_self_eq_false, List.getElem?_cons_zero, List.getElem?_cons_succ, decide_eq_true_eq, Bool.false_eq_true, Bool.true_eq_false, reduceCtorEq, Nat.le_refl, hl, hl2]))) <;> simp_all
  rw [call_run F Z (hI13.lk (g := 213) rfl) _ _ rfl]
  simp only [run0, run1, run2, run3, run4, noSlot, memN, RO.dst, lk, drop, forget, number, Nat.reduceBEq, cut?, splice?, builds, List.length_cons, List.length_nil, List.drop_succ_cons, List.drop_zero, List.take_succ_cons, List.take_zero, List.cons_append, List.nil_append, List.append_nil, List.drop_nil, List.take_nil, Nat.reduceAdd, Nat.reduceLeDiff, Nat.zero_add, Nat.add_zero, ↓reduceIte, Bool.not_true, Bool.not_false, decide_true, decide_false, eq_self, bne_self_eq_false, List.getElem?_cons_zero, List.getElem?_cons_succ, decide_eq_true_eq, Bool.false_eq_true, Bool.true_eq_false, reduceCtorEq, Nat.le_refl, push_next, hr, evPtrs]
  rfl
theorem shardWith_on (hI13 : Has F tI13) (hL : Has F tLibslicesIndexFuncimplShardimplShard) (v : Store.RI h cs s fp) (id : Int) :
    ∃ h', call F Z 212 [.agg cs, .c (.int .u64 id)] h = some (.c (.int .i64 (findId s.shards id)), h') ∧ On h h' := ⟨_, shardWith_run hI13 hL v id, On.push _ _⟩
theorem shardAt_on (hI13 : Has F tI13) (hL : Has F tLibslicesIndexFuncimplShardimplShard) (v : Store.RI h cs s fp) (lo st : Int) :
    ∃ h', call F Z 213 [.agg cs, .c (.int .u64 lo), .c (.int .i64 st)] h = some (.c (.int .i64 (findAt s.shards lo st)), h') ∧ On h h' := ⟨_, shardAt_run hI13 hL v lo st, (On.push _ _).trans (On.push _ _)⟩
theorem l13Find_run (hS13 : Has F tS13) (v : Store.RI h cs s fp) (id : Int) : call F Z 211 [.agg cs, .c (.int .u64 id)] h = some (.c (.int .i64 (findId s.shards id)), h) := by
  obtain ⟨x, p, rfl, rfl, w⟩ := v
  have hle := w.le2
  have hwl := w.len
  rw [call_run F Z (hS13.lk (g := 211) rfl) _ _ rfl]
  simp only [run0, run1, run2, run3, run4, noSlot, memN, RO.dst, lk, drop, forget, number, Nat.reduceBEq, cut?, splice?, builds, List.length_cons, List.length_nil, List.drop_succ_cons, List.drop_zero, List.take_succ_cons, List.take_zero, List.cons_append, List.nil_append, List.append_nil, List.drop_nil, List.take_nil, Nat.reduceAdd, Nat.reduceLeDiff, Nat.zero_add, Nat.add_zero, ↓reduceIte, Bool.not_true, Bool.not_false, decide_true, decide_false, eq_self, bne_self_eq_false, List.getElem?_cons_zero, List.getElem?_cons_succ, decide_eq_true_eq, Bool.false_eq_true, Bool.true_eq_false, reduceCtorEq, Nat.le_refl]
  have key := loop_find (F := F) (Z := Z) (live := [1, 2, 5]) (b := r211L0) s.shards (fun t => decide (t.lo ≤ id) && decide (id ≤ t.hi)) (fun i => ⟨[(1, .c (.int .u64 id)), (5, .c (.int .i64 (i : Nat)))], [(2, 2, 0)], [(2, [.int .i64 s.group, .int .i64 s.seen, x])], h⟩) (fun i s => lk s.env 4 = some (.c (.int .i64 (i : Nat))) ∧ s.hp = h) fun i hi => by
    have hlt : (i : Int) < s.shards.length := by omega
    have hws := wrapS i (by omega)
    obtain ⟨r, q, hld, hR, _⟩ := w.one hi
    obtain ⟨x1, p1, x2, p2, rfl, _⟩ := hR
    have hxi := w.idx hi
    clear w
    rw [loop_run]
    conv in (codeF _ _ r211L0 _) => unfold r211L0
    simp only [run0, run1, run2, run3, run4, noSlot, memN, RO.dst, lk, drop, forget, number, Nat.reduceBEq, cut?, splice?, builds, List.length_cons, List.length_nil, List.drop_succ_cons, List.drop_zero, List.take_succ_cons, List.take_zero, List.cons_append, List.nil_append, List.append_nil, List.drop_nil, List.take_nil, Nat.reduceAdd, Nat.reduceLeDiff, Nat.zero_add, Nat.add_zero, ↓reduceIte, Bool.not_true, Bool.not_false, decide_true, decide_false, eq_self, bne_self_eq_false, List.getElem?_cons_zero, List.getElem?_cons_succ, decide_eq_true_eq, Bool.false_eq_true, Bool.true_eq_false, reduceCtorEq, Nat.le_refl, hwl, hlt, hxi, hld]
    (repeat' ((first | (rw [gF_if]; split) | (rw [condC_if]; split) | (rw [pickR_if]; split)) <;> (rename_i hh; (try simp only [Bool.not_eq_true, decide_eq_true_eq] at hh); simp only [hh, run0, run1, run2, run3, run4, noSlot, memN, RO.dst, lk, drop, forget, number, Nat.reduceBEq, cut?, splice?, builds, List.length_cons, List.length_nil, List.drop_succ_cons, List.drop_zero, List.take_succ_cons, List.take_zero, List.cons_append, List.nil_append, List.append_nil, List.drop_nil, List.take_nil, Nat.reduceAdd, Nat.reduceLeDiff, Nat.zero_add, Nat.add_zero, ↓reduceIte, Bool.not_true, Bool.not_false, decide_true, decide_false, eq_self, bne_self_eq_false, List.getElem?_cons_zero, List.getElem?_cons_succ, decide_eq_true_eq, Bool.false_eq_true, Bool.true_eq_false, reduceCtorEq, Nat.le_refl, hws, hxi, hld]))) <;> first
      | exact .inl ⟨by simp_all, rfl⟩
      | exact .inr ⟨by simp_all, _, rfl, rfl, rfl⟩
  have hlt : ¬ (s.shards.length : Int) < s.shards.length := by omega
  simp only [show ((0 : Nat) : Int) = 0 from rfl] at key
  rcases key with ⟨k1, k2⟩ | ⟨i, k1, hi, s, k2, k3, k4⟩
  · rw [k2, loop_run]
    conv in (codeF _ _ r211L0 _) => unfold r211L0
    simp only [run0, run1, run2, run3, run4, noSlot, memN, RO.dst, lk, drop, forget, number, Nat.reduceBEq, cut?, splice?, builds, List.length_cons, List.length_nil, List.drop_succ_cons, List.drop_zero, List.take_succ_cons, List.take_zero, List.cons_append, List.nil_append, List.append_nil, List.drop_nil, List.take_nil, Nat.reduceAdd, Nat.reduceLeDiff, Nat.zero_add, Nat.add_zero, ↓reduceIte, Bool.not_true, Bool.not_false, decide_true, decide_false, eq_self, bne_self_eq_false, List.getElem?_cons_zero, List.getElem?_cons_succ, decide_eq_true_eq, Bool.false_eq_true, Bool.true_eq_false, reduceCtorEq, Nat.le_refl, hwl, hlt, findId, findI, k1]
  · rw [k2]
    simp only [run0, run1, run2, run3, run4, noSlot, memN, RO.dst, lk, drop, forget, number, Nat.reduceBEq, cut?, splice?, builds, List.length_cons, List.length_nil, List.drop_succ_cons, List.drop_zero, List.take_succ_cons, List.take_zero, List.cons_append, List.nil_append, List.append_nil, List.drop_nil, List.take_nil, Nat.reduceAdd, Nat.reduceLeDiff, Nat.zero_add, Nat.add_zero, ↓reduceIte, Bool.not_true, Bool.not_false, decide_true, decide_false, eq_self, bne_self_eq_false, List.getElem?_cons_zero, List.getElem?_cons_succ, decide_eq_true_eq, Bool.false_eq_true, Bool.true_eq_false, reduceCtorEq, Nat.le_refl, k3, k4, findId, findI, k1]
theorem l13At_run (hS13 : Has F tS13) (v : Store.RI h cs s fp) (lo st : Int) : call F Z 210 [.agg cs, .c (.int .u64 lo), .c (.int .i64 st)] h = some (.c (.int .i64 (findAt s.shards lo st)), h) := by
  obtain ⟨x, p, rfl, rfl, w⟩ := v
  have hle := w.le2
  have hwl := w.len
  rw [call_run F Z (hS13.lk (g := 210) rfl) _ _ rfl]
  simp only [run0, run1, run2, run3, run4, noSlot, memN, RO.dst, lk, drop, forget, number, Nat.reduceBEq, cut?, splice?, builds, List.length_cons, List.length_nil, List.drop_succ_cons, List.drop_zero, List.take_succ_cons, List.take_zero, List.cons_append, List.nil_append, List.append_nil, List.drop_nil, List.take_nil, Nat.reduceAdd, Nat.reduceLeDiff, Nat.zero_add, Nat.add_zero, ↓reduceIte, Bool.not_true, Bool.not_false, decide_true, decide_false, eq_self, bne_self_eq_false, List.getElem?_cons_zero, List.getElem?_cons_succ, decide_eq_true_eq, Bool.false_eq_true, Bool.true_eq_false, reduceCtorEq, Nat.le_refl]
  have key := loop_find (F := F) (Z := Z) (live := [1, 2, 3, 7]) (b := r210L0) s.shards (fun t => (t.lo == lo) && (t.state == st)) (fun i => ⟨[(1, .c (.int .u64 lo)), (2, .c (.int .i64 st)), (7, .c (.int .i64 (i : Nat)))], [(3, 3, 0)], [(3, [.int .i64 s.group, .int .i64 s.seen, x])], h⟩) (fun i s => lk s.env 6 = some (.c (.int .i64 (i : Nat))) ∧ s.hp = h) fun i hi => by
    have hlt : (i : Int) < s.shards.length := by omega
    have hws := wrapS i (by omega)
    obtain ⟨r, q, hld, hR, _⟩ := w.one hi
    obtain ⟨x1, p1, x2, p2, rfl, _⟩ := hR
    have hxi := w.idx hi
    clear w
    rw [loop_run]
    conv in (codeF _ _ r210L0 _) => unfold r210L0
    simp only [run0, run1, run2, run3, run4, noSlot, memN, RO.dst, lk, drop, forget, number, Nat.reduceBEq, cut?, splice?, builds, List.length_cons, List.length_nil, List.drop_succ_cons, List.drop_zero, List.take_succ_cons, List.take_zero, List.cons_append, List.nil_append, List.append_nil, List.drop_nil, List.take_nil, Nat.reduceAdd, Nat.reduceLeDiff, Nat.zero_add, Nat.add_zero, ↓reduceIte, Bool.not_true, Bool.not_false, decide_true, decide_false, eq_self, bne_self_eq_false, List.getElem?_cons_zero, List.getElem?_cons_succ, decide_eq_true_eq, Bool.false_eq_true, Bool.true_eq_false, reduceCtorEq, Nat.le_refl, hwl, hlt, hxi, hld]
    (repeat' ((first | (rw [gF_if]; split) | (rw [condC_if]; split) | (rw [pickR_if]; split)) <;> (rename_i hh; (try simp only [Bool.not_eq_true, decide_eq_true_eq] at hh); simp only [hh, run0, run1, run2, run3, run4, noSlot, memN, RO.dst, lk, drop, forget, number, Nat.reduceBEq, cut?, splice?, builds, List.length_cons, List.length_nil, List.drop_succ_cons, List.drop_zero, List.take_succ_cons, List.take_zero, List.cons_append, List.nil_append, List.append_nil, List.drop_nil, List.take_nil, Nat.reduceAdd, Nat.reduceLeDiff, Nat.zero_add, Nat.add_zero, ↓reduceIte, Bool.not_true, Bool.not_false, decide_true, decide_false, eq_self, bne_self_eq_false, List.getElem?_cons_zero, List.getElem?_cons_succ, decide_eq_true_eq, Bool.false_eq_true, Bool.true_eq_false, reduceCtorEq, Nat.le_refl, hws, hxi, hld]))) <;> first
      | exact .inl ⟨by simp_all, rfl⟩
      | exact .inr ⟨by simp_all, _, rfl, rfl, rfl⟩
  have hlt : ¬ (s.shards.length : Int) < s.shards.length := by omega
  simp only [show ((0 : Nat) : Int) = 0 from rfl] at key
  rcases key with ⟨k1, k2⟩ | ⟨i, k1, hi, s, k2, k3, k4⟩
  · rw [k2, loop_run]
    conv in (codeF _ _ r210L0 _) => unfold r210L0
    simp only [run0, run1, run2, run3, run4, noSlot, memN, RO.dst, lk, drop, forget, number, Nat.reduceBEq, cut?, splice?, builds, List.length_cons, List.length_nil, List.drop_succ_cons, List.drop_zero, List.take_succ_cons, List.take_zero, List.cons_append, List.nil_append, List.append_nil, List.drop_nil, List.take_nil, Nat.reduceAdd, Nat.reduceLeDiff, Nat.zero_add, Nat.add_zero, ↓reduceIte, Bool.not_true, Bool.not_false, decide_true, decide_false, eq_self, bne_self_eq_false, List.getElem?_cons_zero, List.getElem?_cons_succ, decide_eq_true_eq, Bool.false_eq_true, Bool.true_eq_false, reduceCtorEq, Nat.le_refl, hwl, hlt, findAt, findI, k1]
  · rw [k2]
    simp only [run0, run1, run2, run3, run4, noSlot, memN, RO.dst, lk, drop, forget, number, Nat.reduceBEq, cut?, splice?, builds, List.length_cons, List.length_nil, List.drop_succ_cons, List.drop_zero, List.take_succ_cons, List.take_zero, List.cons_append, List.nil_append, List.append_nil, List.drop_nil, List.take_nil, Nat.reduceAdd, Nat.reduceLeDiff, Nat.zero_add, Nat.add_zero, ↓reduceIte, Bool.not_true, Bool.not_false, decide_true, decide_false, eq_self, bne_self_eq_false, List.getElem?_cons_zero, List.getElem?_cons_succ, decide_eq_true_eq, Bool.false_eq_true, Bool.true_eq_false, reduceCtorEq, Nat.le_refl, k3, k4, findAt, findI, k1]
end
end Go.Proofs.Ytlfepembgjjejaa.A
/- The compact code of some functions: laws.szHandMsg, laws.toHandMsg, laws.eqHandMsg, laws.markHandMsg, laws.heldHandMsg. -/
namespace Go.Proofs.Ytlfepembgjjejaa.A
open Go
/-- laws.szHandMsg -/
def r82 : RF :=
 ⟨2, [.tmp 4],
 .seq (.reg [⟨none, .locb 2 (.t 0)⟩,
  ⟨none, .mov 4 (.k (.int .i64 0))⟩])
 (.seq (.reg [⟨none, .fad 5 2 4⟩,
  ⟨none, .load 6 5 6 true⟩,
  ⟨none, .mov 7 (.t 1)⟩,
  ⟨none, .call (some 8) 111 [(.t 6), (.t 7)] false⟩,
  ⟨none, .mov 1 (.t 8)⟩])
 (.seq (.seq (.reg [⟨none, .mov 9 (.t 1)⟩,
   ⟨none, .bin 10 .lss (.t 9) (.k (.int .i64 0))⟩])
  (.cond (.t 10)
  (.seq (.reg [⟨none, .mov 4 (.k (.int .i64 (-1)))⟩])
   (.ret))
  (.skip)))
 (.seq (.reg [⟨none, .mov 11 (.t 1)⟩,
  ⟨none, .mov 4 (.t 11)⟩])
 (.ret))))⟩
/-- laws.toHandMsg -/
def r83 : RF :=
 ⟨1, [.cell 2 10 true],
 .seq (.reg [⟨none, .locb 1 (.t 0)⟩,
  ⟨none, .loc 2 [.int .i64 0, .int .u64 0, .int .i64 0, .int .i64 0, .int .u64 0, .int .u64 0, .int .i64 0, .int .i64 0, .nil, .nil]⟩])
 (.seq (.reg [⟨none, .loc 3 [.int .i64 0, .int .u64 0, .int .i64 0, .int .i64 0, .int .u64 0, .int .u64 0, .int .i64 0, .int .i64 0, .nil, .nil]⟩])
 (.seq (.reg [⟨none, .fad 4 1 0⟩,
  ⟨none, .load 5 4 1 false⟩,
  ⟨none, .fad 6 3 0⟩,
  ⟨none, .store 6 1 (.t 5)⟩])
 (.seq (.reg [⟨none, .fad 7 1 1⟩,
  ⟨none, .load 8 7 1 false⟩,
  ⟨none, .fad 9 3 1⟩,
  ⟨none, .store 9 1 (.t 8)⟩])
 (.seq (.reg [⟨none, .fad 10 1 2⟩,
  ⟨none, .load 11 10 1 false⟩,
  ⟨none, .fad 12 3 2⟩,
  ⟨none, .store 12 1 (.t 11)⟩])
 (.seq (.reg [⟨none, .fad 13 1 3⟩,
  ⟨none, .load 14 13 1 false⟩,
  ⟨none, .fad 15 3 3⟩,
  ⟨none, .store 15 1 (.t 14)⟩])
 (.seq (.reg [⟨none, .fad 16 1 4⟩,
  ⟨none, .load 17 16 6 true⟩,
  ⟨none, .call (some 18) 112 [(.t 17)] false⟩,
  ⟨none, .fad 19 3 4⟩,
  ⟨none, .store 19 6 (.t 18)⟩])
 (.seq (.reg [⟨none, .load 20 3 10 true⟩,
  ⟨none, .store 2 10 (.t 20)⟩])
 (.ret))))))))⟩
/-- laws.eqHandMsg -/
def r87 : RF :=
 ⟨2, [.tmp 4],
 .seq (.reg [⟨none, .locb 2 (.t 0)⟩,
  ⟨none, .locb 3 (.t 1)⟩,
  ⟨none, .mov 4 (.k (.bool false))⟩])
 (.seq (.seq (.reg [⟨none, .fad 5 2 0⟩,
   ⟨none, .load 6 5 1 false⟩,
   ⟨none, .fad 7 3 0⟩,
   ⟨none, .load 8 7 1 false⟩,
   ⟨none, .bin 9 .neq (.t 6) (.t 8)⟩])
  (.cond (.t 9)
  (.seq (.reg [⟨none, .mov 4 (.k (.bool false))⟩])
   (.ret))
  (.skip)))
 (.seq (.seq (.reg [⟨none, .fad 10 2 1⟩,
   ⟨none, .load 11 10 1 false⟩,
   ⟨none, .fad 12 3 1⟩,
   ⟨none, .load 13 12 1 false⟩,
   ⟨none, .bin 14 .neq (.t 11) (.t 13)⟩])
  (.cond (.t 14)
  (.seq (.reg [⟨none, .mov 4 (.k (.bool false))⟩])
   (.ret))
  (.skip)))
 (.seq (.seq (.reg [⟨none, .fad 15 2 2⟩,
   ⟨none, .load 16 15 1 false⟩,
   ⟨none, .fad 17 3 2⟩,
   ⟨none, .load 18 17 1 false⟩,
   ⟨none, .bin 19 .neq (.t 16) (.t 18)⟩])
  (.cond (.t 19)
  (.seq (.reg [⟨none, .mov 4 (.k (.bool false))⟩])
   (.ret))
  (.skip)))
 (.seq (.seq (.reg [⟨none, .fad 20 2 3⟩,
   ⟨none, .load 21 20 1 false⟩,
   ⟨none, .fad 22 3 3⟩,
   ⟨none, .load 23 22 1 false⟩,
   ⟨none, .bin 24 .neq (.t 21) (.t 23)⟩])
  (.cond (.t 24)
  (.seq (.reg [⟨none, .mov 4 (.k (.bool false))⟩])
   (.ret))
  (.skip)))
 (.seq (.seq (.reg [⟨none, .fad 25 2 4⟩,
   ⟨none, .load 26 25 6 true⟩,
   ⟨none, .fad 27 3 4⟩,
   ⟨none, .load 28 27 6 true⟩,
   ⟨none, .call (some 29) 114 [(.t 26), (.t 28)] false⟩,
   ⟨none, .not 30 (.t 29)⟩])
  (.cond (.t 30)
  (.seq (.reg [⟨none, .mov 4 (.k (.bool false))⟩])
   (.ret))
  (.skip)))
 (.seq (.reg [⟨none, .mov 4 (.k (.bool true))⟩])
 (.ret)))))))⟩
/-- laws.markHandMsg -/
def r305 : RF :=
 ⟨2, [.tmp 4],
 .seq (.reg [⟨none, .locb 2 (.t 0)⟩,
  ⟨none, .mov 4 (.k (.int .i64 0))⟩])
 (.seq (.reg [⟨none, .fad 5 2 4⟩,
  ⟨none, .load 6 5 6 true⟩,
  ⟨none, .mov 7 (.t 1)⟩,
  ⟨none, .call (some 8) 192 [(.t 6), (.t 7)] false⟩,
  ⟨none, .mov 1 (.t 8)⟩])
 (.seq (.reg [⟨none, .mov 9 (.t 1)⟩,
  ⟨none, .mov 4 (.t 9)⟩])
 (.ret)))⟩
/-- laws.heldHandMsg -/
def r306 : RF :=
 ⟨2, [.tmp 4],
 .seq (.reg [⟨none, .locb 2 (.t 0)⟩,
  ⟨none, .mov 4 (.k (.int .i64 0))⟩])
 (.seq (.reg [⟨none, .fad 5 2 4⟩,
  ⟨none, .load 6 5 6 true⟩,
  ⟨none, .mov 7 (.t 1)⟩,
  ⟨none, .call (some 8) 193 [(.t 6), (.t 7)] false⟩,
  ⟨none, .mov 1 (.t 8)⟩])
 (.seq (.seq (.reg [⟨none, .mov 9 (.t 1)⟩,
   ⟨none, .bin 10 .lss (.t 9) (.k (.int .i64 0))⟩])
  (.cond (.t 10)
  (.seq (.reg [⟨none, .mov 4 (.k (.int .i64 (-1)))⟩])
   (.ret))
  (.skip)))
 (.seq (.reg [⟨none, .mov 11 (.t 1)⟩,
  ⟨none, .mov 4 (.t 11)⟩])
 (.ret))))⟩
/-- The functions of this text, with their numbers. -/
def tLHandMsg : List (Nat × RF) := [(82, r82), (83, r83), (87, r87), (305, r305), (306, r306)]
end Go.Proofs.Ytlfepembgjjejaa.A
/- The data of a HandMsg with its memory, and what its converters compute. -/
namespace Go.Proofs.Ytlfepembgjjejaa.A
open Go
set_option linter.unusedSimpArgs false
set_option linter.unusedVariables false
structure HandMsg where
  step : Int
  lo : Int
  to : Int
  epoch : Int
  shard : Shard
  deriving DecidableEq
def HandMsg.RL : Rel HandMsg := fun h cs t fp => ∃ x1 p1 x2 p2, cs = [.int .i64 t.step, .int .u64 t.lo, .int .i64 t.to, .int .i64 t.epoch, .int .u64 t.shard.lo, .int .u64 t.shard.hi, .int .i64 t.shard.state, .int .i64 t.shard.epoch, x1, x2] ∧ fp = p1 ++ p2 ∧ SlR 12 (Fl Account.enc) h x1 t.shard.book.list p1 ∧ SlR 10 (Fl Fin.enc) h x2 t.shard.finished p2
theorem HandMsg.okL : RelOk HandMsg.RL where
  lt := by
    rintro h cs t fp ⟨x1, p1, x2, p2, rfl, rfl, w1, w2⟩ id hid
    simp only [List.mem_append] at hid
    rcases hid with hid | hid
    · exact w1.lt (Fl.ok _) id hid
    · exact w2.lt (Fl.ok _) id hid
  mv := by
    rintro h h' cs t fp ⟨x1, p1, x2, p2, rfl, rfl, w1, w2⟩ hn hg
    exact ⟨x1, _, x2, _, rfl, rfl, w1.mv (Fl.ok _) hn fun id hid => hg id (by simp [hid]), w2.mv (Fl.ok _) hn fun id hid => hg id (by simp [hid])⟩
def HandMsg.RI : Rel HandMsg := fun h cs t fp => ∃ x1 p1 x2 p2, cs = [.int .i64 t.step, .int .u64 t.lo, .int .i64 t.to, .int .i64 t.epoch, .int .u64 t.shard.lo, .int .u64 t.shard.hi, .int .i64 t.shard.state, .int .i64 t.shard.epoch, x1, x2] ∧ fp = p1 ++ p2 ∧ SlR 11 (Fl Account.enc) h x1 t.shard.book.list p1 ∧ SlR 9 (Fl Fin.enc) h x2 t.shard.finished p2
theorem HandMsg.okI : RelOk HandMsg.RI where
  lt := by
    rintro h cs t fp ⟨x1, p1, x2, p2, rfl, rfl, w1, w2⟩ id hid
    simp only [List.mem_append] at hid
    rcases hid with hid | hid
    · exact w1.lt (Fl.ok _) id hid
    · exact w2.lt (Fl.ok _) id hid
  mv := by
    rintro h h' cs t fp ⟨x1, p1, x2, p2, rfl, rfl, w1, w2⟩ hn hg
    exact ⟨x1, _, x2, _, rfl, rfl, w1.mv (Fl.ok _) hn fun id hid => hg id (by simp [hid]), w2.mv (Fl.ok _) hn fun id hid => hg id (by simp [hid])⟩
theorem HandMsg.lenL {h : Heap} {cs : List Cell} {t : HandMsg} {fp : List Nat} (v : HandMsg.RL h cs t fp) : cs.length = 10 ∧ cs.take 10 = cs ∧ cs.drop 10 = [] := by
  obtain ⟨x1, p1, x2, p2, rfl, _⟩ := v
  exact ⟨rfl, rfl, rfl⟩
theorem HandMsg.lenI {h : Heap} {cs : List Cell} {t : HandMsg} {fp : List Nat} (v : HandMsg.RI h cs t fp) : cs.length = 10 ∧ cs.take 10 = cs ∧ cs.drop 10 = [] := by
  obtain ⟨x1, p1, x2, p2, rfl, _⟩ := v
  exact ⟨rfl, rfl, rfl⟩
namespace HandMsg
/-- The numbers are those of the machine. -/
structure Ok (t : HandMsg) : Prop where
  step : -9223372036854775808 ≤ t.step ∧ t.step ≤ 9223372036854775807
  lo : 0 ≤ t.lo ∧ t.lo ≤ 18446744073709551615
  to : -9223372036854775808 ≤ t.to ∧ t.to ≤ 9223372036854775807
  epoch : -9223372036854775808 ≤ t.epoch ∧ t.epoch ≤ 9223372036854775807
  shard : t.shard.Ok
def Small (t : HandMsg) : Prop := t.shard.Small
def wt (t : HandMsg) : Int := t.shard.wt
def marked (t : HandMsg) (k : Int) : HandMsg := { t with shard := t.shard.marked (k) }
theorem wt_nn (t : HandMsg) : 0 ≤ t.wt := by
  have := t.shard.wt_nn
  simp only [wt]; omega
theorem wt_le {t : HandMsg} (sm : t.Small) : t.wt ≤ 7340032 := by
  unfold Small at sm
  have := Shard.wt_le sm
  simp only [wt]; omega
end HandMsg
theorem Wf.isHandMsg {h : Heap} {n : Nat} {cs : List Cell} (w : Wf h (n + 6) shHandMsg cs) : ∃ t fp, HandMsg.RL h cs t fp ∧ t.Ok := by
  obtain ⟨_, _, rfl, _, ⟨i1, rfl, j1⟩, _, _, rfl, _, ⟨i2, rfl, j2⟩, _, _, rfl, _, ⟨i3, rfl, j3⟩, _, _, rfl, _, ⟨i4, rfl, j4⟩, _, _, rfl, _, ⟨_, _, rfl, _, ⟨i5, rfl, j5⟩, _, _, rfl, _, ⟨i6, rfl, j6⟩, _, _, rfl, _, ⟨i7, rfl, j7⟩, _, _, rfl, _, ⟨i8, rfl, j8⟩, _, _, rfl, _, ⟨_, _, rfl, _, m9, rfl⟩, _, _, rfl, _, m10, rfl⟩, rfl⟩ := w
  obtain ⟨x1, l1, p1, rfl, w1, o1⟩ := Wf.isAccountS' m9
  obtain ⟨x2, l2, p2, rfl, w2, o2⟩ := Wf.isFinS' m10
  exact ⟨⟨i1, i2, i3, i4, ⟨i5, i6, i7, i8, ⟨l1⟩, l2⟩⟩, _, ⟨x1, _, x2, _, rfl, rfl, w1, w2⟩, ⟨wfI j1, wfU j2, wfI j3, wfI j4, ⟨wfU j5, wfU j6, wfI j7, wfI j8, ⟨o1⟩, o2⟩⟩⟩
section
variable {F : Nat → Option RF} {Z : CallF} {h : Heap} {cs cs' : List Cell} {t u : HandMsg} {fp fq : List Nat}
theorem szHandMsg_c (hLHandMsg : Has F tLHandMsg) (hLShard : Has F tLShard) (hLBook : Has F tLBook) (hLAccount : Has F tLAccount) (hLFin : Has F tLFin) (v : HandMsg.RL h cs t fp) (left : Int) (h1 : 0 ≤ left) (h2 : left ≤ 1048576) : ∃ r, call F Z 82 [.agg cs, .c (.int .i64 left)] h = some (.c (.int .i64 r), h) ∧ r ≤ left ∧ (0 ≤ r → t.Small) := by
  obtain ⟨x1, p1, x2, p2, rfl, rfl, w1, w2⟩ := v
  rw [call_run F Z (hLHandMsg.lk (g := 82) rfl) _ _ rfl]
  simp only [run0, run1, run2, run3, run4, noSlot, memN, RO.dst, lk, drop, forget, number, Nat.reduceBEq, cut?, splice?, builds, List.length_cons, List.length_nil, List.drop_succ_cons, List.drop_zero, List.take_succ_cons, List.take_zero, List.cons_append, List.nil_append, List.append_nil, List.drop_nil, List.take_nil, Nat.reduceAdd, Nat.reduceLeDiff, Nat.zero_add, Nat.add_zero, ↓reduceIte, Bool.not_true, Bool.not_false, decide_true, decide_false, eq_self, bne_self_eq_false, List.getElem?_cons_zero, List.getElem?_cons_succ, decide_eq_true_eq, Bool.false_eq_true, Bool.true_eq_false, reduceCtorEq, Nat.le_refl]
  obtain ⟨l0, s0, a0, b0⟩ := szShard_c (Z := Z) hLShard hLBook hLAccount hLFin (⟨x1, _, x2, _, rfl, rfl, w1, w2⟩ : Shard.RL _ _ _ _) left (by omega) (by omega)
  simp only [run0, run1, run2, run3, run4, noSlot, memN, RO.dst, lk, drop, forget, number, Nat.reduceBEq, cut?, splice?, builds, List.length_cons, List.length_nil, List.drop_succ_cons, List.drop_zero, List.take_succ_cons, List.take_zero, List.cons_append, List.nil_append, List.append_nil, List.drop_nil, List.take_nil, Nat.reduceAdd, Nat.reduceLeDiff, Nat.zero_add, Nat.add_zero, ↓reduceIte, Bool.not_true, Bool.not_false, decide_true, decide_false, eq_self, bne_self_eq_false, List.getElem?_cons_zero, List.getElem?_cons_succ, decide_eq_true_eq, Bool.false_eq_true, Bool.true_eq_false, reduceCtorEq, Nat.le_refl, s0]
  by_cases n0 : l0 < 0
  · simp only [run0, run1, run2, run3, run4, noSlot, memN, RO.dst, lk, drop, forget, number, Nat.reduceBEq, cut?, splice?, builds, List.length_cons, List.length_nil, List.drop_succ_cons, List.drop_zero, List.take_succ_cons, List.take_zero, List.cons_append, List.nil_append, List.append_nil, List.drop_nil, List.take_nil, Nat.reduceAdd, Nat.reduceLeDiff, Nat.zero_add, Nat.add_zero, ↓reduceIte, Bool.not_true, Bool.not_false, decide_true, decide_false, eq_self, bne_self_eq_false, List.getElem?_cons_zero, List.getElem?_cons_succ, decide_eq_true_eq, Bool.false_eq_true, Bool.true_eq_false, reduceCtorEq, Nat.le_refl, n0]
    exact ⟨_, rfl, by omega, by omega⟩
  simp only [run0, run1, run2, run3, run4, noSlot, memN, RO.dst, lk, drop, forget, number, Nat.reduceBEq, cut?, splice?, builds, List.length_cons, List.length_nil, List.drop_succ_cons, List.drop_zero, List.take_succ_cons, List.take_zero, List.cons_append, List.nil_append, List.append_nil, List.drop_nil, List.take_nil, Nat.reduceAdd, Nat.reduceLeDiff, Nat.zero_add, Nat.add_zero, ↓reduceIte, Bool.not_true, Bool.not_false, decide_true, decide_false, eq_self, bne_self_eq_false, List.getElem?_cons_zero, List.getElem?_cons_succ, decide_eq_true_eq, Bool.false_eq_true, Bool.true_eq_false, reduceCtorEq, Nat.le_refl, n0]
  exact ⟨_, rfl, by omega, fun _ => b0 (by omega)⟩
theorem toHandMsg_c (hLHandMsg : Has F tLHandMsg) (hLShard : Has F tLShard) (hLBook : Has F tLBook) (hLAccount : Has F tLAccount) (hLFin : Has F tLFin) (hf : h.floor ≤ h.next) (v : HandMsg.RL h cs t fp) (sm : t.Small) : ∃ cs' h' fq, call F Z 83 [.agg cs] h = some (.agg cs', h') ∧ On h h' ∧ HandMsg.RI h' cs' t fq ∧ Fre h fq := by
  obtain ⟨x1, p1, x2, p2, rfl, rfl, w1, w2⟩ := v
  have sm0 := sm
  obtain ⟨_, g0, _, e0, o0, ⟨y1, q1, y2, q2, rfl, rfl, u1, u2⟩, r0⟩ := toShard_c (Z := Z) hLShard hLBook hLAccount hLFin hf (⟨x1, _, x2, _, rfl, rfl, w1, w2⟩ : Shard.RL _ _ _ _) sm0
  rw [call_run F Z (hLHandMsg.lk (g := 83) rfl) _ _ rfl]
  simp only [run0, run1, run2, run3, run4, noSlot, memN, RO.dst, lk, drop, forget, number, Nat.reduceBEq, cut?, splice?, builds, List.length_cons, List.length_nil, List.drop_succ_cons, List.drop_zero, List.take_succ_cons, List.take_zero, List.cons_append, List.nil_append, List.append_nil, List.drop_nil, List.take_nil, Nat.reduceAdd, Nat.reduceLeDiff, Nat.zero_add, Nat.add_zero, ↓reduceIte, Bool.not_true, Bool.not_false, decide_true, decide_false, eq_self, bne_self_eq_false, List.getElem?_cons_zero, List.getElem?_cons_succ, decide_eq_true_eq, Bool.false_eq_true, Bool.true_eq_false, reduceCtorEq, Nat.le_refl, e0]
  exact ⟨_, _, _, rfl, o0, ⟨y1, _, y2, _, rfl, rfl, u1, u2⟩, r0⟩
set_option maxHeartbeats 1000000 in
theorem eqHandMsg_r (hLHandMsg : Has F tLHandMsg) (hLShard : Has F tLShard) (hLBook : Has F tLBook) (hLAccount : Has F tLAccount) (hLFin : Has F tLFin) (v : HandMsg.RI h cs t fp) (v' : HandMsg.RI h cs' u fq) : call F Z 87 [.agg cs, .agg cs'] h = some (.c (.bool (decide (t = u))), h) := by
  obtain ⟨x1, p1, x2, p2, rfl, rfl, w1, w2⟩ := v
  obtain ⟨x1', p1', x2', p2', rfl, rfl, w1', w2'⟩ := v'
  obtain ⟨step1, lo1, to1, epoch1, shard1⟩ := t
  obtain ⟨step2, lo2, to2, epoch2, shard2⟩ := u
  have e0 := eqShard_r (Z := Z) hLShard hLBook hLAccount hLFin (⟨x1, _, x2, _, rfl, rfl, w1, w2⟩ : Shard.RI h _ shard1 _) (⟨x1', _, x2', _, rfl, rfl, w1', w2'⟩ : Shard.RI h _ shard2 _)
  clear w1 w1' w2 w2'
  rw [call_run F Z (hLHandMsg.lk (g := 87) rfl) _ _ rfl]
  simp only [run0, run1, run2, run3, run4, noSlot, memN, RO.dst, lk, drop, forget, number, Nat.reduceBEq, cut?, splice?, builds, List.length_cons, List.length_nil, List.drop_succ_cons, List.drop_zero, List.take_succ_cons, List.take_zero, List.cons_append, List.nil_append, List.append_nil, List.drop_nil, List.take_nil, Nat.reduceAdd, Nat.reduceLeDiff, Nat.zero_add, Nat.add_zero, ↓reduceIte, Bool.not_true, Bool.not_false, decide_true, decide_false, eq_self, bne_self_eq_false, List.getElem?_cons_zero, List.getElem?_cons_succ, decide_eq_true_eq, Bool.false_eq_true, Bool.true_eq_false, reduceCtorEq, Nat.le_refl, e0]
  (repeat' ((first | (rw [gF_if]; split) | (rw [condC_if]; split) | (rw [pickR_if]; split)) <;> (rename_i hh; (try simp only [Bool.not_eq_true, decide_eq_true_eq] at hh); simp only [hh, run0, run1, run2, run3, run4, noSlot, memN, RO.dst, lk, drop, forget, number, Nat.reduceBEq, cut?, splice?, builds, List.length_cons, List.length_nil, List.drop_succ_cons, List.drop_zero, List.take_succ_cons, List.take_zero, List.cons_append, List.nil_append, List.append_nil, List.drop_nil, List.take_nil, Nat.reduceAdd, Nat.reduceLeDiff, Nat.zero_add, Nat.add_zero, ↓reduceIte, Bool.not_true, Bool.not_false, decide_true, decide_false, eq_self, bne_self_eq_false, List.getElem?_cons_zero, List.getElem?_cons_succ, decide_eq_true_eq, Bool.false_eq_true, Bool.true_eq_false, reduceCtorEq, Nat.le_refl, e0]))) <;> clear e0 <;> refine fin_bool ?_ <;> simp_all <;> (try (intros; omega))
end
end Go.Proofs.Ytlfepembgjjejaa.A
/- Has a store a message of a hand-over had? -/
namespace Go.Proofs.Ytlfepembgjjejaa.A
open Go
set_option linter.unusedSimpArgs false
set_option linter.unusedVariables false
def Shard.cells (t : Shard) (x y : Cell) : List Cell := [.int .u64 t.lo, .int .u64 t.hi, .int .i64 t.state, .int .i64 t.epoch, x, y]
/-- The shard in a state that begins with an id has an epoch. -/
def Store.atE (s : Store) (lo st epoch : Int) : Bool := decide (0 ≤ findAt s.shards lo st) && ((Shard.at_ s.shards (findAt s.shards lo st).toNat).epoch == epoch)
def handHas (s : Store) (m : HandMsg) : Bool := s.good && ((m.to == s.group) && (bif m.step == 1 then s.atE m.lo 0 m.epoch else bif m.step == 2 then decide (findId s.shards m.lo < 0) && decide (m.epoch ≤ s.seen) else bif m.step == 0 then s.atE m.lo 1 m.epoch else false))
section
variable {F : Nat → Option RF} {Z : CallF} {h : Heap} {x : Cell} {xs : List Shard} {fp fq : List Nat} {cs ms : List Cell} {s : Store} {m : HandMsg}
theorem SlR.found (w : SlR 16 Shard.RI h x xs fp) (p : Shard → Bool) : findI p xs = -1 ∨ ∃ i : Nat, findI p xs = (i : Int) ∧ i < xs.length ∧ p (Shard.at_ xs i) = true ∧ idxR 16 (some x) (some (i : Int)) = some (.ptr x.sid i 0) ∧
    ∃ y z, ∀ j n, loadP h x.sid i j n = cut? ((Shard.at_ xs i).cells y z) j n := by
  by_cases h0 : 0 ≤ findI p xs
  · obtain ⟨i, e, hi, hp⟩ := findI_at h0
    obtain ⟨r, f, hl, hR, _⟩ := w.one hi
    rw [← Shard.at_get hi] at hR hp
    obtain ⟨x1, p1, x2, p2, rfl, _⟩ := hR
    exact .inr ⟨i, e, hi, hp, w.idx hi, x1, x2, hl⟩
  · exact .inl (findI_no (by omega))
set_option maxHeartbeats 4000000 in
theorem HandHas_run (k : KI F) (hI15 : Has F tI15) (hL : Has F tLibslicesIndexFuncimplShardimplShard) (v : Store.RI h cs s fp) (u : HandMsg.RI h ms m fq) (ok : s.Ok) :
    ∃ h', call F Z 167 [.agg cs, .agg ms] h = some (.c (.bool (handHas s m)), h') ∧ On h h' := by
  obtain ⟨h1, e1, o1⟩ := isStore_run (Z := Z) k v ok
  have v1 := Store.okI.on v o1
  have e2 := shardWith_run (Z := Z) k.i13 hL v1 m.lo
  have e3 := fun st => shardAt_run (Z := Z) k.i13 hL v1 m.lo st
  have hdef : handHas s m = (s.good && ((m.to == s.group) && (bif m.step == 1 then s.atE m.lo 0 m.epoch else bif m.step == 2 then decide (findId s.shards m.lo < 0) && decide (m.epoch ≤ s.seen) else bif m.step == 0 then s.atE m.lo 1 m.epoch else false))) := rfl
  obtain ⟨y1, q1, y2, q2, rfl, rfl, _, _⟩ := u
  obtain ⟨x, p, rfl, rfl, w⟩ := v1
  have fd := fun st => (w.on Shard.okI ((On.push h1 [[.int .u64 m.lo]]).trans (On.push _ [[.int .i64 st]]))).found (fun t => (t.lo == m.lo) && (t.state == st))
  change ∀ st, findAt s.shards m.lo st = -1 ∨ ∃ i : Nat, findAt s.shards m.lo st = (i : Int) ∧ _ at fd
  clear v w
  rw [call_run F Z (hI15.lk (g := 167) rfl) _ _ rfl]
  generalize s.good = gd at *
  cases gd with
  | false =>
    simp only [run0, run1, run2, run3, run4, noSlot, memN, RO.dst, lk, drop, forget, number, Nat.reduceBEq, cut?, splice?, builds, List.length_cons, List.length_nil, List.drop_succ_cons, List.drop_zero, List.take_succ_cons, List.take_zero, List.cons_append, List.nil_append, List.append_nil, List.drop_nil, List.take_nil, Nat.reduceAdd, Nat.reduceLeDiff, Nat.zero_add, Nat.add_zero, ↓reduceIte, Bool.not_true, Bool.not_false, decide_true, decide_false, eq_self, bne_self_eq_false, List.getElem?_cons_zero, List.getElem?_cons_succ, decide_eq_true_eq, Bool.false_eq_true, Bool.true_eq_false, reduceCtorEq, Nat.le_refl, e1]
    exact ⟨_, by rw [hdef]; rfl, o1⟩
  | true =>
    by_cases ht : m.to = s.group
    · have ht' : ¬ (m.to != s.group) = true := by simp [ht]
      by_cases c1 : m.step = 1
      · simp only [run0, run1, run2, run3, run4, noSlot, memN, RO.dst, lk, drop, forget, number, Nat.reduceBEq, cut?, splice?, builds, List.length_cons, List.length_nil, List.drop_succ_cons, List.drop_zero, List.take_succ_cons, List.take_zero, List.cons_append, List.nil_append, List.append_nil, List.drop_nil, List.take_nil, Nat.reduceAdd, Nat.reduceLeDiff, Nat.zero_add, Nat.add_zero, ↓reduceIte, Bool.not_true, Bool.not_false, decide_true, decide_false, eq_self, bne_self_eq_false, List.getElem?_cons_zero, List.getElem?_cons_succ, decide_eq_true_eq, Bool.false_eq_true, Bool.true_eq_false, reduceCtorEq, Nat.le_refl, e1, ht, bne_self_eq_false, c1, e3, Int.reduceBEq, beq_self_eq_true]
        have hd : handHas s m = s.atE m.lo 0 m.epoch := by rw [hdef]; simp [ht, c1]
        rw [hd]
        rcases fd 0 with e | ⟨i, e, hi, _, hx, z1, z2, hl⟩
        · rw [e]
          have g0 : ¬ (-1 : Int) ≥ 0 := by omega
          simp only [run0, run1, run2, run3, run4, noSlot, memN, RO.dst, lk, drop, forget, number, Nat.reduceBEq, cut?, splice?, builds, List.length_cons, List.length_nil, List.drop_succ_cons, List.drop_zero, List.take_succ_cons, List.take_zero, List.cons_append, List.nil_append, List.append_nil, List.drop_nil, List.take_nil, Nat.reduceAdd, Nat.reduceLeDiff, Nat.zero_add, Nat.add_zero, ↓reduceIte, Bool.not_true, Bool.not_false, decide_true, decide_false, eq_self, bne_self_eq_false, List.getElem?_cons_zero, List.getElem?_cons_succ, decide_eq_true_eq, Bool.false_eq_true, Bool.true_eq_false, reduceCtorEq, Nat.le_refl, g0]
          refine ⟨_, ?_, o1.trans ((On.push h1 [[.int .u64 m.lo]]).trans (On.push _ [[.int .i64 0]]))⟩; simp [Store.atE, e]
        · rw [e]
          have g0 : (i : Int) ≥ 0 := by omega
          simp only [run0, run1, run2, run3, run4, noSlot, memN, RO.dst, lk, drop, forget, number, Nat.reduceBEq, cut?, splice?, builds, List.length_cons, List.length_nil, List.drop_succ_cons, List.drop_zero, List.take_succ_cons, List.take_zero, List.cons_append, List.nil_append, List.append_nil, List.drop_nil, List.take_nil, Nat.reduceAdd, Nat.reduceLeDiff, Nat.zero_add, Nat.add_zero, ↓reduceIte, Bool.not_true, Bool.not_false, decide_true, decide_false, eq_self, bne_self_eq_false, List.getElem?_cons_zero, List.getElem?_cons_succ, decide_eq_true_eq, Bool.false_eq_true, Bool.true_eq_false, reduceCtorEq, Nat.le_refl, g0, hx, hl, Shard.cells]
          refine ⟨_, ?_, o1.trans ((On.push h1 [[.int .u64 m.lo]]).trans (On.push _ [[.int .i64 0]]))⟩; simp [Store.atE, e]
      · by_cases c2 : m.step = 2
        · have hd : handHas s m = (decide (findId s.shards m.lo < 0) && decide (m.epoch ≤ s.seen)) := by rw [hdef]; simp [ht, c2]
          rw [hd]
          simp only [run0, run1, run2, run3, run4, noSlot, memN, RO.dst, lk, drop, forget, number, Nat.reduceBEq, cut?, splice?, builds, List.length_cons, List.length_nil, List.drop_succ_cons, List.drop_zero, List.take_succ_cons, List.take_zero, List.cons_append, List.nil_append, List.append_nil, List.drop_nil, List.take_nil, Nat.reduceAdd, Nat.reduceLeDiff, Nat.zero_add, Nat.add_zero, ↓reduceIte, Bool.not_true, Bool.not_false, decide_true, decide_false, eq_self, bne_self_eq_false, List.getElem?_cons_zero, List.getElem?_cons_succ, decide_eq_true_eq, Bool.false_eq_true, Bool.true_eq_false, reduceCtorEq, Nat.le_refl, e1, ht, bne_self_eq_false, c2, e2, Int.reduceBEq, beq_self_eq_true]
          (repeat' ((first | (rw [gF_if]; split) | (rw [condC_if]; split) | (rw [pickR_if]; split)) <;> (rename_i hh; (try simp only [Bool.not_eq_true, decide_eq_true_eq] at hh); simp only [hh, run0, run1, run2, run3, run4, noSlot, memN, RO.dst, lk, drop, forget, number, Nat.reduceBEq, cut?, splice?, builds, List.length_cons, List.length_nil, List.drop_succ_cons, List.drop_zero, List.take_succ_cons, List.take_zero, List.cons_append, List.nil_append, List.append_nil, List.drop_nil, List.take_nil, Nat.reduceAdd, Nat.reduceLeDiff, Nat.zero_add, Nat.add_zero, ↓reduceIte, Bool.not_true, Bool.not_false, decide_true, decide_false, eq_self, bne_self_eq_false, List.getElem?_cons_zero, List.getElem?_cons_succ, decide_eq_true_eq, Bool.false_eq_true, Bool.true_eq_false, reduceCtorEq, Nat.le_refl, e1]))) <;> (refine ⟨_, ?_, o1.trans (On.push h1 [[.int .u64 m.lo]])⟩; clear fd; simp_all)
        · by_cases c3 : m.step = 0
          · simp only [run0, run1, run2, run3, run4, noSlot, memN, RO.dst, lk, drop, forget, number, Nat.reduceBEq, cut?, splice?, builds, List.length_cons, List.length_nil, List.drop_succ_cons, List.drop_zero, List.take_succ_cons, List.take_zero, List.cons_append, List.nil_append, List.append_nil, List.drop_nil, List.take_nil, Nat.reduceAdd, Nat.reduceLeDiff, Nat.zero_add, Nat.add_zero, ↓reduceIte, Bool.not_true, Bool.not_false, decide_true, decide_false, eq_self, bne_self_eq_false, List.getElem?_cons_zero, List.getElem?_cons_succ, decide_eq_true_eq, Bool.false_eq_true, Bool.true_eq_false, reduceCtorEq, Nat.le_refl, e1, ht, bne_self_eq_false, c3, e3, Int.reduceBEq, beq_self_eq_true]
            have hd : handHas s m = s.atE m.lo 1 m.epoch := by rw [hdef]; simp [ht, c3]
            rw [hd]
            rcases fd 1 with e | ⟨i, e, hi, _, hx, z1, z2, hl⟩
            · rw [e]
              have g0 : ¬ (-1 : Int) ≥ 0 := by omega
              simp only [run0, run1, run2, run3, run4, noSlot, memN, RO.dst, lk, drop, forget, number, Nat.reduceBEq, cut?, splice?, builds, List.length_cons, List.length_nil, List.drop_succ_cons, List.drop_zero, List.take_succ_cons, List.take_zero, List.cons_append, List.nil_append, List.append_nil, List.drop_nil, List.take_nil, Nat.reduceAdd, Nat.reduceLeDiff, Nat.zero_add, Nat.add_zero, ↓reduceIte, Bool.not_true, Bool.not_false, decide_true, decide_false, eq_self, bne_self_eq_false, List.getElem?_cons_zero, List.getElem?_cons_succ, decide_eq_true_eq, Bool.false_eq_true, Bool.true_eq_false, reduceCtorEq, Nat.le_refl, g0]
              refine ⟨_, ?_, o1.trans ((On.push h1 [[.int .u64 m.lo]]).trans (On.push _ [[.int .i64 1]]))⟩; simp [Store.atE, e]
            · rw [e]
              have g0 : (i : Int) ≥ 0 := by omega
              simp only [run0, run1, run2, run3, run4, noSlot, memN, RO.dst, lk, drop, forget, number, Nat.reduceBEq, cut?, splice?, builds, List.length_cons, List.length_nil, List.drop_succ_cons, List.drop_zero, List.take_succ_cons, List.take_zero, List.cons_append, List.nil_append, List.append_nil, List.drop_nil, List.take_nil, Nat.reduceAdd, Nat.reduceLeDiff, Nat.zero_add, Nat.add_zero, ↓reduceIte, Bool.not_true, Bool.not_false, decide_true, decide_false, eq_self, bne_self_eq_false, List.getElem?_cons_zero, List.getElem?_cons_succ, decide_eq_true_eq, Bool.false_eq_true, Bool.true_eq_false, reduceCtorEq, Nat.le_refl, g0, hx, hl, Shard.cells]
              refine ⟨_, ?_, o1.trans ((On.push h1 [[.int .u64 m.lo]]).trans (On.push _ [[.int .i64 1]]))⟩; simp [Store.atE, e]
          · have hd : handHas s m = false := by rw [hdef]; simp [ht, c1, c2, c3]
            have d1 : (m.step == 1) = false := by simpa using c1
            have d2 : (m.step == 2) = false := by simpa using c2
            have d3 : (m.step == 0) = false := by simpa using c3
            rw [hd]
            simp only [run0, run1, run2, run3, run4, noSlot, memN, RO.dst, lk, drop, forget, number, Nat.reduceBEq, cut?, splice?, builds, List.length_cons, List.length_nil, List.drop_succ_cons, List.drop_zero, List.take_succ_cons, List.take_zero, List.cons_append, List.nil_append, List.append_nil, List.drop_nil, List.take_nil, Nat.reduceAdd, Nat.reduceLeDiff, Nat.zero_add, Nat.add_zero, ↓reduceIte, Bool.not_true, Bool.not_false, decide_true, decide_false, eq_self, bne_self_eq_false, List.getElem?_cons_zero, List.getElem?_cons_succ, decide_eq_true_eq, Bool.false_eq_true, Bool.true_eq_false, reduceCtorEq, Nat.le_refl, e1, ht, bne_self_eq_false, d1, d2, d3]
            exact ⟨_, rfl, o1⟩
    · have ht' : (m.to != s.group) = true := by simp [ht]
      simp only [run0, run1, run2, run3, run4, noSlot, memN, RO.dst, lk, drop, forget, number, Nat.reduceBEq, cut?, splice?, builds, List.length_cons, List.length_nil, List.drop_succ_cons, List.drop_zero, List.take_succ_cons, List.take_zero, List.cons_append, List.nil_append, List.append_nil, List.drop_nil, List.take_nil, Nat.reduceAdd, Nat.reduceLeDiff, Nat.zero_add, Nat.add_zero, ↓reduceIte, Bool.not_true, Bool.not_false, decide_true, decide_false, eq_self, bne_self_eq_false, List.getElem?_cons_zero, List.getElem?_cons_succ, decide_eq_true_eq, Bool.false_eq_true, Bool.true_eq_false, reduceCtorEq, Nat.le_refl, e1, ht']
      exact ⟨_, by rw [hdef]; simp [ht], o1⟩
set_option maxHeartbeats 4000000 in
theorem sHandHas_run (k : KS F) (hS15 : Has F tS15) (v : Store.RI h cs s fp) (u : HandMsg.RI h ms m fq) (ok : s.Ok) :
    call F Z 166 [.agg cs, .agg ms] h = some (.c (.bool (handHas s m)), h) := by
  have e1 := sStoreOk_run (Z := Z) k v ok
  have e2 := l13Find_run (Z := Z) k.s13 v m.lo
  have e3 := fun st => l13At_run (Z := Z) k.s13 (Store.okI.up v h.next) m.lo st
  have hdef : handHas s m = (s.good && ((m.to == s.group) && (bif m.step == 1 then s.atE m.lo 0 m.epoch else bif m.step == 2 then decide (findId s.shards m.lo < 0) && decide (m.epoch ≤ s.seen) else bif m.step == 0 then s.atE m.lo 1 m.epoch else false))) := rfl
  obtain ⟨y1, q1, y2, q2, rfl, rfl, _, _⟩ := u
  obtain ⟨x, p, rfl, rfl, w⟩ := v
  have fd := fun st => w.found (fun t => (t.lo == m.lo) && (t.state == st))
  change ∀ st, findAt s.shards m.lo st = -1 ∨ ∃ i : Nat, findAt s.shards m.lo st = (i : Int) ∧ _ at fd
  clear w
  rw [call_run F Z (hS15.lk (g := 166) rfl) _ _ rfl]
  generalize s.good = gd at *
  cases gd with
  | false =>
    simp only [run0, run1, run2, run3, run4, noSlot, memN, RO.dst, lk, drop, forget, number, Nat.reduceBEq, cut?, splice?, builds, List.length_cons, List.length_nil, List.drop_succ_cons, List.drop_zero, List.take_succ_cons, List.take_zero, List.cons_append, List.nil_append, List.append_nil, List.drop_nil, List.take_nil, Nat.reduceAdd, Nat.reduceLeDiff, Nat.zero_add, Nat.add_zero, ↓reduceIte, Bool.not_true, Bool.not_false, decide_true, decide_false, eq_self, bne_self_eq_false, List.getElem?_cons_zero, List.getElem?_cons_succ, decide_eq_true_eq, Bool.false_eq_true, Bool.true_eq_false, reduceCtorEq, Nat.le_refl, e1]
    rw [hdef]; rfl
  | true =>
    by_cases ht : m.to = s.group
    · by_cases c1 : m.step = 1
      · simp only [run0, run1, run2, run3, run4, noSlot, memN, RO.dst, lk, drop, forget, number, Nat.reduceBEq, cut?, splice?, builds, List.length_cons, List.length_nil, List.drop_succ_cons, List.drop_zero, List.take_succ_cons, List.take_zero, List.cons_append, List.nil_append, List.append_nil, List.drop_nil, List.take_nil, Nat.reduceAdd, Nat.reduceLeDiff, Nat.zero_add, Nat.add_zero, ↓reduceIte, Bool.not_true, Bool.not_false, decide_true, decide_false, eq_self, bne_self_eq_false, List.getElem?_cons_zero, List.getElem?_cons_succ, decide_eq_true_eq, Bool.false_eq_true, Bool.true_eq_false, reduceCtorEq, Nat.le_refl, e1, ht, bne_self_eq_false, c1, e3, Int.reduceBEq, beq_self_eq_true]
        have hd : handHas s m = s.atE m.lo 0 m.epoch := by rw [hdef]; simp [ht, c1]
        rw [hd]
        rcases fd 0 with e | ⟨i, e, hi, _, hx, z1, z2, hl⟩
        · rw [e]
          have g0 : ¬ (-1 : Int) ≥ 0 := by omega
          simp only [run0, run1, run2, run3, run4, noSlot, memN, RO.dst, lk, drop, forget, number, Nat.reduceBEq, cut?, splice?, builds, List.length_cons, List.length_nil, List.drop_succ_cons, List.drop_zero, List.take_succ_cons, List.take_zero, List.cons_append, List.nil_append, List.append_nil, List.drop_nil, List.take_nil, Nat.reduceAdd, Nat.reduceLeDiff, Nat.zero_add, Nat.add_zero, ↓reduceIte, Bool.not_true, Bool.not_false, decide_true, decide_false, eq_self, bne_self_eq_false, List.getElem?_cons_zero, List.getElem?_cons_succ, decide_eq_true_eq, Bool.false_eq_true, Bool.true_eq_false, reduceCtorEq, Nat.le_refl, g0]
          simp [Store.atE, e]
        · rw [e]
          have g0 : (i : Int) ≥ 0 := by omega
          simp only [run0, run1, run2, run3, run4, noSlot, memN, RO.dst, lk, drop, forget, number, Nat.reduceBEq, cut?, splice?, builds, List.length_cons, List.length_nil, List.drop_succ_cons, List.drop_zero, List.take_succ_cons, List.take_zero, List.cons_append, List.nil_append, List.append_nil, List.drop_nil, List.take_nil, Nat.reduceAdd, Nat.reduceLeDiff, Nat.zero_add, Nat.add_zero, ↓reduceIte, Bool.not_true, Bool.not_false, decide_true, decide_false, eq_self, bne_self_eq_false, List.getElem?_cons_zero, List.getElem?_cons_succ, decide_eq_true_eq, Bool.false_eq_true, Bool.true_eq_false, reduceCtorEq, Nat.le_refl, g0, hx, hl, Shard.cells]
          simp [Store.atE, e]
      · by_cases c2 : m.step = 2
        · have hd : handHas s m = (decide (findId s.shards m.lo < 0) && decide (m.epoch ≤ s.seen)) := by rw [hdef]; simp [ht, c2]
          rw [hd]
          simp only [run0, run1, run2, run3, run4, noSlot, memN, RO.dst, lk, drop, forget, number, Nat.reduceBEq, cut?, splice?, builds, List.length_cons, List.length_nil, List.drop_succ_cons, List.drop_zero, List.take_succ_cons, List.take_zero, List.cons_append, List.nil_append, List.append_nil, List.drop_nil, List.take_nil, Nat.reduceAdd, Nat.reduceLeDiff, Nat.zero_add, Nat.add_zero, ↓reduceIte, Bool.not_true, Bool.not_false, decide_true, decide_false, eq_self, bne_self_eq_false, List.getElem?_cons_zero, List.getElem?_cons_succ, decide_eq_true_eq, Bool.false_eq_true, Bool.true_eq_false, reduceCtorEq, Nat.le_refl, e1, ht, bne_self_eq_false, c2, e2, e3, Int.reduceBEq, beq_self_eq_true]
          (repeat' ((first | (rw [gF_if]; split) | (rw [condC_if]; split) | (rw [pickR_if]; split)) <;> (rename_i hh; (try simp only [Bool.not_eq_true, decide_eq_true_eq] at hh); simp only [hh, run0, run1, run2, run3, run4, noSlot, memN, RO.dst, lk, drop, forget, number, Nat.reduceBEq, cut?, splice?, builds, List.length_cons, List.length_nil, List.drop_succ_cons, List.drop_zero, List.take_succ_cons, List.take_zero, List.cons_append, List.nil_append, List.append_nil, List.drop_nil, List.take_nil, Nat.reduceAdd, Nat.reduceLeDiff, Nat.zero_add, Nat.add_zero, ↓reduceIte, Bool.not_true, Bool.not_false, decide_true, decide_false, eq_self, bne_self_eq_false, List.getElem?_cons_zero, List.getElem?_cons_succ, decide_eq_true_eq, Bool.false_eq_true, Bool.true_eq_false, reduceCtorEq, Nat.le_refl, e1]))) <;> (clear fd; simp_all)
        · by_cases c3 : m.step = 0
          · simp only [run0, run1, run2, run3, run4, noSlot, memN, RO.dst, lk, drop, forget, number, Nat.reduceBEq, cut?, splice?, builds, List.length_cons, List.length_nil, List.drop_succ_cons, List.drop_zero, List.take_succ_cons, List.take_zero, List.cons_append, List.nil_append, List.append_nil, List.drop_nil, List.take_nil, Nat.reduceAdd, Nat.reduceLeDiff, Nat.zero_add, Nat.add_zero, ↓reduceIte, Bool.not_true, Bool.not_false, decide_true, decide_false, eq_self, bne_self_eq_false, List.getElem?_cons_zero, List.getElem?_cons_succ, decide_eq_true_eq, Bool.false_eq_true, Bool.true_eq_false, reduceCtorEq, Nat.le_refl, e1, ht, bne_self_eq_false, c3, e3, Int.reduceBEq, beq_self_eq_true]
            have hd : handHas s m = s.atE m.lo 1 m.epoch := by rw [hdef]; simp [ht, c3]
            rw [hd]
            rcases fd 1 with e | ⟨i, e, hi, _, hx, z1, z2, hl⟩
            · rw [e]
              have g0 : ¬ (-1 : Int) ≥ 0 := by omega
              simp only [run0, run1, run2, run3, run4, noSlot, memN, RO.dst, lk, drop, forget, number, Nat.reduceBEq, cut?, splice?, builds, List.length_cons, List.length_nil, List.drop_succ_cons, List.drop_zero, List.take_succ_cons, List.take_zero, List.cons_append, List.nil_append, List.append_nil, List.drop_nil, List.take_nil, Nat.reduceAdd, Nat.reduceLeDiff, Nat.zero_add, Nat.add_zero, ↓reduceIte, Bool.not_true, Bool.not_false, decide_true, decide_false, eq_self, bne_self_eq_false, List.getElem?_cons_zero, List.getElem?_cons_succ, decide_eq_true_eq, Bool.false_eq_true, Bool.true_eq_false, reduceCtorEq, Nat.le_refl, g0]
              simp [Store.atE, e]
            · rw [e]
              have g0 : (i : Int) ≥ 0 := by omega
              simp only [run0, run1, run2, run3, run4, noSlot, memN, RO.dst, lk, drop, forget, number, Nat.reduceBEq, cut?, splice?, builds, List.length_cons, List.length_nil, List.drop_succ_cons, List.drop_zero, List.take_succ_cons, List.take_zero, List.cons_append, List.nil_append, List.append_nil, List.drop_nil, List.take_nil, Nat.reduceAdd, Nat.reduceLeDiff, Nat.zero_add, Nat.add_zero, ↓reduceIte, Bool.not_true, Bool.not_false, decide_true, decide_false, eq_self, bne_self_eq_false, List.getElem?_cons_zero, List.getElem?_cons_succ, decide_eq_true_eq, Bool.false_eq_true, Bool.true_eq_false, reduceCtorEq, Nat.le_refl, g0, hx, hl, Shard.cells]
              simp [Store.atE, e]
          · have hd : handHas s m = false := by rw [hdef]; simp [ht, c1, c2, c3]
            have d1 : (m.step == 1) = false := by simpa using c1
            have d2 : (m.step == 2) = false := by simpa using c2
            have d3 : (m.step == 0) = false := by simpa using c3
            rw [hd]
            simp only [run0, run1, run2, run3, run4, noSlot, memN, RO.dst, lk, drop, forget, number, Nat.reduceBEq, cut?, splice?, builds, List.length_cons, List.length_nil, List.drop_succ_cons, List.drop_zero, List.take_succ_cons, List.take_zero, List.cons_append, List.nil_append, List.append_nil, List.drop_nil, List.take_nil, Nat.reduceAdd, Nat.reduceLeDiff, Nat.zero_add, Nat.add_zero, ↓reduceIte, Bool.not_true, Bool.not_false, decide_true, decide_false, eq_self, bne_self_eq_false, List.getElem?_cons_zero, List.getElem?_cons_succ, decide_eq_true_eq, Bool.false_eq_true, Bool.true_eq_false, reduceCtorEq, Nat.le_refl, e1, ht, bne_self_eq_false, d1, d2, d3, e3]
    · have ht' : (s.group != m.to) = true := by simp; exact fun e => ht e.symm
      simp only [run0, run1, run2, run3, run4, noSlot, memN, RO.dst, lk, drop, forget, number, Nat.reduceBEq, cut?, splice?, builds, List.length_cons, List.length_nil, List.drop_succ_cons, List.drop_zero, List.take_succ_cons, List.take_zero, List.cons_append, List.nil_append, List.append_nil, List.drop_nil, List.take_nil, Nat.reduceAdd, Nat.reduceLeDiff, Nat.zero_add, Nat.add_zero, ↓reduceIte, Bool.not_true, Bool.not_false, decide_true, decide_false, eq_self, bne_self_eq_false, List.getElem?_cons_zero, List.getElem?_cons_succ, decide_eq_true_eq, Bool.false_eq_true, Bool.true_eq_false, reduceCtorEq, Nat.le_refl, e1, ht']
      rw [hdef]; simp [ht]
theorem HandHas_c (k : KI F) (hI15 : Has F tI15) (hL : Has F tLibslicesIndexFuncimplShardimplShard) (hf : h.floor ≤ h.next) (v : Store.RI h cs s fp) (u : HandMsg.RI h ms m fq) (ok : s.Ok) :
    ∃ h', call F Z 167 [.agg cs, .agg ms] h = some (.c (.bool (handHas s m)), h') ∧ On h h' := HandHas_run k hI15 hL v u ok
theorem sHandHas_c (k : KS F) (hS15 : Has F tS15) (hf : h.floor ≤ h.next) (v : Store.RI h cs s fp) (u : HandMsg.RI h ms m fq) (ok : s.Ok) :
    ∃ h', call F Z 166 [.agg cs, .agg ms] h = some (.c (.bool (handHas s m)), h') ∧ On h h' := ⟨h, sHandHas_run k hS15 v u ok, On.refl h⟩
end
end Go.Proofs.Ytlfepembgjjejaa.A
/- What the converters of slices of Store compute. -/
namespace Go.Proofs.Ytlfepembgjjejaa.A
open Go
set_option linter.unusedSimpArgs false
set_option linter.unusedVariables false
def Store.zeroC : List Cell := [.int .i64 0, .int .i64 0, .nil]
theorem Wf.isStoreS' {h : Heap} {n : Nat} {a : List Cell} (w : Wf h (n + 8) shStoreS a) : ∃ x xs fp, a = [x] ∧ SlR 17 Store.RL h x xs fp ∧ ∀ t, t ∈ xs → t.Ok := by
  have hx : ∃ x, a = [x] := by rcases w with w | ⟨_, _, w, _⟩ <;> exact ⟨_, w⟩
  obtain ⟨x, rfl⟩ := hx
  obtain ⟨xs, fp, v, ok⟩ := SlR.ofWf (R := Store.RL) (A := fun t => t.Ok) (fun r hr => by obtain ⟨t, fp, v, ok⟩ := Wf.isStore hr.2; exact ⟨t, fp, v, ok⟩) w
  exact ⟨x, xs, fp, rfl, v, ok⟩
section
variable {F : Nat → Option RF} {Z : CallF} {h : Heap} {x y : Cell} {xs ys : List Store} {fp fq : List Nat}
theorem szStoreS_c (hLStore : Has F tLStore) (hLShard : Has F tLShard) (hLBook : Has F tLBook) (hLAccount : Has F tLAccount) (hLFin : Has F tLFin) (w : SlR 17 Store.RL h x xs fp) (left : Int) (h1 : 0 ≤ left) (h2 : left ≤ 1048576) : ∃ r, call F Z 169 [.c x, .c (.int .i64 left)] h = some (.c (.int .i64 r), h) ∧ r ≤ left ∧ (0 ≤ r → xs.length ≤ 1048576 ∧ ∀ a, a ∈ xs → a.Small) := by
  have hle := w.le2
  rw [call_run F Z (hLStore.lk (g := 169) rfl) _ _ rfl]
  simp only [run0, run1, run2, run3, run4, noSlot, memN, RO.dst, lk, drop, forget, number, Nat.reduceBEq, cut?, splice?, builds, List.length_cons, List.length_nil, List.drop_succ_cons, List.drop_zero, List.take_succ_cons, List.take_zero, List.cons_append, List.nil_append, List.append_nil, List.drop_nil, List.take_nil, Nat.reduceAdd, Nat.reduceLeDiff, Nat.zero_add, Nat.add_zero, ↓reduceIte, Bool.not_true, Bool.not_false, decide_true, decide_false, eq_self, bne_self_eq_false, List.getElem?_cons_zero, List.getElem?_cons_succ, decide_eq_true_eq, Bool.false_eq_true, Bool.true_eq_false, reduceCtorEq, Nat.le_refl, w.len, wrapI (left - xs.length) (by omega) (by omega)]
  by_cases n0 : left - xs.length < 0
  · simp only [run0, run1, run2, run3, run4, noSlot, memN, RO.dst, lk, drop, forget, number, Nat.reduceBEq, cut?, splice?, builds, List.length_cons, List.length_nil, List.drop_succ_cons, List.drop_zero, List.take_succ_cons, List.take_zero, List.cons_append, List.nil_append, List.append_nil, List.drop_nil, List.take_nil, Nat.reduceAdd, Nat.reduceLeDiff, Nat.zero_add, Nat.add_zero, ↓reduceIte, Bool.not_true, Bool.not_false, decide_true, decide_false, eq_self, bne_self_eq_false, List.getElem?_cons_zero, List.getElem?_cons_succ, decide_eq_true_eq, Bool.false_eq_true, Bool.true_eq_false, reduceCtorEq, Nat.le_refl, n0]
    exact ⟨_, rfl, by omega, by omega⟩
  simp only [run0, run1, run2, run3, run4, noSlot, memN, RO.dst, lk, drop, forget, number, Nat.reduceBEq, cut?, splice?, builds, List.length_cons, List.length_nil, List.drop_succ_cons, List.drop_zero, List.take_succ_cons, List.take_zero, List.cons_append, List.nil_append, List.append_nil, List.drop_nil, List.take_nil, Nat.reduceAdd, Nat.reduceLeDiff, Nat.zero_add, Nat.add_zero, ↓reduceIte, Bool.not_true, Bool.not_false, decide_true, decide_false, eq_self, bne_self_eq_false, List.getElem?_cons_zero, List.getElem?_cons_succ, decide_eq_true_eq, Bool.false_eq_true, Bool.true_eq_false, reduceCtorEq, Nat.le_refl, n0]
  rcases loop_rel (F := F) (Z := Z) (live := [0, 1, 5]) (b := r169L0) xs.length (fun i s => ∃ l, s = ⟨[(0, .c x), (1, .c (.int .i64 l)), (5, .c (.int .i64 (i : Nat)))], [], [], h⟩ ∧ 0 ≤ l ∧ l ≤ left ∧ ∀ a, a ∈ xs.take i → a.Small) (fun s => lk s.env 4 = some (.c (.int .i64 (-1))) ∧ s.hp = h) (fun i s hi ⟨l, hs, q1, q2, q3⟩ => by
    subst hs
    obtain ⟨r, f, hld, hr, _⟩ := w.one hi
    obtain ⟨l1, l2, l3⟩ := Store.lenL hr
    obtain ⟨l', e, k1, k2⟩ := szStore_c (Z := Z) hLStore hLShard hLBook hLAccount hLFin hr l q1 (by omega)
    have hlt : (i : Int) < xs.length := by omega
    rw [loop_run]
    conv in (codeF _ _ r169L0 _) => unfold r169L0
    simp only [run0, run1, run2, run3, run4, noSlot, memN, RO.dst, lk, drop, forget, number, Nat.reduceBEq, cut?, splice?, builds, List.length_cons, List.length_nil, List.drop_succ_cons, List.drop_zero, List.take_succ_cons, List.take_zero, List.cons_append, List.nil_append, List.append_nil, List.drop_nil, List.take_nil, Nat.reduceAdd, Nat.reduceLeDiff, Nat.zero_add, Nat.add_zero, ↓reduceIte, Bool.not_true, Bool.not_false, decide_true, decide_false, eq_self, bne_self_eq_false, List.getElem?_cons_zero, List.getElem?_cons_succ, decide_eq_true_eq, Bool.false_eq_true, Bool.true_eq_false, reduceCtorEq, Nat.le_refl, w.len, hlt, w.idx hi, hld, l1, l2, e]
    by_cases n1 : l' < 0
    · simp only [run0, run1, run2, run3, run4, noSlot, memN, RO.dst, lk, drop, forget, number, Nat.reduceBEq, cut?, splice?, builds, List.length_cons, List.length_nil, List.drop_succ_cons, List.drop_zero, List.take_succ_cons, List.take_zero, List.cons_append, List.nil_append, List.append_nil, List.drop_nil, List.take_nil, Nat.reduceAdd, Nat.reduceLeDiff, Nat.zero_add, Nat.add_zero, ↓reduceIte, Bool.not_true, Bool.not_false, decide_true, decide_false, eq_self, bne_self_eq_false, List.getElem?_cons_zero, List.getElem?_cons_succ, decide_eq_true_eq, Bool.false_eq_true, Bool.true_eq_false, reduceCtorEq, Nat.le_refl, n1]
      exact Or.inr ⟨_, rfl, rfl, rfl⟩
    · simp only [run0, run1, run2, run3, run4, noSlot, memN, RO.dst, lk, drop, forget, number, Nat.reduceBEq, cut?, splice?, builds, List.length_cons, List.length_nil, List.drop_succ_cons, List.drop_zero, List.take_succ_cons, List.take_zero, List.cons_append, List.nil_append, List.append_nil, List.drop_nil, List.take_nil, Nat.reduceAdd, Nat.reduceLeDiff, Nat.zero_add, Nat.add_zero, ↓reduceIte, Bool.not_true, Bool.not_false, decide_true, decide_false, eq_self, bne_self_eq_false, List.getElem?_cons_zero, List.getElem?_cons_succ, decide_eq_true_eq, Bool.false_eq_true, Bool.true_eq_false, reduceCtorEq, Nat.le_refl, n1, wrapS i (by omega)]
      refine Or.inl ⟨_, ⟨l', rfl, by omega, by omega, fun a ha => ?_⟩, rfl⟩
      rw [List.take_add_one, List.getElem?_eq_getElem hi] at ha
      rcases List.mem_append.1 ha with ha | ha
      · exact q3 a ha
      · simp at ha; subst ha; exact k2 (by omega)) (s := ⟨[(0, .c x), (1, .c (.int .i64 (left - xs.length))), (5, .c (.int .i64 (0 : Nat)))], [], [], h⟩) ⟨_, rfl, by omega, by omega, fun a ha => by simp at ha⟩ with ⟨s', ⟨l, hs', q1, q2, q3⟩, l1⟩ | ⟨s', l1, q1, q2⟩
  · subst hs'
    simp only [show ((0 : Nat) : Int) = 0 from rfl] at l1
    rw [l1, loop_run]
    conv in (codeF _ _ r169L0 _) => unfold r169L0
    have hlt : ¬ (xs.length : Int) < xs.length := by omega
    simp only [run0, run1, run2, run3, run4, noSlot, memN, RO.dst, lk, drop, forget, number, Nat.reduceBEq, cut?, splice?, builds, List.length_cons, List.length_nil, List.drop_succ_cons, List.drop_zero, List.take_succ_cons, List.take_zero, List.cons_append, List.nil_append, List.append_nil, List.drop_nil, List.take_nil, Nat.reduceAdd, Nat.reduceLeDiff, Nat.zero_add, Nat.add_zero, ↓reduceIte, Bool.not_true, Bool.not_false, decide_true, decide_false, eq_self, bne_self_eq_false, List.getElem?_cons_zero, List.getElem?_cons_succ, decide_eq_true_eq, Bool.false_eq_true, Bool.true_eq_false, reduceCtorEq, Nat.le_refl, w.len, hlt]
    rw [List.take_length] at q3
    exact ⟨_, rfl, by omega, fun _ => ⟨by omega, q3⟩⟩
  · simp only [show ((0 : Nat) : Int) = 0 from rfl] at l1
    rw [l1]
    simp only [run0, run1, run2, run3, run4, noSlot, memN, RO.dst, lk, drop, forget, number, Nat.reduceBEq, cut?, splice?, builds, List.length_cons, List.length_nil, List.drop_succ_cons, List.drop_zero, List.take_succ_cons, List.take_zero, List.cons_append, List.nil_append, List.append_nil, List.drop_nil, List.take_nil, Nat.reduceAdd, Nat.reduceLeDiff, Nat.zero_add, Nat.add_zero, ↓reduceIte, Bool.not_true, Bool.not_false, decide_true, decide_false, eq_self, bne_self_eq_false, List.getElem?_cons_zero, List.getElem?_cons_succ, decide_eq_true_eq, Bool.false_eq_true, Bool.true_eq_false, reduceCtorEq, Nat.le_refl, q1, q2]
    exact ⟨_, rfl, by omega, by omega⟩
theorem toStoreS_c (hLStore : Has F tLStore) (hLShard : Has F tLShard) (hLBook : Has F tLBook) (hLAccount : Has F tLAccount) (hLFin : Has F tLFin) (hf : h.floor ≤ h.next) (w : SlR 17 Store.RL h x xs fp) (sm : xs.length ≤ 1048576 ∧ ∀ a, a ∈ xs → a.Small) : ∃ y h' fq, call F Z 170 [.c x] h = some (.c y, h') ∧ On h h' ∧ SlR 18 Store.RI h' y xs fq ∧ Fre h fq := by
  obtain ⟨hn, sm⟩ := sm
  rw [call_run F Z (hLStore.lk (g := 170) rfl) _ _ rfl]
  simp only [run0, run1, run2, run3, run4, noSlot, memN, RO.dst, lk, drop, forget, number, Nat.reduceBEq, cut?, splice?, builds, List.length_cons, List.length_nil, List.drop_succ_cons, List.drop_zero, List.take_succ_cons, List.take_zero, List.cons_append, List.nil_append, List.append_nil, List.drop_nil, List.take_nil, Nat.reduceAdd, Nat.reduceLeDiff, Nat.zero_add, Nat.add_zero, ↓reduceIte, Bool.not_true, Bool.not_false, decide_true, decide_false, eq_self, bne_self_eq_false, List.getElem?_cons_zero, List.getElem?_cons_succ, decide_eq_true_eq, Bool.false_eq_true, Bool.true_eq_false, reduceCtorEq, Nat.le_refl, w.len]
  rw [if_pos (by omega)]
  simp only [run0, run1, run2, run3, run4, noSlot, memN, RO.dst, lk, drop, forget, number, Nat.reduceBEq, cut?, splice?, builds, List.length_cons, List.length_nil, List.drop_succ_cons, List.drop_zero, List.take_succ_cons, List.take_zero, List.cons_append, List.nil_append, List.append_nil, List.drop_nil, List.take_nil, Nat.reduceAdd, Nat.reduceLeDiff, Nat.zero_add, Nat.add_zero, ↓reduceIte, Bool.not_true, Bool.not_false, decide_true, decide_false, eq_self, bne_self_eq_false, List.getElem?_cons_zero, List.getElem?_cons_succ, decide_eq_true_eq, Bool.false_eq_true, Bool.true_eq_false, reduceCtorEq, Nat.le_refl, Int.toNat_natCast]
  obtain ⟨s', ⟨g, rows, fps, hs', fl⟩, l1⟩ := loop_goes (F := F) (Z := Z) (live := [0, 3, 4]) (b := r170L0) xs.length (fun i s => ∃ g rows fps, s = ⟨[(0, .c x), (3, .c (.sl 18 h.next 0 xs.length)), (4, .c (.int .i64 (i : Nat)))], [], [], g⟩ ∧ Filled Store.RI h g h.next Store.zeroC xs i rows fps) (fun i s hi ⟨g, rows, fps, hs, fl⟩ => by
    subst hs
    have wg := w.mono Store.okL fl.on.ext
    obtain ⟨r, f, hld, hr, _⟩ := wg.one hi
    obtain ⟨l1, l2, l3⟩ := Store.lenL hr
    obtain ⟨cs', g', fq, e, o', v, fr⟩ := toStore_c (Z := Z) hLStore hLShard hLBook hLAccount hLFin (fl.on.le hf) hr (sm _ (List.getElem_mem hi))
    obtain ⟨vl, _, _⟩ := Store.lenI v
    obtain ⟨st, fl'⟩ := fl.step Store.okI hf hi vl o' v fr
    have hlt : (i : Int) < xs.length := by omega
    have h0 : (0 : Int) ≤ i := by omega
    rw [loop_run]
    conv in (codeF _ _ r170L0 _) => unfold r170L0
    simp only [run0, run1, run2, run3, run4, noSlot, memN, RO.dst, lk, drop, forget, number, Nat.reduceBEq, cut?, splice?, builds, List.length_cons, List.length_nil, List.drop_succ_cons, List.drop_zero, List.take_succ_cons, List.take_zero, List.cons_append, List.nil_append, List.append_nil, List.drop_nil, List.take_nil, Nat.reduceAdd, Nat.reduceLeDiff, Nat.zero_add, Nat.add_zero, ↓reduceIte, Bool.not_true, Bool.not_false, decide_true, decide_false, eq_self, bne_self_eq_false, List.getElem?_cons_zero, List.getElem?_cons_succ, decide_eq_true_eq, Bool.false_eq_true, Bool.true_eq_false, reduceCtorEq, Nat.le_refl, w.len, hlt, w.idx hi, hld, l1, l2, e, h0, and_self, Int.toNat_natCast, vl, st, wrapS i (by omega)]
    exact ⟨_, ⟨_, _, _, rfl, fl'⟩, rfl⟩) (s := ⟨[(0, .c x), (3, .c (.sl 18 h.next 0 xs.length)), (4, .c (.int .i64 (0 : Nat)))], [], [], h.push (List.replicate xs.length Store.zeroC)⟩) ⟨_, _, _, rfl, Filled.start h Store.zeroC xs⟩
  subst hs'
  simp only [show ((0 : Nat) : Int) = 0 from rfl, Store.zeroC] at l1
  rw [l1, loop_run]
  conv in (codeF _ _ r170L0 _) => unfold r170L0
  have hlt : ¬ (xs.length : Int) < xs.length := by omega
  simp only [run0, run1, run2, run3, run4, noSlot, memN, RO.dst, lk, drop, forget, number, Nat.reduceBEq, cut?, splice?, builds, List.length_cons, List.length_nil, List.drop_succ_cons, List.drop_zero, List.take_succ_cons, List.take_zero, List.cons_append, List.nil_append, List.append_nil, List.drop_nil, List.take_nil, Nat.reduceAdd, Nat.reduceLeDiff, Nat.zero_add, Nat.add_zero, ↓reduceIte, Bool.not_true, Bool.not_false, decide_true, decide_false, eq_self, bne_self_eq_false, List.getElem?_cons_zero, List.getElem?_cons_succ, decide_eq_true_eq, Bool.false_eq_true, Bool.true_eq_false, reduceCtorEq, Nat.le_refl, w.len, hlt]
  obtain ⟨o, v, f⟩ := fl.all hn 18
  exact ⟨_, _, _, rfl, o, v, f⟩
theorem eqStoreS_r (hLStore : Has F tLStore) (hLShard : Has F tLShard) (hLBook : Has F tLBook) (hLAccount : Has F tLAccount) (hLFin : Has F tLFin) (w : SlR 18 Store.RI h x xs fp) (v : SlR 18 Store.RI h y ys fq) : call F Z 173 [.c x, .c y] h = some (.c (.bool (decide (xs = ys))), h) := by
  have hw := w.le2
  have hv := v.le2
  rw [call_run F Z (hLStore.lk (g := 173) rfl) _ _ rfl]
  simp only [run0, run1, run2, run3, run4, noSlot, memN, RO.dst, lk, drop, forget, number, Nat.reduceBEq, cut?, splice?, builds, List.length_cons, List.length_nil, List.drop_succ_cons, List.drop_zero, List.take_succ_cons, List.take_zero, List.cons_append, List.nil_append, List.append_nil, List.drop_nil, List.take_nil, Nat.reduceAdd, Nat.reduceLeDiff, Nat.zero_add, Nat.add_zero, ↓reduceIte, Bool.not_true, Bool.not_false, decide_true, decide_false, eq_self, bne_self_eq_false, List.getElem?_cons_zero, List.getElem?_cons_succ, decide_eq_true_eq, Bool.false_eq_true, Bool.true_eq_false, reduceCtorEq, Nat.le_refl, w.len, v.len]
  rw [condC_if]
  split
  · rename_i hne
    have : xs ≠ ys := by rintro rfl; simp at hne
    simp only [run0, run1, run2, run3, run4, noSlot, memN, RO.dst, lk, drop, forget, number, Nat.reduceBEq, cut?, splice?, builds, List.length_cons, List.length_nil, List.drop_succ_cons, List.drop_zero, List.take_succ_cons, List.take_zero, List.cons_append, List.nil_append, List.append_nil, List.drop_nil, List.take_nil, Nat.reduceAdd, Nat.reduceLeDiff, Nat.zero_add, Nat.add_zero, ↓reduceIte, Bool.not_true, Bool.not_false, decide_true, decide_false, eq_self, bne_self_eq_false, List.getElem?_cons_zero, List.getElem?_cons_succ, decide_eq_true_eq, Bool.false_eq_true, Bool.true_eq_false, reduceCtorEq, Nat.le_refl, this]
  · rename_i he
    have he : xs.length = ys.length := by simp at he; omega
    simp only [run0, run1, run2, run3, run4, noSlot, memN, RO.dst, lk, drop, forget, number, Nat.reduceBEq, cut?, splice?, builds, List.length_cons, List.length_nil, List.drop_succ_cons, List.drop_zero, List.take_succ_cons, List.take_zero, List.cons_append, List.nil_append, List.append_nil, List.drop_nil, List.take_nil, Nat.reduceAdd, Nat.reduceLeDiff, Nat.zero_add, Nat.add_zero, ↓reduceIte, Bool.not_true, Bool.not_false, decide_true, decide_false, eq_self, bne_self_eq_false, List.getElem?_cons_zero, List.getElem?_cons_succ, decide_eq_true_eq, Bool.false_eq_true, Bool.true_eq_false, reduceCtorEq, Nat.le_refl]
    have key := loop_allN (F := F) (Z := Z) (live := [0, 1, 5]) (b := r173L0) xs.length (fun i => ⟨[(0, .c x), (1, .c y), (5, .c (.int .i64 (i : Nat)))], [], [], h⟩) (fun i => decide (xs[i]? = ys[i]?)) (fun s => lk s.env 4 = some (.c (.bool false)) ∧ s.hp = h) fun i hi => by
      have hi' : i < ys.length := by omega
      have hlt : (i : Int) < xs.length := by omega
      obtain ⟨r, f, hld, hr, _⟩ := w.one hi
      obtain ⟨r', f', hld', hr', _⟩ := v.one hi'
      obtain ⟨l1, l2, l3⟩ := Store.lenI hr
      obtain ⟨l1', l2', l3'⟩ := Store.lenI hr'
      have e := eqStore_r (Z := Z) (h := ⟨h.next, h.next, h.get⟩) hLStore hLShard hLBook hLAccount hLFin (Store.okI.up hr _) (Store.okI.up hr' _)
      rw [loop_run]
      conv in (codeF _ _ r173L0 _) => unfold r173L0
      simp only [run0, run1, run2, run3, run4, noSlot, memN, RO.dst, lk, drop, forget, number, Nat.reduceBEq, cut?, splice?, builds, List.length_cons, List.length_nil, List.drop_succ_cons, List.drop_zero, List.take_succ_cons, List.take_zero, List.cons_append, List.nil_append, List.append_nil, List.drop_nil, List.take_nil, Nat.reduceAdd, Nat.reduceLeDiff, Nat.zero_add, Nat.add_zero, ↓reduceIte, Bool.not_true, Bool.not_false, decide_true, decide_false, eq_self, bne_self_eq_false, List.getElem?_cons_zero, List.getElem?_cons_succ, decide_eq_true_eq, Bool.false_eq_true, Bool.true_eq_false, reduceCtorEq, Nat.le_refl, w.len, hlt, w.idx hi, v.idx hi', hld, hld', l1, l2, l1', l2', e, wrapS i (by omega)]
      rw [List.getElem?_eq_getElem hi, List.getElem?_eq_getElem hi']
      clear e hld hld' hr hr' l1 l2 l3 l1' l2' l3'
      (repeat' ((first | (rw [gF_if]; split) | (rw [condC_if]; split) | (rw [pickR_if]; split)) <;> (rename_i hh; (try simp only [Bool.not_eq_true, decide_eq_true_eq] at hh); simp only [hh, run0, run1, run2, run3, run4, noSlot, memN, RO.dst, lk, drop, forget, number, Nat.reduceBEq, cut?, splice?, builds, List.length_cons, List.length_nil, List.drop_succ_cons, List.drop_zero, List.take_succ_cons, List.take_zero, List.cons_append, List.nil_append, List.append_nil, List.drop_nil, List.take_nil, Nat.reduceAdd, Nat.reduceLeDiff, Nat.zero_add, Nat.add_zero, ↓reduceIte, Bool.not_true, Bool.not_false, decide_true, decide_false, eq_self, bne_self_eq_false, List.getElem?_cons_zero, List.getElem?_cons_succ, decide_eq_true_eq, Bool.false_eq_true, Bool.true_eq_false, reduceCtorEq, Nat.le_refl, wrapS i (by omega)])))
      · exact .inr ⟨by simp_all, _, rfl, rfl, rfl⟩
      · exact .inl ⟨by simp_all, rfl⟩
    rw [all_same he] at key
    rcases key with ⟨k1, k2⟩ | ⟨k1, s, k2, k3, k4⟩
    · simp only [show ((0 : Nat) : Int) = 0 from rfl] at k2
      rw [k2, loop_run]
      conv in (codeF _ _ r173L0 _) => unfold r173L0
      have hlt : ¬ (xs.length : Int) < xs.length := by omega
      simp only [run0, run1, run2, run3, run4, noSlot, memN, RO.dst, lk, drop, forget, number, Nat.reduceBEq, cut?, splice?, builds, List.length_cons, List.length_nil, List.drop_succ_cons, List.drop_zero, List.take_succ_cons, List.take_zero, List.cons_append, List.nil_append, List.append_nil, List.drop_nil, List.take_nil, Nat.reduceAdd, Nat.reduceLeDiff, Nat.zero_add, Nat.add_zero, ↓reduceIte, Bool.not_true, Bool.not_false, decide_true, decide_false, eq_self, bne_self_eq_false, List.getElem?_cons_zero, List.getElem?_cons_succ, decide_eq_true_eq, Bool.false_eq_true, Bool.true_eq_false, reduceCtorEq, Nat.le_refl, w.len, hlt, k1]
    · simp only [show ((0 : Nat) : Int) = 0 from rfl] at k2
      rw [k2]
      simp only [run0, run1, run2, run3, run4, noSlot, memN, RO.dst, lk, drop, forget, number, Nat.reduceBEq, cut?, splice?, builds, List.length_cons, List.length_nil, List.drop_succ_cons, List.drop_zero, List.take_succ_cons, List.take_zero, List.cons_append, List.nil_append, List.append_nil, List.drop_nil, List.take_nil, Nat.reduceAdd, Nat.reduceLeDiff, Nat.zero_add, Nat.add_zero, ↓reduceIte, Bool.not_true, Bool.not_false, decide_true, decide_false, eq_self, bne_self_eq_false, List.getElem?_cons_zero, List.getElem?_cons_succ, decide_eq_true_eq, Bool.false_eq_true, Bool.true_eq_false, reduceCtorEq, Nat.le_refl, k3, k4, k1]
end
end Go.Proofs.Ytlfepembgjjejaa.A
/- The compact code of some functions: slices.ContainsFunc[[]impl.Shard,impl.Shard]. -/
namespace Go.Proofs.Ytlfepembgjjejaa.A
open Go
/-- slices.ContainsFunc[[]impl.Shard,impl.Shard] -/
def r218 : RF :=
 ⟨2, [.tmp 4],
 .seq (.reg [⟨none, .mov 4 (.k (.bool false))⟩])
 (.seq (.reg [⟨none, .mov 5 (.t 0)⟩,
  ⟨none, .mov 6 (.t 1)⟩,
  ⟨none, .call (some 7) 248 [(.t 5), (.t 6)] false⟩,
  ⟨none, .bin 8 .geq (.t 7) (.k (.int .i64 0))⟩,
  ⟨none, .mov 4 (.t 8)⟩])
 (.ret))⟩
/-- The functions of this text, with their numbers. -/
def tLibslicesContainsFuncimplShardimplShard : List (Nat × RF) := [(218, r218)]
end Go.Proofs.Ytlfepembgjjejaa.A
/- Stores that are right, all of them; the sum of what is live. -/
namespace Go.Proofs.Ytlfepembgjjejaa.A
open Go
set_option linter.unusedSimpArgs false
set_option linter.unusedVariables false
/-- What the checks of lists of stores reach. -/
structure KA (F : Nat → Option RF) : Prop where
  i15 : Has F tI15
  lt : Has F tLibslicesIndexFuncimplStoreimplStore
  lct : Has F tLibslicesContainsFuncimplStoreimplStore
/-- The functions that hand-overs reach, beyond shards'. -/
structure KH (F : Nat → Option RF) : Prop where
  i15 : Has F tI15
  ls : Has F tLibslicesIndexFuncimplShardimplShard
  lcs : Has F tLibslicesContainsFuncimplShardimplShard
  lt : Has F tLibslicesIndexFuncimplStoreimplStore
  lct : Has F tLibslicesContainsFuncimplStoreimplStore
theorem KH.a {F : Nat → Option RF} (q : KH F) : KA F := ⟨q.i15, q.lt, q.lct⟩
def areStores (l : List Store) : Bool := decide ((l.length : Int) ≤ 40) && l.all Store.good
/-- Has y a later epoch than x, and an id in common? -/
def Shard.newer (x y : Shard) : Bool := decide (y.epoch > x.epoch) && (decide (y.lo ≤ x.hi) && decide (x.lo ≤ y.hi))
def liveOf (all : List Shard) (x : Shard) : Int := bif all.any x.newer then 0 else x.money
def liveTotal (l : List Store) : Int × Int := bif areStores l then (wHi (sumI (liveOf (l.flatMap Store.shards)) (l.flatMap Store.shards)), wLo (sumI (liveOf (l.flatMap Store.shards)) (l.flatMap Store.shards))) else (0, 0)
section
variable {F : Nat → Option RF} {Z : CallF} {h : Heap} {x y : Cell} {l : List Store} {xs : List Shard} {fp fq : List Nat} {cs : List Cell}
theorem indexStore_run (k : KI F) (q : KA F) (w : SlR 18 Store.RI h x l fp) (ok : ∀ a, a ∈ l → a.Ok) : ∃ h', call F Z 268 [.c x, .c (.fn 250 [])] h = some (.c (.int .i64 (findI (fun s => !s.good) l)), h') ∧ On h h' := by
  have hle := w.le2
  rw [call_run F Z (q.lt.lk (g := 268) rfl) _ _ rfl]
  simp only [run0, run1, run2, run3, run4, noSlot, memN, RO.dst, lk, drop, forget, number, Nat.reduceBEq, cut?, splice?, builds, List.length_cons, List.length_nil, List.drop_succ_cons, List.drop_zero, List.take_succ_cons, List.take_zero, List.cons_append, List.nil_append, List.append_nil, List.drop_nil, List.take_nil, Nat.reduceAdd, Nat.reduceLeDiff, Nat.zero_add, Nat.add_zero, ↓reduceIte, Bool.not_true, Bool.not_false, decide_true, decide_false, eq_self, bne_self_eq_false, List.getElem?_cons_zero, List.getElem?_cons_succ, decide_eq_true_eq, Bool.false_eq_true, Bool.true_eq_false, reduceCtorEq, Nat.le_refl, w.len]
  have key := loop_findO (F := F) (Z := Z) (live := [0, 1, 7, 8]) (b := r268L0) l (fun s => !s.good) (fun i g => ⟨[(0, .c x), (1, .c (.fn 250 [])), (7, .c (.int .i64 (l.length : Nat))), (8, .c (.int .i64 (i : Nat)))], [], [], g⟩) h (fun i s => lk s.env 4 = some (.c (.int .i64 (i : Nat)))) fun i hi g og => by
    have hlt : (i : Int) < l.length := by omega
    have hws := wrapS i (by omega)
    have wg := w.on Store.okI og
    obtain ⟨r, f, hld, hR, _⟩ := wg.one hi
    obtain ⟨r1, r2, r3⟩ := Store.lenI hR
    have hxi := w.idx hi
    obtain ⟨g', e, o'⟩ := isStore_run (Z := Z) k hR (ok _ (List.getElem_mem hi))
    have hc : call F Z 250 [.agg r] g = some (.c (.bool (!l[i].good)), g') := by
      rw [call_run F Z (q.i15.lk (g := 250) rfl) _ _ rfl]
      simp only [run0, run1, run2, run3, run4, noSlot, memN, RO.dst, lk, drop, forget, number, Nat.reduceBEq, cut?, splice?, builds, List.length_cons, List.length_nil, List.drop_succ_cons, List.drop_zero, List.take_succ_cons, List.take_zero, List.cons_append, List.nil_append, List.append_nil, List.drop_nil, List.take_nil, Nat.reduceAdd, Nat.reduceLeDiff, Nat.zero_add, Nat.add_zero, ↓reduceIte, Bool.not_true, Bool.not_false, decide_true, decide_false, eq_self, bne_self_eq_false, List.getElem?_cons_zero, List.getElem?_cons_succ, decide_eq_true_eq, Bool.false_eq_true, Bool.true_eq_false, reduceCtorEq, Nat.le_refl, r1, r2, e]
    clear wg hR w e
    rw [loop_run]
    conv in (codeF _ _ r268L0 _) => unfold r268L0
    simp only [run0, run1, run2, run3, run4, noSlot, memN, RO.dst, lk, drop, forget, number, Nat.reduceBEq, cut?, splice?, builds, List.length_cons, List.length_nil, List.drop_succ_cons, List.drop_zero, List.take_succ_cons, List.take_zero, List.cons_append, List.nil_append, List.append_nil, List.drop_nil, List.take_nil, Nat.reduceAdd, Nat.reduceLeDiff, Nat.zero_add, Nat.add_zero, ↓reduceIte, Bool.not_true, Bool.not_false, decide_true, decide_false, eq_self, bne_self_eq_false, List.getElem?_cons_zero, List.getElem?_cons_succ, decide_eq_true_eq, Bool.false_eq_true, Bool.true_eq_false, reduceCtorEq, Nat.le_refl, hlt, hxi, hld, r1, r2, r3, capV, List.map_nil, hc]
    generalize l[i].good = gd at *
    cases gd with
    | false => exact .inr ⟨rfl, _, rfl, o', rfl⟩
    | true =>
      simp only [run0, run1, run2, run3, run4, noSlot, memN, RO.dst, lk, drop, forget, number, Nat.reduceBEq, cut?, splice?, builds, List.length_cons, List.length_nil, List.drop_succ_cons, List.drop_zero, List.take_succ_cons, List.take_zero, List.cons_append, List.nil_append, List.append_nil, List.drop_nil, List.take_nil, Nat.reduceAdd, Nat.reduceLeDiff, Nat.zero_add, Nat.add_zero, ↓reduceIte, Bool.not_true, Bool.not_false, decide_true, decide_false, eq_self, bne_self_eq_false, List.getElem?_cons_zero, List.getElem?_cons_succ, decide_eq_true_eq, Bool.false_eq_true, Bool.true_eq_false, reduceCtorEq, Nat.le_refl, hws]
      exact .inl ⟨rfl, _, o', rfl⟩
  have hlt : ¬ (l.length : Int) < l.length := by omega
  simp only [show ((0 : Nat) : Int) = 0 from rfl] at key
  rcases key with ⟨k1, g, og, k2⟩ | ⟨i, k1, hi, s, k2, os, k3⟩
  · rw [k2, loop_run]
    conv in (codeF _ _ r268L0 _) => unfold r268L0
    simp only [run0, run1, run2, run3, run4, noSlot, memN, RO.dst, lk, drop, forget, number, Nat.reduceBEq, cut?, splice?, builds, List.length_cons, List.length_nil, List.drop_succ_cons, List.drop_zero, List.take_succ_cons, List.take_zero, List.cons_append, List.nil_append, List.append_nil, List.drop_nil, List.take_nil, Nat.reduceAdd, Nat.reduceLeDiff, Nat.zero_add, Nat.add_zero, ↓reduceIte, Bool.not_true, Bool.not_false, decide_true, decide_false, eq_self, bne_self_eq_false, List.getElem?_cons_zero, List.getElem?_cons_succ, decide_eq_true_eq, Bool.false_eq_true, Bool.true_eq_false, reduceCtorEq, Nat.le_refl, hlt, findI, k1]
    exact ⟨_, rfl, og⟩
  · rw [k2]
    simp only [run0, run1, run2, run3, run4, noSlot, memN, RO.dst, lk, drop, forget, number, Nat.reduceBEq, cut?, splice?, builds, List.length_cons, List.length_nil, List.drop_succ_cons, List.drop_zero, List.take_succ_cons, List.take_zero, List.cons_append, List.nil_append, List.append_nil, List.drop_nil, List.take_nil, Nat.reduceAdd, Nat.reduceLeDiff, Nat.zero_add, Nat.add_zero, ↓reduceIte, Bool.not_true, Bool.not_false, decide_true, decide_false, eq_self, bne_self_eq_false, List.getElem?_cons_zero, List.getElem?_cons_succ, decide_eq_true_eq, Bool.false_eq_true, Bool.true_eq_false, reduceCtorEq, Nat.le_refl, k3, findI, k1]
    exact ⟨_, rfl, os⟩
theorem areStores_run (k : KI F) (q : KA F) (w : SlR 18 Store.RI h x l fp) (ok : ∀ a, a ∈ l → a.Ok) : ∃ h', call F Z 216 [.c x] h = some (.c (.bool (areStores l)), h') ∧ On h h' := by
  have hwl := w.len
  rw [call_run F Z (q.i15.lk (g := 216) rfl) _ _ rfl]
  by_cases hl : (l.length : Int) ≤ 40
  · obtain ⟨h', e, o⟩ := indexStore_run (Z := Z) k q w ok
    have hc : call F Z 251 [.c x, .c (.fn 250 [])] h = some (.c (.bool (l.any fun s => !s.good)), h') := by
      rw [call_run F Z (q.lct.lk (g := 251) rfl) _ _ rfl]
      simp only [run0, run1, run2, run3, run4, noSlot, memN, RO.dst, lk, drop, forget, number, Nat.reduceBEq, cut?, splice?, builds, List.length_cons, List.length_nil, List.drop_succ_cons, List.drop_zero, List.take_succ_cons, List.take_zero, List.cons_append, List.nil_append, List.append_nil, List.drop_nil, List.take_nil, Nat.reduceAdd, Nat.reduceLeDiff, Nat.zero_add, Nat.add_zero, ↓reduceIte, Bool.not_true, Bool.not_false, decide_true, decide_false, eq_self, bne_self_eq_false, List.getElem?_cons_zero, List.getElem?_cons_succ, decide_eq_true_eq, Bool.false_eq_true, Bool.true_eq_false, reduceCtorEq, Nat.le_refl, e, findI_any]
    have ha : areStores l = !(l.any fun s => !s.good) := by
      simp only [areStores, hl, decide_true, Bool.true_and, List.not_any_eq_all_not, Bool.not_not]
    simp only [run0, run1, run2, run3, run4, noSlot, memN, RO.dst, lk, drop, forget, number, Nat.reduceBEq, cut?, splice?, builds, List.length_cons, List.length_nil, List.drop_succ_cons, List.drop_zero, List.take_succ_cons, List.take_zero, List.cons_append, List.nil_append, List.append_nil, List.drop_nil, List.take_nil, Nat.reduceAdd, Nat.reduceLeDiff, Nat.zero_add, Nat.add_zero, ↓reduceIte, Bool.not_true, Bool.not_false, decide_true, decide_false, eq_self, bne_self_eq_false, List.getElem?_cons_zero, List.getElem?_cons_succ, decide_eq_true_eq, Bool.false_eq_true, Bool.true_eq_false, reduceCtorEq, Nat.le_refl, hwl, hl, hc]
    exact ⟨_, by rw [ha], o⟩
  · have ha : areStores l = false := by simp [areStores, hl]
    simp only [run0, run1, run2, run3, run4, noSlot, memN, RO.dst, lk, drop, forget, number, Nat.reduceBEq, cut?, splice?, builds, List.length_cons, List.length_nil, List.drop_succ_cons, List.drop_zero, List.take_succ_cons, List.take_zero, List.cons_append, List.nil_append, List.append_nil, List.drop_nil, List.take_nil, Nat.reduceAdd, Nat.reduceLeDiff, Nat.zero_add, Nat.add_zero, ↓reduceIte, Bool.not_true, Bool.not_false, decide_true, decide_false, eq_self, bne_self_eq_false, List.getElem?_cons_zero, List.getElem?_cons_succ, decide_eq_true_eq, Bool.false_eq_true, Bool.true_eq_false, reduceCtorEq, Nat.le_refl, hwl, hl]
    exact ⟨_, by rw [ha], On.refl h⟩
theorem areStores_all (h : areStores l = true) : l.length ≤ 40 ∧ ∀ s, s ∈ l → s.good = true := by
  simp only [areStores, Bool.and_eq_true, decide_eq_true_eq, List.all_eq_true] at h
  exact ⟨by omega, h.2⟩
theorem flatMap_take {α β : Type} (f : α → List β) (l : List α) {i : Nat} (hi : i < l.length) : (l.take (i + 1)).flatMap f = (l.take i).flatMap f ++ f l[i] := by
  rw [List.take_add_one, List.getElem?_eq_getElem hi, List.flatMap_append]; simp
theorem flatMap_len {α β : Type} (f : α → List β) (m : Nat) : ∀ (l : List α), (∀ a, a ∈ l → (f a).length ≤ m) → (l.flatMap f).length ≤ m * l.length
  | [], _ => by simp
  | a :: r, h => by
    have h1 := h a (by simp)
    have h2 := flatMap_len f m r fun b hb => h b (by simp [hb])
    rw [List.flatMap_cons, List.length_append, List.length_cons, Nat.mul_succ]
    omega
/-- All shards of right stores. -/
theorem allShards_ok (ha : areStores l = true) (ok : ∀ a, a ∈ l → a.Ok) : (l.flatMap Store.shards).length ≤ 320 ∧ (∀ t, t ∈ l.flatMap Store.shards → t.Ok ∧ t.good = true) := by
  obtain ⟨h1, h2⟩ := areStores_all ha
  have h3 := flatMap_len Store.shards 8 l fun a ha => (Store.good_all (h2 a ha)).1
  refine ⟨by omega, fun t ht => ?_⟩
  obtain ⟨s, hs, hts⟩ := List.mem_flatMap.1 ht
  exact ⟨(ok s hs).shards t hts, (Store.good_all (h2 s hs)).2 t hts⟩
theorem liveOf_le {all : List Shard} {t : Shard} (ok : t.Ok) (gd : t.good = true) : 0 ≤ liveOf all t ∧ liveOf all t ≤ 737869762948382064600 := by
  have := Shard.money_le ok gd
  unfold liveOf
  cases all.any t.newer <;> simp <;> omega
set_option maxHeartbeats 1000000 in
theorem LiveTotal_all (hf : h.floor ≤ h.next) (w : SlR 18 Store.RI h x l fp) (hl : l.length ≤ 40) (hg : ∀ s, s ∈ l → s.good = true) {h' : Heap} {y0 : Cell} (a0 : Acc 16 h h' y0 []) :
    ∃ y g rows fps, loop F Z [4, 19, 20, 21] r172L1 ⟨[(4, .c y0), (19, .c x), (20, .c (.int .i64 (l.length : Nat))), (21, .c (.int .i64 (0 : Nat)))], [], [], h'⟩ = loop F Z [4, 19, 20, 21] r172L1 ⟨[(4, .c y), (19, .c x), (20, .c (.int .i64 (l.length : Nat))), (21, .c (.int .i64 (l.length : Nat)))], [], [], g⟩ ∧
      Acc 16 h g y rows ∧ AllR Shard.RI h rows (l.flatMap Store.shards) fps := by
  obtain ⟨s', ⟨y, g, rows, fps, hs, a, v⟩, l1⟩ := loop_goes (F := F) (Z := Z) (live := [4, 19, 20, 21]) (b := r172L1) l.length (fun i s => ∃ y g rows fps, s = ⟨[(4, .c y), (19, .c x), (20, .c (.int .i64 (l.length : Nat))), (21, .c (.int .i64 (i : Nat)))], [], [], g⟩ ∧ Acc 16 h g y rows ∧ AllR Shard.RI h rows ((l.take i).flatMap Store.shards) fps) (fun i s hi ⟨y, g, rows, fps, hs, a, v⟩ => by
    subst hs
    have hle := w.le2
    have hlt : (i : Int) < l.length := by omega
    have hws := wrapS i (by omega)
    obtain ⟨r, f, hld, hR, _⟩ := w.one hi
    have hldg : ∀ j n, loadP g x.sid i j n = cut? r j n := fun j n => by
      rw [← hld]
      have := a.on.ext.2 x.sid (by rcases w with ⟨_, ⟨_, h2, _⟩ | ⟨id, _, _, rfl, _, q, _⟩⟩; (rw [h2] at hi; exact absurd hi (Nat.not_lt_zero _)); exact q)
      simp only [loadP, rowOf, this]
    obtain ⟨z, q, rfl, rfl, u⟩ := hR
    obtain ⟨rz, fz, h1, h2⟩ := u.rowsM
    have ug := u.on Shard.okI a.on
    obtain ⟨rz', fz', h1', h2'⟩ := ug.rowsM
    have hrr : rowsOf g z = some rz := by
      rcases u with ⟨_, ⟨rfl, _, _⟩ | ⟨id, rr, ff, rfl, q1, q2, _, _⟩⟩
      · rw [← h1]; rfl
      · rw [← h1]; simp only [rowsOf, a.on.ext.2 id q2]
    have b1 := flatMap_len Store.shards 8 (l.take i) fun s hs => (Store.good_all (hg s (List.mem_of_mem_take hs))).1
    have b2 := (Store.good_all (hg _ (List.getElem_mem hi))).1
    have b3 := v.len
    have b4 := h2.len
    have b5 : (l.take i).length ≤ 40 := by rw [List.length_take]; omega
    have ce := a.cat_eq (bytes := 80) (y := z) (new := rz) hf u.isTag hrr (by omega)
    have ac := a.cat (new := rz) hf (by omega)
    have hxi := w.idx hi
    rw [loop_run]
    conv in (codeF _ _ r172L1 _) => unfold r172L1
    simp only [run0, run1, run2, run3, run4, noSlot, memN, RO.dst, lk, drop, forget, number, Nat.reduceBEq, cut?, splice?, builds, List.length_cons, List.length_nil, List.drop_succ_cons, List.drop_zero, List.take_succ_cons, List.take_zero, List.cons_append, List.nil_append, List.append_nil, List.drop_nil, List.take_nil, Nat.reduceAdd, Nat.reduceLeDiff, Nat.zero_add, Nat.add_zero, ↓reduceIte, Bool.not_true, Bool.not_false, decide_true, decide_false, eq_self, bne_self_eq_false, List.getElem?_cons_zero, List.getElem?_cons_succ, decide_eq_true_eq, Bool.false_eq_true, Bool.true_eq_false, reduceCtorEq, Nat.le_refl, hlt, hxi, hldg, ce, hws]
    exact ⟨_, ⟨_, _, _, _, rfl, ac, by rw [flatMap_take _ _ hi]; exact v.app h2⟩, rfl⟩) (s := ⟨[(4, .c y0), (19, .c x), (20, .c (.int .i64 (l.length : Nat))), (21, .c (.int .i64 (0 : Nat)))], [], [], h'⟩) ⟨y0, h', [], [], rfl, a0, by simp; trivial⟩
  subst hs
  rw [List.take_length] at v
  exact ⟨y, g, rows, fps, l1, a, v⟩
end
end Go.Proofs.Ytlfepembgjjejaa.A
/- The sum of what is live, by the program. -/
namespace Go.Proofs.Ytlfepembgjjejaa.A
open Go
set_option linter.unusedSimpArgs false
set_option linter.unusedVariables false
section
variable {F : Nat → Option RF} {Z : CallF} {h : Heap} {x y : Cell} {l : List Store} {xs : List Shard} {fp fq : List Nat} {cs : List Cell}
set_option maxHeartbeats 1000000 in
theorem newer_run (q : KH F) (w : SlR 16 Shard.RI h x xs fp) (hf : h.floor ≤ h.next) (a : Shard) (u z : Cell) :
    call F Z 218 [.c x, .c (.fn 217 [(h.next, 0, 0)])] (h.push [a.cells u z]) = some (.c (.bool (xs.any a.newer)), h.push [a.cells u z]) := by
  have w' := w.on Shard.okI (On.push h [a.cells u z])
  have hl : ∀ j n, loadP (h.push [a.cells u z]) h.next 0 j n = cut? (a.cells u z) j n := fun j n => by simp [loadP, rowOf, push_get]
  generalize h.push [a.cells u z] = g at *
  simp only [Shard.cells] at hl
  have hr := indexShard_run (Z := Z) q.ls w' 217 [(h.next, 0, 0)] a.newer fun r t q' hR => by
    obtain ⟨x1, p1, x2, p2, rfl, _⟩ := hR
    simp only [run0, run1, run2, run3, run4, noSlot, memN, RO.dst, lk, drop, forget, number, Nat.reduceBEq, cut?, splice?, builds, List.length_cons, List.length_nil, List.drop_succ_cons, List.drop_zero, List.take_succ_cons, List.take_zero, List.cons_append, List.nil_append, List.append_nil, List.drop_nil, List.take_nil, Nat.reduceAdd, Nat.reduceLeDiff, Nat.zero_add, Nat.add_zero, ↓reduceIte, Bool.not_true, Bool.not_false, decide_true, decide_false, eq_self, bne_self_eq_false, List.getElem?_cons_zero, List.getElem?_cons_succ, decide_eq_true_eq, Bool.false_eq_true, Bool.true_eq_false, reduceCtorEq, Nat.le_refl, capV_cons]
    rw [call_run F Z (q.i15.lk (g := 217) rfl) _ _ rfl]
    simp only [run0, run1, run2, run3, run4, noSlot, memN, RO.dst, lk, drop, forget, number, Nat.reduceBEq, cut?, splice?, builds, List.length_cons, List.length_nil, List.drop_succ_cons, List.drop_zero, List.take_succ_cons, List.take_zero, List.cons_append, List.nil_append, List.append_nil, List.drop_nil, List.take_nil, Nat.reduceAdd, Nat.reduceLeDiff, Nat.zero_add, Nat.add_zero, ↓reduceIte, Bool.not_true, Bool.not_false, decide_true, decide_false, eq_self, bne_self_eq_false, List.getElem?_cons_zero, List.getElem?_cons_succ, decide_eq_true_eq, Bool.false_eq_true, Bool.true_eq_false, reduceCtorEq, Nat.le_refl, hl]
    have hd : a.newer t = (decide (t.epoch > a.epoch) && (decide (t.lo ≤ a.hi) && decide (a.lo ≤ t.hi))) := rfl
    (repeat' ((first | (rw [gF_if]; split) | (rw [condC_if]; split) | (rw [pickR_if]; split)) <;> (rename_i hh; (try simp only [Bool.not_eq_true, decide_eq_true_eq] at hh); simp only [hh, run0, run1, run2, run3, run4, noSlot, memN, RO.dst, lk, drop, forget, number, Nat.reduceBEq, cut?, splice?, builds, List.length_cons, List.length_nil, List.drop_succ_cons, List.drop_zero, List.take_succ_cons, List.take_zero, List.cons_append, List.nil_append, List.append_nil, List.drop_nil, List.take_nil, Nat.reduceAdd, Nat.reduceLeDiff, Nat.zero_add, Nat.add_zero, ↓reduceIte, Bool.not_true, Bool.not_false, decide_true, decide_false, eq_self, bne_self_eq_false, List.getElem?_cons_zero, List.getElem?_cons_succ, decide_eq_true_eq, Bool.false_eq_true, Bool.true_eq_false, reduceCtorEq, Nat.le_refl, hl]))) <;> (clear hl w w'; simp_all)
  rw [call_run F Z (q.lcs.lk (g := 218) rfl) _ _ rfl]
  simp only [run0, run1, run2, run3, run4, noSlot, memN, RO.dst, lk, drop, forget, number, Nat.reduceBEq, cut?, splice?, builds, List.length_cons, List.length_nil, List.drop_succ_cons, List.drop_zero, List.take_succ_cons, List.take_zero, List.cons_append, List.nil_append, List.append_nil, List.drop_nil, List.take_nil, Nat.reduceAdd, Nat.reduceLeDiff, Nat.zero_add, Nat.add_zero, ↓reduceIte, Bool.not_true, Bool.not_false, decide_true, decide_false, eq_self, bne_self_eq_false, List.getElem?_cons_zero, List.getElem?_cons_succ, decide_eq_true_eq, Bool.false_eq_true, Bool.true_eq_false, reduceCtorEq, Nat.le_refl, hr, findI_any]
set_option maxHeartbeats 2000000 in
theorem LiveTotal_turn (k : KI F) (q : KH F) (w : SlR 16 Shard.RI h y xs fp) (hf : h.floor ≤ h.next) (ok : ∀ t, t ∈ xs → t.Ok ∧ t.good = true) (hn : xs.length ≤ 320) (i : Nat) (hi : i < xs.length) :
    ∃ g, loop F Z [4, 7, 8, 30, 31, 32] r172L0 ⟨[(4, .c y), (7, .c (.int .u64 (wHi (sumI (liveOf xs) (xs.take i))))), (8, .c (.int .u64 (wLo (sumI (liveOf xs) (xs.take i))))), (30, .c y), (31, .c (.int .i64 (xs.length : Nat))), (32, .c (.int .i64 (i : Nat)))], [], [], h⟩
      = loop F Z [4, 7, 8, 30, 31, 32] r172L0 ⟨[(4, .c y), (7, .c (.int .u64 (wHi (sumI (liveOf xs) (xs.take (i + 1)))))), (8, .c (.int .u64 (wLo (sumI (liveOf xs) (xs.take (i + 1)))))), (30, .c y), (31, .c (.int .i64 (xs.length : Nat))), (32, .c (.int .i64 ((i + 1 : Nat) : Int)))], [], [], g⟩ ∧ On h g := by
  have hle := w.le2
  have hlt : (i : Int) < xs.length := by omega
  have hws := wrapS i (by omega)
  have hxi := w.idx hi
  obtain ⟨aok, agd⟩ := ok _ (List.getElem_mem hi)
  obtain ⟨r, f, hld, hR, _⟩ := w.one hi
  obtain ⟨x1, p1, x2, p2, rfl, rfl, w1, w2⟩ := hR
  have hnw := newer_run (Z := Z) q w hf xs[i] x1 x2
  have st : storeP (h.push [[.int .u64 0, .int .u64 0, .int .i64 0, .int .i64 0, .nil, .nil]]) h.next 0 0 (xs[i].cells x1 x2) = some (h.push [xs[i].cells x1 x2]) := storeP_push (rows := [[.int .u64 0, .int .u64 0, .int .i64 0, .int .i64 0, .nil, .nil]]) (i := 0) hf rfl rfl
  have hl : ∀ j n, loadP (h.push [xs[i].cells x1 x2]) h.next 0 j n = cut? (xs[i].cells x1 x2) j n := fun j n => by simp [loadP, rowOf, push_get]
  have ht : sumI (liveOf xs) (xs.take (i + 1)) = sumI (liveOf xs) (xs.take i) + liveOf xs xs[i] := sumI_take _ xs hi
  have hT := sumI_take_le (liveOf xs) (m := 737869762948382064600) (by omega) xs (fun a ha => liveOf_le (ok a ha).1 (ok a ha).2) i
  refine ⟨h.push [xs[i].cells x1 x2], ?_, On.push _ _⟩
  rw [ht]
  have hdef : liveOf xs xs[i] = bif xs.any xs[i].newer then 0 else xs[i].money := rfl
  generalize hnn : xs.any xs[i].newer = nn at *
  cases nn with
  | true =>
    have h0 : liveOf xs xs[i] = 0 := hdef
    rw [h0, Int.add_zero]
    simp only [Shard.cells] at hnw st hl
    clear w w1 w2 aok agd ok ht hT h0 hdef
    generalize xs[i] = a at *
    rw [loop_run]
    conv in (codeF _ _ r172L0 _) => unfold r172L0
    simp only [run0, run1, run2, run3, run4, noSlot, memN, RO.dst, lk, drop, forget, number, Nat.reduceBEq, cut?, splice?, builds, List.length_cons, List.length_nil, List.drop_succ_cons, List.drop_zero, List.take_succ_cons, List.take_zero, List.cons_append, List.nil_append, List.append_nil, List.drop_nil, List.take_nil, Nat.reduceAdd, Nat.reduceLeDiff, Nat.zero_add, Nat.add_zero, ↓reduceIte, Bool.not_true, Bool.not_false, decide_true, decide_false, eq_self, bne_self_eq_false, List.getElem?_cons_zero, List.getElem?_cons_succ, decide_eq_true_eq, Bool.false_eq_true, Bool.true_eq_false, reduceCtorEq, Nat.le_refl, hlt, hxi, hld, st, hnw, hws, evPtrs, Shard.cells]
  | false =>
    have h0 : liveOf xs xs[i] = xs[i].money := hdef
    rw [h0]
    have ml := Shard.money_le aok agd
    obtain ⟨b1, b2⟩ := Account.money_ok aok.book.list (Shard.good_book agd)
    have hc := totalOf_run (Z := Z) k.i10 (w1.on (Fl.ok _) (On.push h [xs[i].cells x1 x2])) aok.book.list b1 b2
    change _ = some (V.tup [.c (.int .u64 (wHi xs[i].money)), .c (.int .u64 (wLo xs[i].money))], _) at hc
    simp only [Shard.cells] at hnw st hl hc
    clear w w1 w2 b1 b2 agd aok ok ht h0 hdef
    generalize sumI (liveOf xs) (xs.take i) = T at *
    generalize xs[i] = a at *
    generalize a.money = M at *
    have e1 : (wLo T + wLo M + 0) % 18446744073709551616 = wLo (T + M) := by simp only [wLo]; omega
    have e2 : IntKind.u64.wrap (wHi T + IntKind.u64.wrap (wHi M + (wLo T + wLo M + 0) / 18446744073709551616)) = wHi (T + M) := by
      simp only [wHi, wLo]
      rw [wrapU (M / 18446744073709551616 + _) (by omega) (by omega), wrapU _ (by omega) (by omega)]; omega
    have c1 : 0 ≤ wLo T := by simp only [wLo]; omega
    have c2 : 0 ≤ wLo M := by simp only [wLo]; omega
    have c3 : (0 : Int) ≤ 1 := by omega
    rw [loop_run]
    conv in (codeF _ _ r172L0 _) => unfold r172L0
    simp only [run0, run1, run2, run3, run4, noSlot, memN, RO.dst, lk, drop, forget, number, Nat.reduceBEq, cut?, splice?, builds, List.length_cons, List.length_nil, List.drop_succ_cons, List.drop_zero, List.take_succ_cons, List.take_zero, List.cons_append, List.nil_append, List.append_nil, List.drop_nil, List.take_nil, Nat.reduceAdd, Nat.reduceLeDiff, Nat.zero_add, Nat.add_zero, ↓reduceIte, Bool.not_true, Bool.not_false, decide_true, decide_false, eq_self, bne_self_eq_false, List.getElem?_cons_zero, List.getElem?_cons_succ, decide_eq_true_eq, Bool.false_eq_true, Bool.true_eq_false, reduceCtorEq, Nat.le_refl, hlt, hxi, hld, st, hnw, evPtrs, hl, hc, e1, e2, c1, c2, c3, Int.le_refl, and_self, hws, Shard.cells]
theorem LiveTotal_c (k : KI F) (q : KH F) (hf : h.floor ≤ h.next) (w : SlR 18 Store.RI h x l fp) (ok : ∀ a, a ∈ l → a.Ok) :
    ∃ h', call F Z 172 [.c x] h = some (.tup [.c (.int .u64 (liveTotal l).1), .c (.int .u64 (liveTotal l).2)], h') ∧ On h h' := by
  obtain ⟨h1, e1, o1⟩ := areStores_run (Z := Z) k q.a w ok
  have hf1 := o1.le hf
  have w1 := w.on Store.okI o1
  rw [call_run F Z (q.i15.lk (g := 172) rfl) _ _ rfl]
  have hdef : liveTotal l = bif areStores l then (wHi (sumI (liveOf (l.flatMap Store.shards)) (l.flatMap Store.shards)), wLo (sumI (liveOf (l.flatMap Store.shards)) (l.flatMap Store.shards))) else (0, 0) := rfl
  cases ha : areStores l with
  | false =>
    rw [ha] at e1
    simp only [run0, run1, run2, run3, run4, noSlot, memN, RO.dst, lk, drop, forget, number, Nat.reduceBEq, cut?, splice?, builds, List.length_cons, List.length_nil, List.drop_succ_cons, List.drop_zero, List.take_succ_cons, List.take_zero, List.cons_append, List.nil_append, List.append_nil, List.drop_nil, List.take_nil, Nat.reduceAdd, Nat.reduceLeDiff, Nat.zero_add, Nat.add_zero, ↓reduceIte, Bool.not_true, Bool.not_false, decide_true, decide_false, eq_self, bne_self_eq_false, List.getElem?_cons_zero, List.getElem?_cons_succ, decide_eq_true_eq, Bool.false_eq_true, Bool.true_eq_false, reduceCtorEq, Nat.le_refl, e1]
    exact ⟨_, by rw [hdef, ha]; rfl, o1⟩
  | true =>
    rw [ha] at e1
    obtain ⟨hl, hg⟩ := areStores_all ha
    obtain ⟨hn, hok⟩ := allShards_ok ha ok
    obtain ⟨y, g, rows, fps, lp, a, v⟩ := LiveTotal_all (F := F) (Z := Z) hf1 w1 hl hg (Acc.lit0 (tag := 16) (On.refl h1))
    obtain ⟨fy, wy⟩ := a.shows Shard.okI v
    have hfg := a.on.le hf1
    rw [hdef, ha]
    generalize l.flatMap Store.shards = xs at *
    obtain ⟨s', ⟨g', hs, og⟩, l2⟩ := loop_goes (F := F) (Z := Z) (live := [4, 7, 8, 30, 31, 32]) (b := r172L0) xs.length (fun i s => ∃ g', s = ⟨[(4, .c y), (7, .c (.int .u64 (wHi (sumI (liveOf xs) (xs.take i))))), (8, .c (.int .u64 (wLo (sumI (liveOf xs) (xs.take i))))), (30, .c y), (31, .c (.int .i64 (xs.length : Nat))), (32, .c (.int .i64 (i : Nat)))], [], [], g'⟩ ∧ On g g') (fun i s hi ⟨g', hs, og⟩ => by
      subst hs
      obtain ⟨g2, e2, o2⟩ := LiveTotal_turn (Z := Z) k q (wy.on Shard.okI og) (og.le hfg) hok hn i hi
      exact ⟨_, ⟨g2, rfl, og.trans o2⟩, e2⟩) (s := ⟨[(4, .c y), (7, .c (.int .u64 0)), (8, .c (.int .u64 0)), (30, .c y), (31, .c (.int .i64 (xs.length : Nat))), (32, .c (.int .i64 (0 : Nat)))], [], [], g⟩) ⟨g, rfl, On.refl g⟩
    subst hs
    simp only [show ((0 : Nat) : Int) = 0 from rfl, List.take_length] at l2 lp
    have hlt : ¬ (l.length : Int) < l.length := by omega
    have hlt2 : ¬ (xs.length : Int) < xs.length := by omega
    have hwl := w.len
    have hyl := wy.len
    simp only [run0, run1, run2, run3, run4, noSlot, memN, RO.dst, lk, drop, forget, number, Nat.reduceBEq, cut?, splice?, builds, List.length_cons, List.length_nil, List.drop_succ_cons, List.drop_zero, List.take_succ_cons, List.take_zero, List.cons_append, List.nil_append, List.append_nil, List.drop_nil, List.take_nil, Nat.reduceAdd, Nat.reduceLeDiff, Nat.zero_add, Nat.add_zero, ↓reduceIte, Bool.not_true, Bool.not_false, decide_true, decide_false, eq_self, bne_self_eq_false, List.getElem?_cons_zero, List.getElem?_cons_succ, decide_eq_true_eq, Bool.false_eq_true, Bool.true_eq_false, reduceCtorEq, Nat.le_refl, e1, List.replicate_zero, fills, hwl, lp]
    rw [loop_run]
    conv in (codeF _ _ r172L1 _) => unfold r172L1
    simp only [run0, run1, run2, run3, run4, noSlot, memN, RO.dst, lk, drop, forget, number, Nat.reduceBEq, cut?, splice?, builds, List.length_cons, List.length_nil, List.drop_succ_cons, List.drop_zero, List.take_succ_cons, List.take_zero, List.cons_append, List.nil_append, List.append_nil, List.drop_nil, List.take_nil, Nat.reduceAdd, Nat.reduceLeDiff, Nat.zero_add, Nat.add_zero, ↓reduceIte, Bool.not_true, Bool.not_false, decide_true, decide_false, eq_self, bne_self_eq_false, List.getElem?_cons_zero, List.getElem?_cons_succ, decide_eq_true_eq, Bool.false_eq_true, Bool.true_eq_false, reduceCtorEq, Nat.le_refl, hlt, hyl, l2]
    rw [loop_run]
    conv in (codeF _ _ r172L0 _) => unfold r172L0
    simp only [run0, run1, run2, run3, run4, noSlot, memN, RO.dst, lk, drop, forget, number, Nat.reduceBEq, cut?, splice?, builds, List.length_cons, List.length_nil, List.drop_succ_cons, List.drop_zero, List.take_succ_cons, List.take_zero, List.cons_append, List.nil_append, List.append_nil, List.drop_nil, List.take_nil, Nat.reduceAdd, Nat.reduceLeDiff, Nat.zero_add, Nat.add_zero, ↓reduceIte, Bool.not_true, Bool.not_false, decide_true, decide_false, eq_self, bne_self_eq_false, List.getElem?_cons_zero, List.getElem?_cons_succ, decide_eq_true_eq, Bool.false_eq_true, Bool.true_eq_false, reduceCtorEq, Nat.le_refl, hlt2]
    exact ⟨_, rfl, (o1.trans a.on).trans og⟩
end
end Go.Proofs.Ytlfepembgjjejaa.A
/- The sum of what is live, by the reference. -/
namespace Go.Proofs.Ytlfepembgjjejaa.A
open Go
set_option linter.unusedSimpArgs false
set_option linter.unusedVariables false
section
variable {F : Nat → Option RF} {Z : CallF} {h : Heap} {x y : Cell} {l : List Store} {xs : List Shard} {fp fq : List Nat} {cs : List Cell}
theorem l15All_run (k : KS F) (hS15 : Has F tS15) (w : SlR 18 Store.RI h x l fp) (ok : ∀ a, a ∈ l → a.Ok) : call F Z 214 [.c x] h = some (.c (.bool (areStores l)), h) := by
  have hle := w.le2
  have hwl := w.len
  rw [call_run F Z (hS15.lk (g := 214) rfl) _ _ rfl]
  simp only [run0, run1, run2, run3, run4, noSlot, memN, RO.dst, lk, drop, forget, number, Nat.reduceBEq, cut?, splice?, builds, List.length_cons, List.length_nil, List.drop_succ_cons, List.drop_zero, List.take_succ_cons, List.take_zero, List.cons_append, List.nil_append, List.append_nil, List.drop_nil, List.take_nil, Nat.reduceAdd, Nat.reduceLeDiff, Nat.zero_add, Nat.add_zero, ↓reduceIte, Bool.not_true, Bool.not_false, decide_true, decide_false, eq_self, bne_self_eq_false, List.getElem?_cons_zero, List.getElem?_cons_succ, decide_eq_true_eq, Bool.false_eq_true, Bool.true_eq_false, reduceCtorEq, Nat.le_refl]
  by_cases hl : (l.length : Int) ≤ 40
  · have key := loop_all (F := F) (Z := Z) (live := [0, 3]) (b := r214L0) l (fun i => ⟨[(0, .c x), (3, .c (.int .i64 (i : Nat)))], [], [], h⟩) Store.good (fun s => lk s.env 2 = some (.c (.bool false)) ∧ s.hp = h) fun i hi => by
      have hlt : (i : Int) < l.length := by omega
      have hws := wrapS i (by omega)
      obtain ⟨r, f, hld, hR, _⟩ := w.one hi
      obtain ⟨r1, r2, r3⟩ := Store.lenI hR
      have hxi := w.idx hi
      have e := sStoreOk_run (Z := Z) k hR (ok _ (List.getElem_mem hi))
      clear hR w
      rw [loop_run]
      conv in (codeF _ _ r214L0 _) => unfold r214L0
      simp only [run0, run1, run2, run3, run4, noSlot, memN, RO.dst, lk, drop, forget, number, Nat.reduceBEq, cut?, splice?, builds, List.length_cons, List.length_nil, List.drop_succ_cons, List.drop_zero, List.take_succ_cons, List.take_zero, List.cons_append, List.nil_append, List.append_nil, List.drop_nil, List.take_nil, Nat.reduceAdd, Nat.reduceLeDiff, Nat.zero_add, Nat.add_zero, ↓reduceIte, Bool.not_true, Bool.not_false, decide_true, decide_false, eq_self, bne_self_eq_false, List.getElem?_cons_zero, List.getElem?_cons_succ, decide_eq_true_eq, Bool.false_eq_true, Bool.true_eq_false, reduceCtorEq, Nat.le_refl, hwl, hlt, hl, hxi, hld, r1, r2, r3, e]
      generalize l[i].good = gd at *
      cases gd with
      | false => exact .inr ⟨rfl, _, rfl, rfl, rfl⟩
      | true =>
        simp only [run0, run1, run2, run3, run4, noSlot, memN, RO.dst, lk, drop, forget, number, Nat.reduceBEq, cut?, splice?, builds, List.length_cons, List.length_nil, List.drop_succ_cons, List.drop_zero, List.take_succ_cons, List.take_zero, List.cons_append, List.nil_append, List.append_nil, List.drop_nil, List.take_nil, Nat.reduceAdd, Nat.reduceLeDiff, Nat.zero_add, Nat.add_zero, ↓reduceIte, Bool.not_true, Bool.not_false, decide_true, decide_false, eq_self, bne_self_eq_false, List.getElem?_cons_zero, List.getElem?_cons_succ, decide_eq_true_eq, Bool.false_eq_true, Bool.true_eq_false, reduceCtorEq, Nat.le_refl, hws]
        exact .inl ⟨rfl, rfl⟩
    have hlt : ¬ (l.length : Int) < l.length := by omega
    have ha : areStores l = l.all Store.good := by simp only [areStores, hl, decide_true, Bool.true_and]
    rw [ha]
    simp only [show ((0 : Nat) : Int) = 0 from rfl] at key
    rcases key with ⟨k1, k2⟩ | ⟨k1, s, k2, k3, k4⟩
    · rw [k2, loop_run]
      conv in (codeF _ _ r214L0 _) => unfold r214L0
      simp only [run0, run1, run2, run3, run4, noSlot, memN, RO.dst, lk, drop, forget, number, Nat.reduceBEq, cut?, splice?, builds, List.length_cons, List.length_nil, List.drop_succ_cons, List.drop_zero, List.take_succ_cons, List.take_zero, List.cons_append, List.nil_append, List.append_nil, List.drop_nil, List.take_nil, Nat.reduceAdd, Nat.reduceLeDiff, Nat.zero_add, Nat.add_zero, ↓reduceIte, Bool.not_true, Bool.not_false, decide_true, decide_false, eq_self, bne_self_eq_false, List.getElem?_cons_zero, List.getElem?_cons_succ, decide_eq_true_eq, Bool.false_eq_true, Bool.true_eq_false, reduceCtorEq, Nat.le_refl, hwl, hlt, hl, k1]
    · rw [k2]
      simp only [run0, run1, run2, run3, run4, noSlot, memN, RO.dst, lk, drop, forget, number, Nat.reduceBEq, cut?, splice?, builds, List.length_cons, List.length_nil, List.drop_succ_cons, List.drop_zero, List.take_succ_cons, List.take_zero, List.cons_append, List.nil_append, List.append_nil, List.drop_nil, List.take_nil, Nat.reduceAdd, Nat.reduceLeDiff, Nat.zero_add, Nat.add_zero, ↓reduceIte, Bool.not_true, Bool.not_false, decide_true, decide_false, eq_self, bne_self_eq_false, List.getElem?_cons_zero, List.getElem?_cons_succ, decide_eq_true_eq, Bool.false_eq_true, Bool.true_eq_false, reduceCtorEq, Nat.le_refl, k3, k4, k1]
  · have ha : areStores l = false := by simp [areStores, hl]
    rw [loop_run]
    conv in (codeF _ _ r214L0 _) => unfold r214L0
    simp only [run0, run1, run2, run3, run4, noSlot, memN, RO.dst, lk, drop, forget, number, Nat.reduceBEq, cut?, splice?, builds, List.length_cons, List.length_nil, List.drop_succ_cons, List.drop_zero, List.take_succ_cons, List.take_zero, List.cons_append, List.nil_append, List.append_nil, List.drop_nil, List.take_nil, Nat.reduceAdd, Nat.reduceLeDiff, Nat.zero_add, Nat.add_zero, ↓reduceIte, Bool.not_true, Bool.not_false, decide_true, decide_false, eq_self, bne_self_eq_false, List.getElem?_cons_zero, List.getElem?_cons_succ, decide_eq_true_eq, Bool.false_eq_true, Bool.true_eq_false, reduceCtorEq, Nat.le_refl, hwl, hl]
    by_cases c : (0 : Int) < l.length
    · simp only [run0, run1, run2, run3, run4, noSlot, memN, RO.dst, lk, drop, forget, number, Nat.reduceBEq, cut?, splice?, builds, List.length_cons, List.length_nil, List.drop_succ_cons, List.drop_zero, List.take_succ_cons, List.take_zero, List.cons_append, List.nil_append, List.append_nil, List.drop_nil, List.take_nil, Nat.reduceAdd, Nat.reduceLeDiff, Nat.zero_add, Nat.add_zero, ↓reduceIte, Bool.not_true, Bool.not_false, decide_true, decide_false, eq_self, bne_self_eq_false, List.getElem?_cons_zero, List.getElem?_cons_succ, decide_eq_true_eq, Bool.false_eq_true, Bool.true_eq_false, reduceCtorEq, Nat.le_refl, c, hwl, hl, ha]
    · exfalso; omega
/-- Where a store lies in a list of them, and its shards. -/
theorem SlR.storeAt (w : SlR 18 Store.RI h x l fp) {i : Nat} (hi : i < l.length) : ∃ z fz, (∀ j n, loadP h x.sid i j n = cut? [.int .i64 l[i].group, .int .i64 l[i].seen, z] j n) ∧ SlR 16 Shard.RI h z l[i].shards fz := by
  obtain ⟨r, f, hld, hR, _⟩ := w.one hi
  obtain ⟨z, p, rfl, rfl, u⟩ := hR
  exact ⟨z, _, hld, u⟩
set_option maxHeartbeats 1000000 in
theorem l15Newest_in (w : SlR 18 Store.RI h x l fp) {i : Nat} (hi : i < l.length) (a : Shard) (u v : Cell) :
    Turn (loop F Z [0, 3, 5, 6] r215L0 ⟨[(0, .c x), (5, .c (.int .i64 (i : Nat))), (6, .c (.int .i64 (0 : Nat)))], [(3, 3, 0)], [(3, a.cells u v)], h⟩)
      (loop F Z [0, 3, 5, 6] r215L0 ⟨[(0, .c x), (5, .c (.int .i64 (i : Nat))), (6, .c (.int .i64 (l[i].shards.length : Nat)))], [(3, 3, 0)], [(3, a.cells u v)], h⟩) (l[i].shards.all fun y => !a.newer y) (fun s => lk s.env 4 = some (.c (.bool false)) ∧ s.hp = h) := by
  obtain ⟨z, fz, hld, wz⟩ := w.storeAt hi
  have hxi := w.idx hi
  have hzl := wz.len
  refine loop_all (F := F) (Z := Z) (live := [0, 3, 5, 6]) (b := r215L0) l[i].shards (fun j => ⟨[(0, .c x), (5, .c (.int .i64 (i : Nat))), (6, .c (.int .i64 (j : Nat)))], [(3, 3, 0)], [(3, a.cells u v)], h⟩) (fun y => !a.newer y) _ fun j hj => ?_
  have hle := wz.le2
  have hlt : (j : Int) < l[i].shards.length := by omega
  have hws := wrapS j (by omega)
  have hzj := wz.idx hj
  obtain ⟨r, f, hl2, hR, _⟩ := wz.one hj
  obtain ⟨x1, p1, x2, p2, rfl, _⟩ := hR
  have hd : a.newer l[i].shards[j] = (decide (l[i].shards[j].epoch > a.epoch) && (decide (l[i].shards[j].lo ≤ a.hi) && decide (a.lo ≤ l[i].shards[j].hi))) := rfl
  clear w wz
  generalize a.newer l[i].shards[j] = nw at *
  generalize l[i].shards[j] = b at *
  simp only [Shard.cells]
  rw [loop_run]
  conv in (codeF _ _ r215L0 _) => unfold r215L0
  simp only [run0, run1, run2, run3, run4, noSlot, memN, RO.dst, lk, drop, forget, number, Nat.reduceBEq, cut?, splice?, builds, List.length_cons, List.length_nil, List.drop_succ_cons, List.drop_zero, List.take_succ_cons, List.take_zero, List.cons_append, List.nil_append, List.append_nil, List.drop_nil, List.take_nil, Nat.reduceAdd, Nat.reduceLeDiff, Nat.zero_add, Nat.add_zero, ↓reduceIte, Bool.not_true, Bool.not_false, decide_true, decide_false, eq_self, bne_self_eq_false, List.getElem?_cons_zero, List.getElem?_cons_succ, decide_eq_true_eq, Bool.false_eq_true, Bool.true_eq_false, reduceCtorEq, Nat.le_refl, hxi, hld, hzl, hlt, hzj, hl2]
  clear hxi hld hzj hl2 hzl
  (repeat' ((first | (rw [gF_if]; split) | (rw [condC_if]; split) | (rw [pickR_if]; split)) <;> (rename_i hh; (try simp only [Bool.not_eq_true, decide_eq_true_eq] at hh); simp only [hh, run0, run1, run2, run3, run4, noSlot, memN, RO.dst, lk, drop, forget, number, Nat.reduceBEq, cut?, splice?, builds, List.length_cons, List.length_nil, List.drop_succ_cons, List.drop_zero, List.take_succ_cons, List.take_zero, List.cons_append, List.nil_append, List.append_nil, List.drop_nil, List.take_nil, Nat.reduceAdd, Nat.reduceLeDiff, Nat.zero_add, Nat.add_zero, ↓reduceIte, Bool.not_true, Bool.not_false, decide_true, decide_false, eq_self, bne_self_eq_false, List.getElem?_cons_zero, List.getElem?_cons_succ, decide_eq_true_eq, Bool.false_eq_true, Bool.true_eq_false, reduceCtorEq, Nat.le_refl, hws]))) <;> first
    | exact .inl ⟨by simp_all, rfl⟩
    | exact .inr ⟨by simp_all, _, rfl, rfl, rfl⟩
theorem l15Newest_run (hS15 : Has F tS15) (w : SlR 18 Store.RI h x l fp) (a : Shard) (u v : Cell) :
    call F Z 215 [.c x, .agg (a.cells u v)] h = some (.c (.bool (!(l.flatMap Store.shards).any a.newer)), h) := by
  have hle := w.le2
  have hwl := w.len
  have hall : (!(l.flatMap Store.shards).any a.newer) = l.all fun s => s.shards.all fun y => !a.newer y := by
    rw [List.any_flatMap, List.not_any_eq_all_not]
    congr 1; funext s; rw [List.not_any_eq_all_not]
  rw [hall]
  have key := loop_all (F := F) (Z := Z) (live := [0, 3, 5]) (b := r215L1) l (fun i => ⟨[(0, .c x), (5, .c (.int .i64 (i : Nat)))], [(3, 3, 0)], [(3, a.cells u v)], h⟩) (fun s => s.shards.all fun y => !a.newer y) (fun s => lk s.env 4 = some (.c (.bool false)) ∧ s.hp = h) fun i hi => by
    have hlt : (i : Int) < l.length := by omega
    have hws := wrapS i (by omega)
    have ki := l15Newest_in (F := F) (Z := Z) w hi a u v
    obtain ⟨z, fz, hld, wz⟩ := w.storeAt hi
    have hxi := w.idx hi
    have hzl := wz.len
    have hlt2 : ¬ (l[i].shards.length : Int) < l[i].shards.length := by omega
    clear w wz
    simp only [show ((0 : Nat) : Int) = 0 from rfl, Shard.cells] at ki ⊢
    rw [loop_run]
    conv in (codeF _ _ r215L1 _) => unfold r215L1
    simp only [run0, run1, run2, run3, run4, noSlot, memN, RO.dst, lk, drop, forget, number, Nat.reduceBEq, cut?, splice?, builds, List.length_cons, List.length_nil, List.drop_succ_cons, List.drop_zero, List.take_succ_cons, List.take_zero, List.cons_append, List.nil_append, List.append_nil, List.drop_nil, List.take_nil, Nat.reduceAdd, Nat.reduceLeDiff, Nat.zero_add, Nat.add_zero, ↓reduceIte, Bool.not_true, Bool.not_false, decide_true, decide_false, eq_self, bne_self_eq_false, List.getElem?_cons_zero, List.getElem?_cons_succ, decide_eq_true_eq, Bool.false_eq_true, Bool.true_eq_false, reduceCtorEq, Nat.le_refl, hwl, hlt]
    rcases ki with ⟨k1, k2⟩ | ⟨k1, s, k2, k3, k4⟩
    · rw [k2, loop_run]
      conv in (codeF _ _ r215L0 _) => unfold r215L0
      simp only [run0, run1, run2, run3, run4, noSlot, memN, RO.dst, lk, drop, forget, number, Nat.reduceBEq, cut?, splice?, builds, List.length_cons, List.length_nil, List.drop_succ_cons, List.drop_zero, List.take_succ_cons, List.take_zero, List.cons_append, List.nil_append, List.append_nil, List.drop_nil, List.take_nil, Nat.reduceAdd, Nat.reduceLeDiff, Nat.zero_add, Nat.add_zero, ↓reduceIte, Bool.not_true, Bool.not_false, decide_true, decide_false, eq_self, bne_self_eq_false, List.getElem?_cons_zero, List.getElem?_cons_succ, decide_eq_true_eq, Bool.false_eq_true, Bool.true_eq_false, reduceCtorEq, Nat.le_refl, hxi, hld, hzl, hlt2, hws]
      exact .inl ⟨k1, rfl⟩
    · rw [k2]
      simp only [run0, run1, run2, run3, run4, noSlot, memN, RO.dst, lk, drop, forget, number, Nat.reduceBEq, cut?, splice?, builds, List.length_cons, List.length_nil, List.drop_succ_cons, List.drop_zero, List.take_succ_cons, List.take_zero, List.cons_append, List.nil_append, List.append_nil, List.drop_nil, List.take_nil, Nat.reduceAdd, Nat.reduceLeDiff, Nat.zero_add, Nat.add_zero, ↓reduceIte, Bool.not_true, Bool.not_false, decide_true, decide_false, eq_self, bne_self_eq_false, List.getElem?_cons_zero, List.getElem?_cons_succ, decide_eq_true_eq, Bool.false_eq_true, Bool.true_eq_false, reduceCtorEq, Nat.le_refl]
      exact .inr ⟨k1, _, rfl, k3, k4⟩
  rw [call_run F Z (hS15.lk (g := 215) rfl) _ _ rfl]
  simp only [show ((0 : Nat) : Int) = 0 from rfl, Shard.cells] at key ⊢
  simp only [run0, run1, run2, run3, run4, noSlot, memN, RO.dst, lk, drop, forget, number, Nat.reduceBEq, cut?, splice?, builds, List.length_cons, List.length_nil, List.drop_succ_cons, List.drop_zero, List.take_succ_cons, List.take_zero, List.cons_append, List.nil_append, List.append_nil, List.drop_nil, List.take_nil, Nat.reduceAdd, Nat.reduceLeDiff, Nat.zero_add, Nat.add_zero, ↓reduceIte, Bool.not_true, Bool.not_false, decide_true, decide_false, eq_self, bne_self_eq_false, List.getElem?_cons_zero, List.getElem?_cons_succ, decide_eq_true_eq, Bool.false_eq_true, Bool.true_eq_false, reduceCtorEq, Nat.le_refl]
  have hlt : ¬ (l.length : Int) < l.length := by omega
  rcases key with ⟨k1, k2⟩ | ⟨k1, s, k2, k3, k4⟩
  · rw [k2, loop_run]
    conv in (codeF _ _ r215L1 _) => unfold r215L1
    simp only [run0, run1, run2, run3, run4, noSlot, memN, RO.dst, lk, drop, forget, number, Nat.reduceBEq, cut?, splice?, builds, List.length_cons, List.length_nil, List.drop_succ_cons, List.drop_zero, List.take_succ_cons, List.take_zero, List.cons_append, List.nil_append, List.append_nil, List.drop_nil, List.take_nil, Nat.reduceAdd, Nat.reduceLeDiff, Nat.zero_add, Nat.add_zero, ↓reduceIte, Bool.not_true, Bool.not_false, decide_true, decide_false, eq_self, bne_self_eq_false, List.getElem?_cons_zero, List.getElem?_cons_succ, decide_eq_true_eq, Bool.false_eq_true, Bool.true_eq_false, reduceCtorEq, Nat.le_refl, hwl, hlt, k1]
  · rw [k2]
    simp only [run0, run1, run2, run3, run4, noSlot, memN, RO.dst, lk, drop, forget, number, Nat.reduceBEq, cut?, splice?, builds, List.length_cons, List.length_nil, List.drop_succ_cons, List.drop_zero, List.take_succ_cons, List.take_zero, List.cons_append, List.nil_append, List.append_nil, List.drop_nil, List.take_nil, Nat.reduceAdd, Nat.reduceLeDiff, Nat.zero_add, Nat.add_zero, ↓reduceIte, Bool.not_true, Bool.not_false, decide_true, decide_false, eq_self, bne_self_eq_false, List.getElem?_cons_zero, List.getElem?_cons_succ, decide_eq_true_eq, Bool.false_eq_true, Bool.true_eq_false, reduceCtorEq, Nat.le_refl, k3, k4, k1]
/-- The sum behind so many stores, and so many shards of the next one. -/
def liveTo (l : List Store) (i j : Nat) : Int := sumI (liveOf (l.flatMap Store.shards)) ((l.take i).flatMap Store.shards ++ ((l[i]?.map Store.shards).getD []).take j)
theorem liveTo_next {l : List Store} {i j : Nat} (hi : i < l.length) (hj : j < l[i].shards.length) : liveTo l i (j + 1) = liveTo l i j + liveOf (l.flatMap Store.shards) l[i].shards[j] := by
  unfold liveTo
  rw [List.getElem?_eq_getElem hi, sumI_app, sumI_app]
  simp only [Option.map_some, Option.getD_some]
  rw [sumI_take _ _ hj]; omega
theorem liveTo_end {l : List Store} {i : Nat} (hi : i < l.length) : liveTo l i l[i].shards.length = liveTo l (i + 1) 0 := by
  unfold liveTo
  rw [List.getElem?_eq_getElem hi]
  simp only [Option.map_some, Option.getD_some, List.take_length, List.take_zero, List.append_nil]
  rw [flatMap_take _ _ hi]
theorem liveTo_all (l : List Store) : liveTo l l.length 0 = sumI (liveOf (l.flatMap Store.shards)) (l.flatMap Store.shards) := by
  unfold liveTo
  simp
theorem liveTo_le {l : List Store} (hn : (l.flatMap Store.shards).length ≤ 320) (ok : ∀ t, t ∈ l.flatMap Store.shards → t.Ok ∧ t.good = true) {i j : Nat} (hi : i < l.length) : 0 ≤ liveTo l i j ∧ liveTo l i j ≤ 236118324143482260672000 := by
  unfold liveTo
  have hsub : ∀ t, t ∈ (l.take i).flatMap Store.shards ++ ((l[i]?.map Store.shards).getD []).take j → t ∈ l.flatMap Store.shards := by
    intro t ht
    rcases List.mem_append.1 ht with ht | ht
    · obtain ⟨s, hs, hts⟩ := List.mem_flatMap.1 ht
      exact List.mem_flatMap.2 ⟨s, List.mem_of_mem_take hs, hts⟩
    · have ht := List.mem_of_mem_take ht
      rw [List.getElem?_eq_getElem hi] at ht
      exact List.mem_flatMap.2 ⟨_, List.getElem_mem hi, ht⟩
  have h1 := sumI_le (liveOf (l.flatMap Store.shards)) (m := 737869762948382064600) _ fun t ht => liveOf_le (all := l.flatMap Store.shards) (ok t (hsub t ht)).1 (ok t (hsub t ht)).2
  have h2 : ((l.take i).flatMap Store.shards ++ ((l[i]?.map Store.shards).getD []).take j).length ≤ (l.flatMap Store.shards).length := by
    have e : l.flatMap Store.shards = (l.take i).flatMap Store.shards ++ (l[i].shards ++ (l.drop (i + 1)).flatMap Store.shards) := by
      conv => lhs; rw [← List.take_append_drop i l, List.flatMap_append, List.drop_eq_getElem_cons hi, List.flatMap_cons]
    rw [List.getElem?_eq_getElem hi, e]
    simp only [Option.map_some, Option.getD_some, List.length_append, List.length_take]
    omega
  omega
set_option maxHeartbeats 2000000 in
theorem sLiveTotal_in (k : KS F) (hS15 : Has F tS15) (w : SlR 18 Store.RI h x l fp) (hn : (l.flatMap Store.shards).length ≤ 320) (ok : ∀ t, t ∈ l.flatMap Store.shards → t.Ok ∧ t.good = true) {i : Nat} (hi : i < l.length) {j : Nat} (hj : j < l[i].shards.length) :
    loop F Z [0, 4, 5, 6, 7] r171L0 ⟨[(0, .c x), (4, .c (.int .u64 (wHi (liveTo l i j)))), (5, .c (.int .u64 (wLo (liveTo l i j)))), (6, .c (.int .i64 (i : Nat))), (7, .c (.int .i64 (j : Nat)))], [], [], h⟩
      = loop F Z [0, 4, 5, 6, 7] r171L0 ⟨[(0, .c x), (4, .c (.int .u64 (wHi (liveTo l i (j + 1))))), (5, .c (.int .u64 (wLo (liveTo l i (j + 1))))), (6, .c (.int .i64 (i : Nat))), (7, .c (.int .i64 ((j + 1 : Nat) : Int)))], [], [], h⟩ := by
  obtain ⟨z, fz, hld, wz⟩ := w.storeAt hi
  have hxi := w.idx hi
  have hzl := wz.len
  have hle := wz.le2
  have hlt : (j : Int) < l[i].shards.length := by omega
  have hws := wrapS j (by omega)
  have hzj := wz.idx hj
  obtain ⟨r, f, hl2, hR, _⟩ := wz.one hj
  obtain ⟨x1, p1, x2, p2, rfl, rfl, w1, w2⟩ := hR
  have hnw := l15Newest_run (F := F) (Z := Z) hS15 w l[i].shards[j] x1 x2
  obtain ⟨aok, agd⟩ := ok l[i].shards[j] (List.mem_flatMap.2 ⟨_, List.getElem_mem hi, List.getElem_mem hj⟩)
  have hT := liveTo_le hn ok (j := j) hi
  have hadd := l13Add_run (Z := Z) (T := liveTo l i j) k w1 aok.book (Shard.good_book agd) hT.1 (by omega)
  change _ = some (V.tup [.c (.int .u64 (wHi (liveTo l i j + l[i].shards[j].money))), .c (.int .u64 (wLo (liveTo l i j + l[i].shards[j].money)))], _) at hadd
  rw [liveTo_next hi hj]
  have hdef : liveOf (l.flatMap Store.shards) l[i].shards[j] = bif (l.flatMap Store.shards).any l[i].shards[j].newer then 0 else l[i].shards[j].money := rfl
  simp only [Shard.cells] at hnw
  generalize (l.flatMap Store.shards).any l[i].shards[j].newer = nn at *
  rw [hdef]
  clear w wz w1 w2 aok agd ok hdef hT hn
  generalize liveTo l i j = T at *
  generalize l[i].shards[j] = a at *
  rw [loop_run]
  conv in (codeF _ _ r171L0 _) => unfold r171L0
  cases nn with
  | true => simp only [run0, run1, run2, run3, run4, noSlot, memN, RO.dst, lk, drop, forget, number, Nat.reduceBEq, cut?, splice?, builds, List.length_cons, List.length_nil, List.drop_succ_cons, List.drop_zero, List.take_succ_cons, List.take_zero, List.cons_append, List.nil_append, List.append_nil, List.drop_nil, List.take_nil, Nat.reduceAdd, Nat.reduceLeDiff, Nat.zero_add, Nat.add_zero, ↓reduceIte, Bool.not_true, Bool.not_false, decide_true, decide_false, eq_self, bne_self_eq_false, List.getElem?_cons_zero, List.getElem?_cons_succ, decide_eq_true_eq, Bool.false_eq_true, Bool.true_eq_false, reduceCtorEq, Nat.le_refl, hxi, hld, hzl, hlt, hzj, hl2, hnw, hws, Int.add_zero]
  | false => simp only [run0, run1, run2, run3, run4, noSlot, memN, RO.dst, lk, drop, forget, number, Nat.reduceBEq, cut?, splice?, builds, List.length_cons, List.length_nil, List.drop_succ_cons, List.drop_zero, List.take_succ_cons, List.take_zero, List.cons_append, List.nil_append, List.append_nil, List.drop_nil, List.take_nil, Nat.reduceAdd, Nat.reduceLeDiff, Nat.zero_add, Nat.add_zero, ↓reduceIte, Bool.not_true, Bool.not_false, decide_true, decide_false, eq_self, bne_self_eq_false, List.getElem?_cons_zero, List.getElem?_cons_succ, decide_eq_true_eq, Bool.false_eq_true, Bool.true_eq_false, reduceCtorEq, Nat.le_refl, hxi, hld, hzl, hlt, hzj, hl2, hnw, hadd, hws]
theorem sLiveTotal_run (k : KS F) (hS15 : Has F tS15) (w : SlR 18 Store.RI h x l fp) (ok : ∀ a, a ∈ l → a.Ok) :
    call F Z 171 [.c x] h = some (.tup [.c (.int .u64 (liveTotal l).1), .c (.int .u64 (liveTotal l).2)], h) := by
  have e1 := l15All_run (Z := Z) k hS15 w ok
  have hle := w.le2
  have hwl := w.len
  rw [call_run F Z (hS15.lk (g := 171) rfl) _ _ rfl]
  have hdef : liveTotal l = bif areStores l then (wHi (sumI (liveOf (l.flatMap Store.shards)) (l.flatMap Store.shards)), wLo (sumI (liveOf (l.flatMap Store.shards)) (l.flatMap Store.shards))) else (0, 0) := rfl
  cases ha : areStores l with
  | false =>
    rw [ha] at e1
    simp only [run0, run1, run2, run3, run4, noSlot, memN, RO.dst, lk, drop, forget, number, Nat.reduceBEq, cut?, splice?, builds, List.length_cons, List.length_nil, List.drop_succ_cons, List.drop_zero, List.take_succ_cons, List.take_zero, List.cons_append, List.nil_append, List.append_nil, List.drop_nil, List.take_nil, Nat.reduceAdd, Nat.reduceLeDiff, Nat.zero_add, Nat.add_zero, ↓reduceIte, Bool.not_true, Bool.not_false, decide_true, decide_false, eq_self, bne_self_eq_false, List.getElem?_cons_zero, List.getElem?_cons_succ, decide_eq_true_eq, Bool.false_eq_true, Bool.true_eq_false, reduceCtorEq, Nat.le_refl, e1]
    rw [hdef, ha]; rfl
  | true =>
    rw [ha] at e1
    obtain ⟨hn, hok⟩ := allShards_ok ha ok
    rw [hdef, ha, ← liveTo_all]
    have key := loop_goesF (F := F) (Z := Z) (live := [0, 4, 5, 6]) (b := r171L1) l.length (fun i => ⟨[(0, .c x), (4, .c (.int .u64 (wHi (liveTo l i 0)))), (5, .c (.int .u64 (wLo (liveTo l i 0)))), (6, .c (.int .i64 (i : Nat)))], [], [], h⟩) fun i hi => by
      have ki := loop_goesF (F := F) (Z := Z) (live := [0, 4, 5, 6, 7]) (b := r171L0) l[i].shards.length (fun j => ⟨[(0, .c x), (4, .c (.int .u64 (wHi (liveTo l i j)))), (5, .c (.int .u64 (wLo (liveTo l i j)))), (6, .c (.int .i64 (i : Nat))), (7, .c (.int .i64 (j : Nat)))], [], [], h⟩) fun j hj => sLiveTotal_in k hS15 w hn hok hi hj
      have hlt : (i : Int) < l.length := by omega
      have hws := wrapS i (by omega)
      obtain ⟨z, fz, hld, wz⟩ := w.storeAt hi
      have hxi := w.idx hi
      have hzl := wz.len
      have hlt2 : ¬ (l[i].shards.length : Int) < l[i].shards.length := by omega
      simp only [show ((0 : Nat) : Int) = 0 from rfl] at ki
      rw [loop_run]
      conv in (codeF _ _ r171L1 _) => unfold r171L1
      simp only [run0, run1, run2, run3, run4, noSlot, memN, RO.dst, lk, drop, forget, number, Nat.reduceBEq, cut?, splice?, builds, List.length_cons, List.length_nil, List.drop_succ_cons, List.drop_zero, List.take_succ_cons, List.take_zero, List.cons_append, List.nil_append, List.append_nil, List.drop_nil, List.take_nil, Nat.reduceAdd, Nat.reduceLeDiff, Nat.zero_add, Nat.add_zero, ↓reduceIte, Bool.not_true, Bool.not_false, decide_true, decide_false, eq_self, bne_self_eq_false, List.getElem?_cons_zero, List.getElem?_cons_succ, decide_eq_true_eq, Bool.false_eq_true, Bool.true_eq_false, reduceCtorEq, Nat.le_refl, hwl, hlt]
      rw [ki, loop_run]
      conv in (codeF _ _ r171L0 _) => unfold r171L0
      simp only [run0, run1, run2, run3, run4, noSlot, memN, RO.dst, lk, drop, forget, number, Nat.reduceBEq, cut?, splice?, builds, List.length_cons, List.length_nil, List.drop_succ_cons, List.drop_zero, List.take_succ_cons, List.take_zero, List.cons_append, List.nil_append, List.append_nil, List.drop_nil, List.take_nil, Nat.reduceAdd, Nat.reduceLeDiff, Nat.zero_add, Nat.add_zero, ↓reduceIte, Bool.not_true, Bool.not_false, decide_true, decide_false, eq_self, bne_self_eq_false, List.getElem?_cons_zero, List.getElem?_cons_succ, decide_eq_true_eq, Bool.false_eq_true, Bool.true_eq_false, reduceCtorEq, Nat.le_refl, hxi, hld, hzl, hlt2, hws]
      rw [liveTo_end hi]
    have z1 : wHi (liveTo l 0 0) = 0 := by simp [liveTo, sumI, wHi]
    have z2 : wLo (liveTo l 0 0) = 0 := by simp [liveTo, sumI, wLo]
    have hlt : ¬ (l.length : Int) < l.length := by omega
    simp only [show ((0 : Nat) : Int) = 0 from rfl, z1, z2] at key
    simp only [run0, run1, run2, run3, run4, noSlot, memN, RO.dst, lk, drop, forget, number, Nat.reduceBEq, cut?, splice?, builds, List.length_cons, List.length_nil, List.drop_succ_cons, List.drop_zero, List.take_succ_cons, List.take_zero, List.cons_append, List.nil_append, List.append_nil, List.drop_nil, List.take_nil, Nat.reduceAdd, Nat.reduceLeDiff, Nat.zero_add, Nat.add_zero, ↓reduceIte, Bool.not_true, Bool.not_false, decide_true, decide_false, eq_self, bne_self_eq_false, List.getElem?_cons_zero, List.getElem?_cons_succ, decide_eq_true_eq, Bool.false_eq_true, Bool.true_eq_false, reduceCtorEq, Nat.le_refl, e1, key]
    rw [loop_run]
    conv in (codeF _ _ r171L1 _) => unfold r171L1
    simp only [run0, run1, run2, run3, run4, noSlot, memN, RO.dst, lk, drop, forget, number, Nat.reduceBEq, cut?, splice?, builds, List.length_cons, List.length_nil, List.drop_succ_cons, List.drop_zero, List.take_succ_cons, List.take_zero, List.cons_append, List.nil_append, List.append_nil, List.drop_nil, List.take_nil, Nat.reduceAdd, Nat.reduceLeDiff, Nat.zero_add, Nat.add_zero, ↓reduceIte, Bool.not_true, Bool.not_false, decide_true, decide_false, eq_self, bne_self_eq_false, List.getElem?_cons_zero, List.getElem?_cons_succ, decide_eq_true_eq, Bool.false_eq_true, Bool.true_eq_false, reduceCtorEq, Nat.le_refl, hwl, hlt]
theorem sLiveTotal_c (k : KS F) (hS15 : Has F tS15) (hf : h.floor ≤ h.next) (w : SlR 18 Store.RI h x l fp) (ok : ∀ a, a ∈ l → a.Ok) :
    ∃ h', call F Z 171 [.c x] h = some (.tup [.c (.int .u64 (liveTotal l).1), .c (.int .u64 (liveTotal l).2)], h') ∧ On h h' := ⟨h, sLiveTotal_run k hS15 w ok, On.refl h⟩
end
end Go.Proofs.Ytlfepembgjjejaa.A
/- What the converters of Int compute. -/
namespace Go.Proofs.Ytlfepembgjjejaa.A
open Go
set_option linter.unusedSimpArgs false
set_option linter.unusedVariables false
def int_enc (b : Int) : List Cell := [.int .i64 b]
theorem int_enc_len (b : Int) : (int_enc b).length = 1 := rfl
theorem int_enc_tak (b : Int) : (int_enc b).take 1 = int_enc b := rfl
section
variable {F : Nat → Option RF} {Z : CallF} {h : Heap} {x y : Cell} {xs ys : List Int} {fp fq : List Nat}
def int_zero : List Cell := [.int .i64 0]
theorem eqIntS_run (hL : Has F tLInt) (w : SlR 15 (Fl int_enc) h x xs fp) (v : SlR 15 (Fl int_enc) h y ys fq) : call F Z 285 [.c x, .c y] h = some (.c (.bool (decide (xs = ys))), h) := by
  have hw := w.le2
  have hv := v.le2
  rw [call_run F Z (hL.lk (g := 285) rfl) _ _ rfl]
  simp only [run0, run1, run2, run3, run4, noSlot, memN, RO.dst, lk, drop, forget, number, Nat.reduceBEq, cut?, splice?, builds, List.length_cons, List.length_nil, List.drop_succ_cons, List.drop_zero, List.take_succ_cons, List.take_zero, List.cons_append, List.nil_append, List.append_nil, List.drop_nil, List.take_nil, Nat.reduceAdd, Nat.reduceLeDiff, Nat.zero_add, Nat.add_zero, ↓reduceIte, Bool.not_true, Bool.not_false, decide_true, decide_false, eq_self, bne_self_eq_false, List.getElem?_cons_zero, List.getElem?_cons_succ, decide_eq_true_eq, Bool.false_eq_true, Bool.true_eq_false, reduceCtorEq, Nat.le_refl, w.len, v.len]
  rw [condC_if]
  split
  · rename_i hne
    have : xs ≠ ys := by rintro rfl; simp at hne
    simp only [run0, run1, run2, run3, run4, noSlot, memN, RO.dst, lk, drop, forget, number, Nat.reduceBEq, cut?, splice?, builds, List.length_cons, List.length_nil, List.drop_succ_cons, List.drop_zero, List.take_succ_cons, List.take_zero, List.cons_append, List.nil_append, List.append_nil, List.drop_nil, List.take_nil, Nat.reduceAdd, Nat.reduceLeDiff, Nat.zero_add, Nat.add_zero, ↓reduceIte, Bool.not_true, Bool.not_false, decide_true, decide_false, eq_self, bne_self_eq_false, List.getElem?_cons_zero, List.getElem?_cons_succ, decide_eq_true_eq, Bool.false_eq_true, Bool.true_eq_false, reduceCtorEq, Nat.le_refl, this]
  · rename_i he
    have he : xs.length = ys.length := by simp at he; omega
    simp only [run0, run1, run2, run3, run4, noSlot, memN, RO.dst, lk, drop, forget, number, Nat.reduceBEq, cut?, splice?, builds, List.length_cons, List.length_nil, List.drop_succ_cons, List.drop_zero, List.take_succ_cons, List.take_zero, List.cons_append, List.nil_append, List.append_nil, List.drop_nil, List.take_nil, Nat.reduceAdd, Nat.reduceLeDiff, Nat.zero_add, Nat.add_zero, ↓reduceIte, Bool.not_true, Bool.not_false, decide_true, decide_false, eq_self, bne_self_eq_false, List.getElem?_cons_zero, List.getElem?_cons_succ, decide_eq_true_eq, Bool.false_eq_true, Bool.true_eq_false, reduceCtorEq, Nat.le_refl]
    have key := loop_allN (F := F) (Z := Z) (live := [0, 1, 5]) (b := r285L0) xs.length (fun i => ⟨[(0, .c x), (1, .c y), (5, .c (.int .i64 (i : Nat)))], [], [], h⟩) (fun i => decide (xs[i]? = ys[i]?)) (fun s => lk s.env 4 = some (.c (.bool false)) ∧ s.hp = h) fun i hi => by
      have hi' : i < ys.length := by omega
      have hlt : (i : Int) < xs.length := by omega
      rw [loop_run]
      simp only [r285L0, run0, run1, run2, run3, run4, noSlot, memN, RO.dst, lk, drop, forget, number, Nat.reduceBEq, cut?, splice?, builds, List.length_cons, List.length_nil, List.drop_succ_cons, List.drop_zero, List.take_succ_cons, List.take_zero, List.cons_append, List.nil_append, List.append_nil, List.drop_nil, List.take_nil, Nat.reduceAdd, Nat.reduceLeDiff, Nat.zero_add, Nat.add_zero, ↓reduceIte, Bool.not_true, Bool.not_false, decide_true, decide_false, eq_self, bne_self_eq_false, List.getElem?_cons_zero, List.getElem?_cons_succ, decide_eq_true_eq, Bool.false_eq_true, Bool.true_eq_false, reduceCtorEq, Nat.le_refl, w.len, hlt, w.idx hi, v.idx hi', w.load hi, v.load hi', int_enc, wrapS i (by omega)]
      rw [List.getElem?_eq_getElem hi, List.getElem?_eq_getElem hi']
      (repeat' ((first | (rw [gF_if]; split) | (rw [condC_if]; split) | (rw [pickR_if]; split)) <;> (rename_i hh; (try simp only [Bool.not_eq_true, decide_eq_true_eq] at hh); simp only [hh, run0, run1, run2, run3, run4, noSlot, memN, RO.dst, lk, drop, forget, number, Nat.reduceBEq, cut?, splice?, builds, List.length_cons, List.length_nil, List.drop_succ_cons, List.drop_zero, List.take_succ_cons, List.take_zero, List.cons_append, List.nil_append, List.append_nil, List.drop_nil, List.take_nil, Nat.reduceAdd, Nat.reduceLeDiff, Nat.zero_add, Nat.add_zero, ↓reduceIte, Bool.not_true, Bool.not_false, decide_true, decide_false, eq_self, bne_self_eq_false, List.getElem?_cons_zero, List.getElem?_cons_succ, decide_eq_true_eq, Bool.false_eq_true, Bool.true_eq_false, reduceCtorEq, Nat.le_refl, wrapS i (by omega)])))
      · exact .inr ⟨by simp_all, _, rfl, rfl, rfl⟩
      · exact .inl ⟨by simp_all, rfl⟩
    rw [all_same he] at key
    rcases key with ⟨k1, k2⟩ | ⟨k1, s, k2, k3, k4⟩
    · simp only [show ((0 : Nat) : Int) = 0 from rfl] at k2
      rw [k2, loop_run]
      have hlt : ¬ (xs.length : Int) < xs.length := by omega
      simp only [r285L0, run0, run1, run2, run3, run4, noSlot, memN, RO.dst, lk, drop, forget, number, Nat.reduceBEq, cut?, splice?, builds, List.length_cons, List.length_nil, List.drop_succ_cons, List.drop_zero, List.take_succ_cons, List.take_zero, List.cons_append, List.nil_append, List.append_nil, List.drop_nil, List.take_nil, Nat.reduceAdd, Nat.reduceLeDiff, Nat.zero_add, Nat.add_zero, ↓reduceIte, Bool.not_true, Bool.not_false, decide_true, decide_false, eq_self, bne_self_eq_false, List.getElem?_cons_zero, List.getElem?_cons_succ, decide_eq_true_eq, Bool.false_eq_true, Bool.true_eq_false, reduceCtorEq, Nat.le_refl, w.len, hlt, k1]
    · simp only [show ((0 : Nat) : Int) = 0 from rfl] at k2
      rw [k2]
      simp only [run0, run1, run2, run3, run4, noSlot, memN, RO.dst, lk, drop, forget, number, Nat.reduceBEq, cut?, splice?, builds, List.length_cons, List.length_nil, List.drop_succ_cons, List.drop_zero, List.take_succ_cons, List.take_zero, List.cons_append, List.nil_append, List.append_nil, List.drop_nil, List.take_nil, Nat.reduceAdd, Nat.reduceLeDiff, Nat.zero_add, Nat.add_zero, ↓reduceIte, Bool.not_true, Bool.not_false, decide_true, decide_false, eq_self, bne_self_eq_false, List.getElem?_cons_zero, List.getElem?_cons_succ, decide_eq_true_eq, Bool.false_eq_true, Bool.true_eq_false, reduceCtorEq, Nat.le_refl, k3, k4, k1]
/-- What is written to mark one. -/
def int_mk (k : Int) : Int := k
def int_marks (n : Nat) (k : Int) : List Int := (List.range n).map fun i : Nat => int_mk (k + 1 * (i : Int))
theorem int_marks_len (n : Nat) (k : Int) : (int_marks n k).length = n := by simp [int_marks]
set_option maxHeartbeats 1000000 in
theorem markIntS_run (hL : Has F tLInt) (w : SlR 15 (Fl int_enc) h x xs fp) (hlo : ∀ id, id ∈ fp → h.floor ≤ id) (k : Int) (h1 : 0 ≤ k) (h2 : k + 1 * xs.length ≤ 9200000000000000000) :
    ∃ h', call F Z 287 [.c x, .c (.int .i64 k)] h = some (.c (.int .i64 (k + 1 * xs.length)), h') ∧ Mk h h' fp ∧ SlR 15 (Fl int_enc) h' x (int_marks xs.length k) fp := by
  have hle := w.le2
  have hlm := int_marks_len xs.length k
  rw [call_run F Z (hL.lk (g := 287) rfl) _ _ rfl]
  simp only [run0, run1, run2, run3, run4, noSlot, memN, RO.dst, lk, drop, forget, number, Nat.reduceBEq, cut?, splice?, builds, List.length_cons, List.length_nil, List.drop_succ_cons, List.drop_zero, List.take_succ_cons, List.take_zero, List.cons_append, List.nil_append, List.append_nil, List.drop_nil, List.take_nil, Nat.reduceAdd, Nat.reduceLeDiff, Nat.zero_add, Nat.add_zero, ↓reduceIte, Bool.not_true, Bool.not_false, decide_true, decide_false, eq_self, bne_self_eq_false, List.getElem?_cons_zero, List.getElem?_cons_succ, decide_eq_true_eq, Bool.false_eq_true, Bool.true_eq_false, reduceCtorEq, Nat.le_refl]
  rcases w.flat with ⟨rfl, rfl, rfl⟩ | ⟨hx, hg, hn, rfl⟩
  · rw [loop_run]
    simp only [r287L0, run0, run1, run2, run3, run4, noSlot, memN, RO.dst, lk, drop, forget, number, Nat.reduceBEq, cut?, splice?, builds, List.length_cons, List.length_nil, List.drop_succ_cons, List.drop_zero, List.take_succ_cons, List.take_zero, List.cons_append, List.nil_append, List.append_nil, List.drop_nil, List.take_nil, Nat.reduceAdd, Nat.reduceLeDiff, Nat.zero_add, Nat.add_zero, ↓reduceIte, Bool.not_true, Bool.not_false, decide_true, decide_false, eq_self, bne_self_eq_false, List.getElem?_cons_zero, List.getElem?_cons_succ, decide_eq_true_eq, Bool.false_eq_true, Bool.true_eq_false, reduceCtorEq, Nat.le_refl, show ¬ ((0 : Int) < 0) from by omega]
    exact ⟨h, by simp, Mk.refl _ _, by simpa [int_marks] using w⟩
  · have hfl : h.floor ≤ x.sid := hlo _ (by simp)
    have key : loop F Z [0, 1, 5] r287L0 ⟨[(0, .c x), (1, .c (.int .i64 (k + 1 * (0 : Nat)))), (5, .c (.int .i64 (0 : Nat)))], [], [], h.put x.sid (mixR int_enc (int_marks xs.length k) xs 0)⟩ = loop F Z [0, 1, 5] r287L0 ⟨[(0, .c x), (1, .c (.int .i64 (k + 1 * (xs.length : Nat)))), (5, .c (.int .i64 (xs.length : Nat)))], [], [], h.put x.sid (mixR int_enc (int_marks xs.length k) xs xs.length)⟩ :=
      loop_goesF xs.length (fun i => ⟨[(0, .c x), (1, .c (.int .i64 (k + 1 * (i : Nat)))), (5, .c (.int .i64 (i : Nat)))], [], [], h.put x.sid (mixR int_enc (int_marks xs.length k) xs i)⟩) fun i hi => by
        have hlt : (i : Int) < xs.length := by omega
        have hi2 : i < (mixR int_enc (int_marks xs.length k) xs i).length := by rw [mixR_len _ hlm]; exact hi
        have hms : (int_marks xs.length k)[i]'(by omega) = int_mk (k + 1 * i) := by simp [int_marks]
        have hset := mixR_set int_enc hlm hi
        rw [hms] at hset
        have hput := storeP_put (h := h) hfl hi2
        rw [← mixR_cur int_enc hlm hi, ← hset, loop_run]
        simp (disch := omega) only [r287L0, run0, run1, run2, run3, run4, noSlot, memN, RO.dst, lk, drop, forget, number, Nat.reduceBEq, cut?, splice?, builds, List.length_cons, List.length_nil, List.drop_succ_cons, List.drop_zero, List.take_succ_cons, List.take_zero, List.cons_append, List.nil_append, List.append_nil, List.drop_nil, List.take_nil, Nat.reduceAdd, Nat.reduceLeDiff, Nat.zero_add, Nat.add_zero, ↓reduceIte, Bool.not_true, Bool.not_false, decide_true, decide_false, eq_self, bne_self_eq_false, List.getElem?_cons_zero, List.getElem?_cons_succ, decide_eq_true_eq, Bool.false_eq_true, Bool.true_eq_false, reduceCtorEq, Nat.le_refl, w.len, hlt, w.idx hi, hput, putM_s, wrapI1, wrapU1, int_enc, b_rem, beq_self_eq_true, Int.reduceEq, int_mk]
        rw [show k + 1 * ((i : Nat) : Int) + 1 = k + 1 * ((i + 1 : Nat) : Int) from by omega, show ((i : Nat) : Int) + 1 = ((i + 1 : Nat) : Int) from rfl]
    rw [mixR_0, put_same hg, mixR_n _ hlm] at key
    simp only [show ((0 : Nat) : Int) = 0 from rfl, Int.mul_zero, Int.add_zero] at key
    rw [key, loop_run]
    have hlt : ¬ (xs.length : Int) < xs.length := by omega
    simp only [r287L0, run0, run1, run2, run3, run4, noSlot, memN, RO.dst, lk, drop, forget, number, Nat.reduceBEq, cut?, splice?, builds, List.length_cons, List.length_nil, List.drop_succ_cons, List.drop_zero, List.take_succ_cons, List.take_zero, List.cons_append, List.nil_append, List.append_nil, List.drop_nil, List.take_nil, Nat.reduceAdd, Nat.reduceLeDiff, Nat.zero_add, Nat.add_zero, ↓reduceIte, Bool.not_true, Bool.not_false, decide_true, decide_false, eq_self, bne_self_eq_false, List.getElem?_cons_zero, List.getElem?_cons_succ, decide_eq_true_eq, Bool.false_eq_true, Bool.true_eq_false, reduceCtorEq, Nat.le_refl, w.len, hlt]
    refine ⟨_, rfl, Mk.put _ _ _, ?_⟩
    have := SlR.ofFlat (tag := 15) (h := h.put x.sid ((int_marks xs.length k).map int_enc)) (enc := int_enc) (xs := int_marks xs.length k) (id := x.sid) (by rw [hlm]; exact w.le) (by simp [Heap.put]) hn
    rw [hlm, ← hx] at this
    exact this
set_option maxHeartbeats 1000000 in
theorem heldIntS_run (hL : Has F tLInt) {n : Nat} {k : Int} (w : SlR 15 (Fl int_enc) h x (int_marks n k) fp) (h1 : 0 ≤ k) (h2 : k + 1 * n ≤ 9200000000000000000) :
    call F Z 288 [.c x, .c (.int .i64 k)] h = some (.c (.int .i64 (k + 1 * n)), h) := by
  have hle := w.le2
  have hwl := w.len
  rw [int_marks_len] at hle hwl
  rw [call_run F Z (hL.lk (g := 288) rfl) _ _ rfl]
  simp only [run0, run1, run2, run3, run4, noSlot, memN, RO.dst, lk, drop, forget, number, Nat.reduceBEq, cut?, splice?, builds, List.length_cons, List.length_nil, List.drop_succ_cons, List.drop_zero, List.take_succ_cons, List.take_zero, List.cons_append, List.nil_append, List.append_nil, List.drop_nil, List.take_nil, Nat.reduceAdd, Nat.reduceLeDiff, Nat.zero_add, Nat.add_zero, ↓reduceIte, Bool.not_true, Bool.not_false, decide_true, decide_false, eq_self, bne_self_eq_false, List.getElem?_cons_zero, List.getElem?_cons_succ, decide_eq_true_eq, Bool.false_eq_true, Bool.true_eq_false, reduceCtorEq, Nat.le_refl]
  have key : loop F Z [0, 1, 5] r288L0 ⟨[(0, .c x), (1, .c (.int .i64 (k + 1 * (0 : Nat)))), (5, .c (.int .i64 (0 : Nat)))], [], [], h⟩ = loop F Z [0, 1, 5] r288L0 ⟨[(0, .c x), (1, .c (.int .i64 (k + 1 * (n : Nat)))), (5, .c (.int .i64 (n : Nat)))], [], [], h⟩ :=
    loop_goesF n (fun i => ⟨[(0, .c x), (1, .c (.int .i64 (k + 1 * (i : Nat)))), (5, .c (.int .i64 (i : Nat)))], [], [], h⟩) fun i hi0 => by
      have hi : i < (int_marks n k).length := by rw [int_marks_len]; exact hi0
      have hlt : (i : Int) < n := by omega
      have hms : (int_marks n k)[i] = int_mk (k + 1 * i) := by simp [int_marks]
      have hld := w.load hi
      rw [hms] at hld
      rw [loop_run]
      simp (disch := omega) only [r288L0, run0, run1, run2, run3, run4, noSlot, memN, RO.dst, lk, drop, forget, number, Nat.reduceBEq, cut?, splice?, builds, List.length_cons, List.length_nil, List.drop_succ_cons, List.drop_zero, List.take_succ_cons, List.take_zero, List.cons_append, List.nil_append, List.append_nil, List.drop_nil, List.take_nil, Nat.reduceAdd, Nat.reduceLeDiff, Nat.zero_add, Nat.add_zero, ↓reduceIte, Bool.not_true, Bool.not_false, decide_true, decide_false, eq_self, bne_self_eq_false, List.getElem?_cons_zero, List.getElem?_cons_succ, decide_eq_true_eq, Bool.false_eq_true, Bool.true_eq_false, reduceCtorEq, Nat.le_refl, hwl, hlt, w.idx hi, hld, wrapI1, wrapU1, int_enc, b_rem, beq_self_eq_true, int_mk, Int.reduceEq]
      rw [show k + 1 * ((i : Nat) : Int) + 1 = k + 1 * ((i + 1 : Nat) : Int) from by omega, show ((i : Nat) : Int) + 1 = ((i + 1 : Nat) : Int) from rfl]
  simp only [show ((0 : Nat) : Int) = 0 from rfl, Int.mul_zero, Int.add_zero] at key
  rw [key, loop_run]
  have hlt : ¬ (n : Int) < n := by omega
  simp only [r288L0, run0, run1, run2, run3, run4, noSlot, memN, RO.dst, lk, drop, forget, number, Nat.reduceBEq, cut?, splice?, builds, List.length_cons, List.length_nil, List.drop_succ_cons, List.drop_zero, List.take_succ_cons, List.take_zero, List.cons_append, List.nil_append, List.append_nil, List.drop_nil, List.take_nil, Nat.reduceAdd, Nat.reduceLeDiff, Nat.zero_add, Nat.add_zero, ↓reduceIte, Bool.not_true, Bool.not_false, decide_true, decide_false, eq_self, bne_self_eq_false, List.getElem?_cons_zero, List.getElem?_cons_succ, decide_eq_true_eq, Bool.false_eq_true, Bool.true_eq_false, reduceCtorEq, Nat.le_refl, hwl, hlt]
end
end Go.Proofs.Ytlfepembgjjejaa.A
/- Shards with memory of their own are marked, one by one. -/
namespace Go.Proofs.Ytlfepembgjjejaa.A
open Go
set_option linter.unusedSimpArgs false
set_option linter.unusedVariables false
def Shard.mark1 (t : Shard) (k : Int) : Shard := ⟨k, k + 1, k + 2, k + 3, ⟨Account.marks t.book.list.length (k + 4)⟩, Fin.marks t.finished.length (k + 4 + 5 * (t.book.list.length : Nat))⟩
def Shard.wt1 (t : Shard) : Int := 4 + 5 * ((t.book.list.length : Nat) : Int) + 2 * ((t.finished.length : Nat) : Int)
def Shard.marksS : List Shard → Int → List Shard
  | [], _ => []
  | t :: r, k => t.mark1 k :: Shard.marksS r (k + t.wt1)
theorem Shard.wt1_nn (t : Shard) : 0 ≤ t.wt1 := by simp only [wt1]; omega
theorem Shard.marksS_len : ∀ (xs : List Shard) (k : Int), (Shard.marksS xs k).length = xs.length
  | [], _ => rfl
  | t :: r, k => by simp only [Shard.marksS, List.length_cons, Shard.marksS_len r]
theorem Shard.marksS_app : ∀ (xs ys : List Shard) (k : Int), Shard.marksS (xs ++ ys) k = Shard.marksS xs k ++ Shard.marksS ys (k + sumI Shard.wt1 xs)
  | [], ys, k => by simp [Shard.marksS, sumI]
  | t :: r, ys, k => by
    simp only [List.cons_append, Shard.marksS, Shard.marksS_app r ys, sumI, Int.add_assoc]
theorem Shard.mark_step {xs : List Shard} {i : Nat} (hi : i < xs.length) (k : Int) :
    (Shard.marksS (xs.take i) k ++ xs.drop i).set i (xs[i].mark1 (k + sumI Shard.wt1 (xs.take i))) = Shard.marksS (xs.take (i + 1)) k ++ xs.drop (i + 1) := by
  have hl : (Shard.marksS (xs.take i) k).length = i := by rw [Shard.marksS_len, List.length_take]; omega
  rw [List.set_append_right _ _ (by omega), hl, Nat.sub_self, List.drop_eq_getElem_cons hi, List.set_cons_zero, List.take_add_one, List.getElem?_eq_getElem hi, Shard.marksS_app]
  simp [Shard.marksS]
theorem Shard.mark_at {xs : List Shard} {i : Nat} (hi : i < xs.length) (k : Int) (h : i < (Shard.marksS (xs.take i) k ++ xs.drop i).length) : (Shard.marksS (xs.take i) k ++ xs.drop i)[i] = xs[i] := by
  have hl : (Shard.marksS (xs.take i) k).length = i := by rw [Shard.marksS_len, List.length_take]; omega
  rw [List.getElem_append_right (by omega)]
  simp [hl]
section
variable {F : Nat → Option RF} {Z : CallF} {h : Heap} {x : Cell} {xs : List Shard} {fp : List Nat}
set_option maxHeartbeats 2000000 in
theorem markShardS_turn (hLShard : Has F tLShard) (hLAccount : Has F tLAccount) (hLFin : Has F tLFin) {ys : List Shard} {g : Heap} (w : SlR 16 Shard.RI g x ys fp) (nd : fp.Nodup) (hlo : ∀ id, id ∈ fp → g.floor ≤ id) {i : Nat} (hi : i < ys.length) (k : Int) (h1 : 0 ≤ k) (h2 : k + ys[i].wt1 ≤ 9200000000000000000) :
    ∃ g', loop F Z [0, 1, 5] r230L0 ⟨[(0, .c x), (1, .c (.int .i64 k)), (5, .c (.int .i64 (i : Nat)))], [], [], g⟩ = loop F Z [0, 1, 5] r230L0 ⟨[(0, .c x), (1, .c (.int .i64 (k + ys[i].wt1))), (5, .c (.int .i64 ((i + 1 : Nat) : Int)))], [], [], g'⟩ ∧
      Mk g g' fp ∧ SlR 16 Shard.RI g' x (ys.set i (ys[i].mark1 k)) fp := by
  have hle := w.le2
  have hlt : (i : Int) < ys.length := by omega
  have hws := wrapS i (by omega)
  have hwl := w.len
  have hxi := w.idx hi
  obtain ⟨r, f, rows, hR, hin, nf, hs, hns, hsl, hg, hr, hir, fin⟩ := w.turn Shard.okI nd hi
  have hput := storeP_put (h := g) (hlo _ hs) hir
  have he := put_row hg hr
  simp only [Shard.wt1] at h2 ⊢
  clear w
  generalize ys[i] = a at *
  obtain ⟨x1, p1, x2, p2, rfl, rfl, w1, w2⟩ := hR
  obtain ⟨nd1, nd2, nd3⟩ := List.nodup_append.1 nf
  generalize hg4 : g.put x.sid (rows.set i [.int .u64 k, .int .u64 (k + 1), .int .i64 (k + 2), .int .i64 (k + 3), x1, x2]) = g4
  have m4 : Mk g g4 [x.sid] := by rw [← hg4]; exact Mk.put _ _ _
  have l4 : ∀ j n, loadP g4 x.sid i j n = cut? [.int .u64 k, .int .u64 (k + 1), .int .i64 (k + 2), .int .i64 (k + 3), x1, x2] j n := by rw [← hg4]; exact loadP_put hir _
  have s1 : ∀ id, id ∈ p1 → id ∉ [x.sid] := fun id hid hc => hns (by rw [List.mem_singleton] at hc; rw [← hc]; simp [hid])
  have s2 : ∀ id, id ∈ p2 → id ∉ [x.sid] := fun id hid hc => hns (by rw [List.mem_singleton] at hc; rw [← hc]; simp [hid])
  have w1' := w1.mk (Fl.ok _) m4 s1
  have w2' := w2.mk (Fl.ok _) m4 s2
  obtain ⟨g5, e5, m5, u1⟩ := markAccountS_run (Z := Z) hLAccount w1' (fun id hid => by rw [m4.fl]; exact hlo id (hin id (by simp [hid]))) (k + 4) (by omega) (by omega)
  have w2'' := w2'.mk (Fl.ok _) m5 (fun id h1 h2 => nd3 id h2 id h1 rfl)
  have get5 : g5.get x.sid = g4.get x.sid := m5.get _ fun hc => hns (by simp [hc])
  have l5 : ∀ j n, loadP g5 x.sid i j n = cut? [.int .u64 k, .int .u64 (k + 1), .int .i64 (k + 2), .int .i64 (k + 3), x1, x2] j n := fun j n => by rw [← l4]; simp only [loadP, rowOf, get5]
  obtain ⟨g6, e6, m6, u2⟩ := markFinS_run (Z := Z) hLFin w2'' (fun id hid => by rw [m5.fl, m4.fl]; exact hlo id (hin id (by simp [hid]))) (k + 4 + 5 * (a.book.list.length : Nat)) (by omega) (by omega)
  have u1' := u1.mk (Fl.ok _) m6 (fun id h1 h2 => nd3 id h1 id h2 rfl)
  have get6 : g6.get x.sid = g4.get x.sid := (m6.get _ fun hc => hns (by simp [hc])).trans get5
  refine ⟨g6, ?_, ⟨by rw [m6.next, m5.next, m4.next], by rw [m6.fl, m5.fl, m4.fl], fun id hid => ?_⟩, ?_⟩
  · rw [loop_run]
    conv in (codeF _ _ r230L0 _) => unfold r230L0
    rw [← he]
    have hw1 := wrapI1 k (by omega) (by omega)
    have hw2 : IntKind.i64.wrap (k + 1 + 1) = k + 2 := by rw [wrapI _ (by omega) (by omega)]; omega
    have hw3 : IntKind.i64.wrap (k + 2 + 1) = k + 3 := by rw [wrapI _ (by omega) (by omega)]; omega
    have hw4 : IntKind.i64.wrap (k + 3 + 1) = k + 4 := by rw [wrapI _ (by omega) (by omega)]; omega
    have hu1 := wrapU1 k (by omega) (by omega)
    have hu2 := wrapU1 (k + 1) (by omega) (by omega)
    simp only [run0, run1, run2, run3, run4, noSlot, memN, RO.dst, lk, drop, forget, number, Nat.reduceBEq, cut?, splice?, builds, List.length_cons, List.length_nil, List.drop_succ_cons, List.drop_zero, List.take_succ_cons, List.take_zero, List.cons_append, List.nil_append, List.append_nil, List.drop_nil, List.take_nil, Nat.reduceAdd, Nat.reduceLeDiff, Nat.zero_add, Nat.add_zero, ↓reduceIte, Bool.not_true, Bool.not_false, decide_true, decide_false, eq_self, bne_self_eq_false, List.getElem?_cons_zero, List.getElem?_cons_succ, decide_eq_true_eq, Bool.false_eq_true, Bool.true_eq_false, reduceCtorEq, Nat.le_refl, hwl, hlt, hxi, hput, putM_s, hw1, hw2, hw3, hw4, hu1, hu2, hg4, l4, e5, l5, e6, hws]
    rw [show k + (4 + 5 * ((a.book.list.length : Nat) : Int) + 2 * ((a.finished.length : Nat) : Int)) = k + 4 + 5 * (a.book.list.length : Nat) + 2 * (a.finished.length : Nat) from by omega]
  · rw [m6.get id (fun hc => hid (hin id (by simp [hc]))), m5.get id (fun hc => hid (hin id (by simp [hc]))), m4.get id (fun hc => hid (by rw [List.mem_singleton] at hc; rw [hc]; exact hs))]
  · refine fin g6 [.int .u64 k, .int .u64 (k + 1), .int .i64 (k + 2), .int .i64 (k + 3), x1, x2] _ (by rw [m6.next, m5.next, m4.next]; exact Nat.le_refl _) (fun id hid h3 h4 => ?_) (by rw [get6, ← hg4]; simp [Heap.put]) ⟨x1, p1, x2, p2, rfl, rfl, u1', u2⟩
    rw [m6.get id (fun hc => h4 (by simp [hc])), m5.get id (fun hc => h4 (by simp [hc])), m4.get id (by simpa using h3)]
theorem markShardS_r (hLShard : Has F tLShard) (hLAccount : Has F tLAccount) (hLFin : Has F tLFin) (w : SlR 16 Shard.RI h x xs fp) (nd : fp.Nodup) (hlo : ∀ id, id ∈ fp → h.floor ≤ id) (k : Int) (h1 : 0 ≤ k) (h2 : k + sumI Shard.wt1 xs ≤ 9200000000000000000) :
    ∃ h', call F Z 230 [.c x, .c (.int .i64 k)] h = some (.c (.int .i64 (k + sumI Shard.wt1 xs)), h') ∧ Mk h h' fp ∧ SlR 16 Shard.RI h' x (Shard.marksS xs k) fp := by
  have hle := w.le2
  have hnn : ∀ i, 0 ≤ sumI Shard.wt1 (xs.take i) := fun i => by
    have : ∀ ys : List Shard, 0 ≤ sumI Shard.wt1 ys := fun ys => by
      induction ys with
      | nil => simp [sumI]
      | cons a r ih => have := a.wt1_nn; simp only [sumI]; omega
    exact this _
  have hpre : ∀ i, sumI Shard.wt1 (xs.take i) ≤ sumI Shard.wt1 xs := fun i => by
    have e := sumI_app Shard.wt1 (xs.take i) (xs.drop i)
    rw [List.take_append_drop] at e
    have : ∀ ys : List Shard, 0 ≤ sumI Shard.wt1 ys := fun ys => by
      induction ys with
      | nil => simp [sumI]
      | cons a r ih => have := a.wt1_nn; simp only [sumI]; omega
    have := this (xs.drop i)
    omega
  rw [call_run F Z (hLShard.lk (g := 230) rfl) _ _ rfl]
  simp only [run0, run1, run2, run3, run4, noSlot, memN, RO.dst, lk, drop, forget, number, Nat.reduceBEq, cut?, splice?, builds, List.length_cons, List.length_nil, List.drop_succ_cons, List.drop_zero, List.take_succ_cons, List.take_zero, List.cons_append, List.nil_append, List.append_nil, List.drop_nil, List.take_nil, Nat.reduceAdd, Nat.reduceLeDiff, Nat.zero_add, Nat.add_zero, ↓reduceIte, Bool.not_true, Bool.not_false, decide_true, decide_false, eq_self, bne_self_eq_false, List.getElem?_cons_zero, List.getElem?_cons_succ, decide_eq_true_eq, Bool.false_eq_true, Bool.true_eq_false, reduceCtorEq, Nat.le_refl]
  obtain ⟨s', ⟨g, hs, m, u⟩, l1⟩ := loop_goes (F := F) (Z := Z) (live := [0, 1, 5]) (b := r230L0) xs.length (fun i s => ∃ g, s = ⟨[(0, .c x), (1, .c (.int .i64 (k + sumI Shard.wt1 (xs.take i)))), (5, .c (.int .i64 (i : Nat)))], [], [], g⟩ ∧ Mk h g fp ∧ SlR 16 Shard.RI g x (Shard.marksS (xs.take i) k ++ xs.drop i) fp) (fun i s hi ⟨g, hs, m, u⟩ => by
    subst hs
    have hi' : i < (Shard.marksS (xs.take i) k ++ xs.drop i).length := by rw [List.length_append, Shard.marksS_len, List.length_take, List.length_drop]; omega
    have e := Shard.mark_at hi k hi'
    have hst := sumI_take Shard.wt1 xs hi
    have hp := hpre (i + 1)
    have h0 := hnn i
    obtain ⟨g', e1, m1, u1⟩ := markShardS_turn (Z := Z) hLShard hLAccount hLFin u nd (fun id hid => by rw [m.fl]; exact hlo id hid) hi' (k + sumI Shard.wt1 (xs.take i)) (by omega) (by rw [e]; omega)
    rw [e, Shard.mark_step hi] at u1
    rw [e] at e1
    refine ⟨_, ⟨g', rfl, ⟨m1.next.trans m.next, m1.fl.trans m.fl, fun id hid => (m1.get id hid).trans (m.get id hid)⟩, u1⟩, ?_⟩
    rw [e1, hst, Int.add_assoc]) (s := ⟨[(0, .c x), (1, .c (.int .i64 k)), (5, .c (.int .i64 (0 : Nat)))], [], [], h⟩) ⟨h, by simp [sumI], Mk.refl _ _, by simpa [Shard.marksS] using w⟩
  subst hs
  simp only [show ((0 : Nat) : Int) = 0 from rfl, List.take_length] at l1
  simp only [List.take_length, List.drop_length, List.append_nil] at u
  rw [l1, loop_run]
  conv in (codeF _ _ r230L0 _) => unfold r230L0
  have hlt : ¬ (xs.length : Int) < xs.length := by omega
  have hl := u.len
  rw [Shard.marksS_len] at hl
  simp only [run0, run1, run2, run3, run4, noSlot, memN, RO.dst, lk, drop, forget, number, Nat.reduceBEq, cut?, splice?, builds, List.length_cons, List.length_nil, List.drop_succ_cons, List.drop_zero, List.take_succ_cons, List.take_zero, List.cons_append, List.nil_append, List.append_nil, List.drop_nil, List.take_nil, Nat.reduceAdd, Nat.reduceLeDiff, Nat.zero_add, Nat.add_zero, ↓reduceIte, Bool.not_true, Bool.not_false, decide_true, decide_false, eq_self, bne_self_eq_false, List.getElem?_cons_zero, List.getElem?_cons_succ, decide_eq_true_eq, Bool.false_eq_true, Bool.true_eq_false, reduceCtorEq, Nat.le_refl, hl, hlt]
  exact ⟨g, rfl, m, u⟩
end
namespace Store
def wt (s : Store) : Int := sumI Shard.wt1 s.shards
def marked (s : Store) (k : Int) : Store := { s with shards := Shard.marksS s.shards k }
end Store
theorem Store.wt_nn (s : Store) : 0 ≤ s.wt := by
  have : ∀ ys : List Shard, 0 ≤ sumI Shard.wt1 ys := fun ys => by
    induction ys with
    | nil => simp [sumI]
    | cons a r ih => have := a.wt1_nn; simp only [sumI]; omega
  exact this _
theorem Store.wt_le {s : Store} (sm : s.Small) : s.wt ≤ 8000000000000 := by
  obtain ⟨h1, h2⟩ := sm
  have h3 := sumI_le Shard.wt1 (m := 7340036) s.shards fun a ha => by
    obtain ⟨b1, b2⟩ := h2 a ha
    have b1' : a.book.list.length ≤ 1048576 := b1
    have := a.wt1_nn
    refine ⟨this, ?_⟩
    simp only [Shard.wt1]; omega
  have : s.wt = sumI Shard.wt1 s.shards := rfl
  omega
section
variable {F : Nat → Option RF} {Z : CallF} {h : Heap} {cs : List Cell} {t : Store} {fp : List Nat}
theorem markStore_r (hLStore : Has F tLStore) (hLShard : Has F tLShard) (hLBook : Has F tLBook) (hLAccount : Has F tLAccount) (hLFin : Has F tLFin) (v : Store.RI h cs t fp) (nd : fp.Nodup) (hlo : ∀ id, id ∈ fp → h.floor ≤ id) (k : Int) (h1 : 0 ≤ k) (h2 : k + t.wt ≤ 9200000000000000000) :
    ∃ h', call F Z 191 [.agg cs, .c (.int .i64 k)] h = some (.c (.int .i64 (k + t.wt)), h') ∧ Mk h h' fp ∧ Store.RI h' cs (t.marked k) fp := by
  obtain ⟨x, p, rfl, rfl, w⟩ := v
  obtain ⟨g, e, m, u⟩ := markShardS_r (Z := Z) hLShard hLAccount hLFin w nd hlo k h1 h2
  rw [call_run F Z (hLStore.lk (g := 191) rfl) _ _ rfl]
  simp only [run0, run1, run2, run3, run4, noSlot, memN, RO.dst, lk, drop, forget, number, Nat.reduceBEq, cut?, splice?, builds, List.length_cons, List.length_nil, List.drop_succ_cons, List.drop_zero, List.take_succ_cons, List.take_zero, List.cons_append, List.nil_append, List.append_nil, List.drop_nil, List.take_nil, Nat.reduceAdd, Nat.reduceLeDiff, Nat.zero_add, Nat.add_zero, ↓reduceIte, Bool.not_true, Bool.not_false, decide_true, decide_false, eq_self, bne_self_eq_false, List.getElem?_cons_zero, List.getElem?_cons_succ, decide_eq_true_eq, Bool.false_eq_true, Bool.true_eq_false, reduceCtorEq, Nat.le_refl, e]
  exact ⟨g, rfl, m, ⟨x, _, rfl, rfl, u⟩⟩
end
end Go.Proofs.Ytlfepembgjjejaa.A
/- Stores into rows of data with memory. -/
namespace Go.Proofs.Ytlfepembgjjejaa.A
open Go
set_option linter.unusedSimpArgs false
set_option linter.unusedVariables false
section
variable {α : Type} {R : Rel α} {tag : Nat} {h0 h g : Heap} {x : Cell} {xs : List α} {fp fq : List Nat}
/-- Rows that were made behind h have turned: h goes on all the same. -/
theorem On.turned (o : On h0 h) (m : Mk h g fp) (f : Fre h0 fp) : On h0 g :=
  ⟨⟨by rw [m.next]; exact o.ext.1, fun id hid => by rw [m.get id (f.gt id hid)]; exact o.ext.2 id hid⟩, m.fl.trans o.fl⟩
theorem Fre.own (f : Fre h0 fp) (o : On h0 h) (hf : h0.floor ≤ h0.next) : ∀ id, id ∈ fp → h.floor ≤ id := fun id hid => by
  rw [o.fl]; exact Nat.le_trans hf (f.lo id hid)
theorem Mk.then {a b c : Heap} (m : Mk a b fp) (n : Mk b c fp) : Mk a c fp := ⟨n.next.trans m.next, n.fl.trans m.fl, fun id hid => (n.get id hid).trans (m.get id hid)⟩
/-- One row, and what stores into it leave. -/
theorem SlR.putRow (ok : RelOk R) (w : SlR tag R h x xs fp) (nd : fp.Nodup) (hfl : ∀ id, id ∈ fp → h.floor ≤ id) {i : Nat} (hi : i < xs.length) :
    ∃ r f, ∃ rows : List (List Cell), R h r xs[i] f ∧ x.sid ∈ fp ∧ (∀ j n, loadP h x.sid i j n = cut? r j n) ∧ h.put x.sid (rows.set i r) = h ∧
      (∀ r1 j new, storeP (h.put x.sid (rows.set i r1)) x.sid i j new = putM h x.sid rows i (splice? r1 j new)) ∧ (∀ r1 j n, loadP (h.put x.sid (rows.set i r1)) x.sid i j n = cut? r1 j n) ∧
      ∀ r' t', R h r' t' f → SlR tag R (h.put x.sid (rows.set i r')) x (xs.set i t') fp ∧ Mk h (h.put x.sid (rows.set i r')) fp := by
  obtain ⟨r, f, rows, hR, hin, nf, hs, hns, hsl, hg, hr, hir, fin⟩ := w.turn ok nd hi
  refine ⟨r, f, rows, hR, hs, loadP_row hg hr, put_row hg hr, fun r1 j new => storeP_put (hfl _ hs) hir r1 new j, fun r1 j n => loadP_put hir r1 j n, fun r' t' v => ⟨?_, rfl, rfl, fun id hid => put_ne _ fun e => hid (e ▸ hs)⟩⟩
  exact fin _ r' t' (Nat.le_refl _) (fun id _ h2 _ => put_ne _ h2) (by simp [Heap.put]) (ok.mv v (Nat.le_refl _) fun id hid => put_ne _ fun e => hns (e ▸ hid))
end
end Go.Proofs.Ytlfepembgjjejaa.A
