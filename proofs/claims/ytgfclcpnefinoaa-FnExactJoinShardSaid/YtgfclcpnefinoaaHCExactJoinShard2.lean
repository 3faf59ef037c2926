/- The functions that the statement reaches, part 2: bodies and what they compute. No condition. -/
import Derived.Test.YtgfclcpnefinoaaHCExactJoinShard1
import Derived.Test.YtgfclcpnefinoaaZ6
import Derived.Test.YtgfclcpnefinoaaB9
namespace Go.Proofs.Ytgfclcpnefinoaa.A
open Go
set_option linter.unusedSimpArgs false
set_option linter.unusedVariables false
section
variable {F : Nat → Option RF} {Z : CallF} {h : Heap} {cs : List Cell} {s : Shard} {fp fq : List Nat} {x y : Cell}
set_option maxHeartbeats 2000000 in
theorem l13Shard_accs (hS13 : Has F tS13) (w : SlR 11 (Fl Account.enc) h x s.book.list fp) (v : SlR 9 (Fl Fin.enc) h y s.finished fq) :
    Turn (loop F Z [1, 5] r204L0 ⟨[(5, .c (.int .i64 (0 : Nat)))], [(1, 1, 0)], [(1, [.int .u64 s.lo, .int .u64 s.hi, .int .i64 s.state, .int .i64 s.epoch, x, y])], h⟩)
      (loop F Z [1, 5] r204L0 ⟨[(5, .c (.int .i64 (s.book.list.length : Nat)))], [(1, 1, 0)], [(1, [.int .u64 s.lo, .int .u64 s.hi, .int .i64 s.state, .int .i64 s.epoch, x, y])], h⟩) (s.book.list.all s.acc) (fun s => lk s.env 2 = some (.c (.bool false)) ∧ s.hp = h) := by
  have hle := w.le2
  refine loop_all (F := F) (Z := Z) (live := [1, 5]) (b := r204L0) s.book.list (fun i => ⟨[(5, .c (.int .i64 (i : Nat)))], [(1, 1, 0)], [(1, [.int .u64 s.lo, .int .u64 s.hi, .int .i64 s.state, .int .i64 s.epoch, x, y])], h⟩) s.acc _ fun i hi => ?_
  have hlt : (i : Int) < s.book.list.length := by omega
  have hws := wrapS i (by omega)
  have hwl := w.len
  have hxi := w.idx hi
  have hld := w.load hi
  have hc : ∀ t d, call F Z 243 [.c y, .agg [.int .i64 t, .int .u64 d]] h = some (.c (.bool (decide ((⟨t, d⟩ : Fin) ∈ s.finished))), h) := fun t d => l13Has_run hS13 v ⟨t, d⟩
  rw [loop_run]
  conv in (codeF _ _ r204L0 _) => unfold r204L0
  simp only [run0, run1, run2, run3, run4, noSlot, ownS, ownK, memN, RO.dst, lk, drop, forget, number, Nat.reduceBEq, cut?, splice?, builds, Nat.reduceAdd, Nat.reduceLeDiff, ↓reduceIte, reduceCtorEq, qqa, qqb, qqc, qqd, qqe, qqf, qqg, qqh, qqi, qqj, qqk, qql, qqm, qqn, qqo, qqp, qqq, qqr, qqs, qqt, qqu, qqv, qqw, qqx, qqy, hwl, hlt, hxi, hld, Account.enc, hc]
  generalize s.book.list[i] = a
  clear hxi hld w v
  (repeat' ((first | (rw [gF_if]; split) | (rw [condC_if]; split) | (rw [pickR_if]; split)) <;> (rename_i hh; (try simp only [Bool.not_eq_true, decide_eq_true_eq] at hh); simp only [hh, run0, run1, run2, run3, run4, noSlot, ownS, ownK, memN, RO.dst, lk, drop, forget, number, Nat.reduceBEq, cut?, splice?, builds, Nat.reduceAdd, Nat.reduceLeDiff, ↓reduceIte, reduceCtorEq, qqa, qqb, qqc, qqd, qqe, qqf, qqg, qqh, qqi, qqj, qqk, qql, qqm, qqn, qqo, qqp, qqq, qqr, qqs, qqt, qqu, qqv, qqw, qqx, qqy, hws, hc]))) <;> clear hc <;> first
    | exact .inl ⟨by simp_all [Shard.acc] <;> omega, rfl⟩
    | exact .inr ⟨by simp_all [Shard.acc] <;> omega, _, rfl, rfl, rfl⟩
set_option maxHeartbeats 4000000 in
theorem l13Shard_fins (hS13 : Has F tS13) (v : SlR 9 (Fl Fin.enc) h y s.finished fq) :
    Turn (loop F Z [1, 3] r204L1 ⟨[(3, .c (.int .i64 (0 : Nat)))], [(1, 1, 0)], [(1, [.int .u64 s.lo, .int .u64 s.hi, .int .i64 s.state, .int .i64 s.epoch, x, y])], h⟩)
      (loop F Z [1, 3] r204L1 ⟨[(3, .c (.int .i64 (s.finished.length : Nat)))], [(1, 1, 0)], [(1, [.int .u64 s.lo, .int .u64 s.hi, .int .i64 s.state, .int .i64 s.epoch, x, y])], h⟩) ((List.range s.finished.length).all s.finAt) (fun s => lk s.env 2 = some (.c (.bool false)) ∧ s.hp = h) := by
  have hle := v.le2
  refine loop_allN (F := F) (Z := Z) (live := [1, 3]) (b := r204L1) s.finished.length (fun i => ⟨[(3, .c (.int .i64 (i : Nat)))], [(1, 1, 0)], [(1, [.int .u64 s.lo, .int .u64 s.hi, .int .i64 s.state, .int .i64 s.epoch, x, y])], h⟩) s.finAt _ fun i hi => ?_
  have hlt : (i : Int) < s.finished.length := by omega
  have hws := wrapS i (by omega)
  have hwl := v.len
  have hxi := v.idx hi
  have hld : ∀ j n, loadP h y.sid i j n = cut? (Fin.at_ s.finished i).enc j n := v.loadD Fin.none_ hi
  have hfin : s.finAt i = (decide (1 ≤ (Fin.at_ s.finished i).tx) && (decide (s.lo ≤ (Fin.at_ s.finished i).id) && (decide ((Fin.at_ s.finished i).id ≤ s.hi) && (i == 0 || decide (cmpFin (Fin.at_ s.finished (i - 1)) (Fin.at_ s.finished i) < 0))))) := rfl
  have hpre : 0 < i → IntKind.i64.wrap ((i : Int) - 1) = ((i - 1 : Nat) : Int) := fun hp => by rw [wrapI _ (by omega) (by omega)]; omega
  have hpi : 0 < i → idxR 9 (some y) (some ((i - 1 : Nat) : Int)) = some (.ptr y.sid (i - 1) 0) := fun hp => v.idx (by omega)
  have hpl : 0 < i → ∀ j n, loadP h y.sid (i - 1) j n = cut? (Fin.at_ s.finished (i - 1)).enc j n := fun hp => v.loadD Fin.none_ (by omega)
  clear v
  generalize s.finAt i = fa at *
  generalize Fin.at_ s.finished (i - 1) = pf at *
  generalize Fin.at_ s.finished i = f at *
  have cf := fun g => l13Before_run (Z := Z) hS13 pf f g
  obtain ⟨t, d⟩ := f
  obtain ⟨t', d'⟩ := pf
  simp only [Fin.enc] at cf hld hpl
  rw [loop_run]
  conv in (codeF _ _ r204L1 _) => unfold r204L1
  simp only [run0, run1, run2, run3, run4, noSlot, ownS, ownK, memN, RO.dst, lk, drop, forget, number, Nat.reduceBEq, cut?, splice?, builds, Nat.reduceAdd, Nat.reduceLeDiff, ↓reduceIte, reduceCtorEq, qqa, qqb, qqc, qqd, qqe, qqf, qqg, qqh, qqi, qqj, qqk, qql, qqm, qqn, qqo, qqp, qqq, qqr, qqs, qqt, qqu, qqv, qqw, qqx, qqy, hwl, hlt, hxi, hld]
  by_cases hp : 0 < i
  · have g1 : (i : Int) > 0 := by omega
    have hi0 : (i == 0) = false := by simp; omega
    have q1 := hpre hp
    have q2 := hpi hp
    have q3 := hpl hp
    clear hxi hpre hpi hpl
    (repeat' ((first | (rw [gF_if]; split) | (rw [condC_if]; split) | (rw [pickR_if]; split)) <;> (rename_i hh; (try simp only [Bool.not_eq_true, decide_eq_true_eq] at hh); simp only [hh, run0, run1, run2, run3, run4, noSlot, ownS, ownK, memN, RO.dst, lk, drop, forget, number, Nat.reduceBEq, cut?, splice?, builds, Nat.reduceAdd, Nat.reduceLeDiff, ↓reduceIte, reduceCtorEq, qqa, qqb, qqc, qqd, qqe, qqf, qqg, qqh, qqi, qqj, qqk, qql, qqm, qqn, qqo, qqp, qqq, qqr, qqs, qqt, qqu, qqv, qqw, qqx, qqy, hws, g1, q1, q2, q3, cf, hld])))
    all_goals clear q2 q3 cf hld
    all_goals first
      | (exfalso; omega)
      | exact .inl ⟨by simp_all <;> omega, rfl⟩
      | exact .inr ⟨by simp_all <;> omega, _, rfl, rfl, rfl⟩
  · have g1 : ¬ (i : Int) > 0 := by omega
    have hi0 : (i == 0) = true := by simp; omega
    clear hxi hpre hpi hpl cf
    (repeat' ((first | (rw [gF_if]; split) | (rw [condC_if]; split) | (rw [pickR_if]; split)) <;> (rename_i hh; (try simp only [Bool.not_eq_true, decide_eq_true_eq] at hh); simp only [hh, run0, run1, run2, run3, run4, noSlot, ownS, ownK, memN, RO.dst, lk, drop, forget, number, Nat.reduceBEq, cut?, splice?, builds, Nat.reduceAdd, Nat.reduceLeDiff, ↓reduceIte, reduceCtorEq, qqa, qqb, qqc, qqd, qqe, qqf, qqg, qqh, qqi, qqj, qqk, qql, qqm, qqn, qqo, qqp, qqq, qqr, qqs, qqt, qqu, qqv, qqw, qqx, qqy, hws, g1, hld])))
    all_goals clear hld
    all_goals first
      | (exfalso; omega)
      | exact .inl ⟨by simp_all <;> omega, rfl⟩
      | exact .inr ⟨by simp_all <;> omega, _, rfl, rfl, rfl⟩
set_option maxHeartbeats 4000000 in
theorem l13Shard_run (hS : Has F tS01d) (hS10 : Has F tS10) (hS13 : Has F tS13) (v : Shard.RI h cs s fp) (ok : s.Ok) : call F Z 204 [.agg cs] h = some (.c (.bool s.good), h) := by
  obtain ⟨x, p, y, q, rfl, rfl, w, u⟩ := v
  have hB := sBookOk_run (Z := Z) hS10 w ok.book.list
  have ka := l13Shard_accs (Z := Z) (s := s) hS13 w u
  have kf := l13Shard_fins (Z := Z) (s := s) (x := x) hS13 u
  have l1 := w.len
  have l2 := u.len
  have n1 : ¬ (s.book.list.length : Int) < s.book.list.length := by omega
  have n2 : ¬ (s.finished.length : Int) < s.finished.length := by omega
  clear w u
  rw [call_run F Z (hS13.lk (g := 204) rfl) _ _ rfl]
  simp only [show ((0 : Nat) : Int) = 0 from rfl] at ka kf
  cases hd : s.head with
  | false =>
    have hg : s.good = false := by simp [Shard.good, hd]
    rw [hg]
    simp only [run0, run1, run2, run3, run4, noSlot, ownS, ownK, memN, RO.dst, lk, drop, forget, number, Nat.reduceBEq, cut?, splice?, builds, Nat.reduceAdd, Nat.reduceLeDiff, ↓reduceIte, reduceCtorEq, qqa, qqb, qqc, qqd, qqe, qqf, qqg, qqh, qqi, qqj, qqk, qql, qqm, qqn, qqo, qqp, qqq, qqr, qqs, qqt, qqu, qqv, qqw, qqx, qqy, hB, l2, l01In_run hS]
    clear ka kf
    (repeat' ((first | (rw [gF_if]; split) | (rw [condC_if]; split) | (rw [pickR_if]; split)) <;> (rename_i hh; (try simp only [Bool.not_eq_true, decide_eq_true_eq] at hh); simp only [hh, run0, run1, run2, run3, run4, noSlot, ownS, ownK, memN, RO.dst, lk, drop, forget, number, Nat.reduceBEq, cut?, splice?, builds, Nat.reduceAdd, Nat.reduceLeDiff, ↓reduceIte, reduceCtorEq, qqa, qqb, qqc, qqd, qqe, qqf, qqg, qqh, qqi, qqj, qqk, qql, qqm, qqn, qqo, qqp, qqq, qqr, qqs, qqt, qqu, qqv, qqw, qqx, qqy, hB, l2, l1, l01In_run hS])))
    all_goals clear hB l1 l2
    all_goals first
      | rfl
      | (exfalso; simp_all [Shard.head, inR]; done)
      | (exfalso; simp_all [Shard.head, inR]; omega)
  | true =>
    have hg : s.good = (s.book.list.all s.acc && (List.range s.finished.length).all s.finAt) := by simp [Shard.good, hd]
    rw [hg]
    simp only [Shard.head, Bool.and_eq_true, decide_eq_true_eq, Bool.or_eq_true, beq_iff_eq] at hd
    obtain ⟨d1, d2, d3, d5, d6⟩ := hd
    rw [d5] at hB
    have c1 : ¬ s.lo > s.hi := by omega
    have c2 : inR s.state 0 1 = true := by rcases d2 with d2 | d2 <;> simp [inR, d2]
    have c6 : ¬ (s.finished.length : Int) > 60 := by omega
    · simp only [run0, run1, run2, run3, run4, noSlot, ownS, ownK, memN, RO.dst, lk, drop, forget, number, Nat.reduceBEq, cut?, splice?, builds, Nat.reduceAdd, Nat.reduceLeDiff, ↓reduceIte, reduceCtorEq, qqa, qqb, qqc, qqd, qqe, qqf, qqg, qqh, qqi, qqj, qqk, qql, qqm, qqn, qqo, qqp, qqq, qqr, qqs, qqt, qqu, qqv, qqw, qqx, qqy, hB, l1, l2, c1, c2, d3, c6, l01In_run hS]
      rcases kf with ⟨a1, a2⟩ | ⟨a1, s', a2, a3, a4⟩
      · rw [a2, loop_run]
        conv in (codeF _ _ r204L1 _) => unfold r204L1
        simp only [run0, run1, run2, run3, run4, noSlot, ownS, ownK, memN, RO.dst, lk, drop, forget, number, Nat.reduceBEq, cut?, splice?, builds, Nat.reduceAdd, Nat.reduceLeDiff, ↓reduceIte, reduceCtorEq, qqa, qqb, qqc, qqd, qqe, qqf, qqg, qqh, qqi, qqj, qqk, qql, qqm, qqn, qqo, qqp, qqq, qqr, qqs, qqt, qqu, qqv, qqw, qqx, qqy, l2, n2]
        rcases ka with ⟨b1, b2⟩ | ⟨b1, s', b2, b3, b4⟩
        · rw [b2, loop_run]
          conv in (codeF _ _ r204L0 _) => unfold r204L0
          simp only [run0, run1, run2, run3, run4, noSlot, ownS, ownK, memN, RO.dst, lk, drop, forget, number, Nat.reduceBEq, cut?, splice?, builds, Nat.reduceAdd, Nat.reduceLeDiff, ↓reduceIte, reduceCtorEq, qqa, qqb, qqc, qqd, qqe, qqf, qqg, qqh, qqi, qqj, qqk, qql, qqm, qqn, qqo, qqp, qqq, qqr, qqs, qqt, qqu, qqv, qqw, qqx, qqy, l1, n1, a1, b1, Bool.and_self]
        · rw [b2]
          simp only [run0, run1, run2, run3, run4, noSlot, ownS, ownK, memN, RO.dst, lk, drop, forget, number, Nat.reduceBEq, cut?, splice?, builds, Nat.reduceAdd, Nat.reduceLeDiff, ↓reduceIte, reduceCtorEq, qqa, qqb, qqc, qqd, qqe, qqf, qqg, qqh, qqi, qqj, qqk, qql, qqm, qqn, qqo, qqp, qqq, qqr, qqs, qqt, qqu, qqv, qqw, qqx, qqy, b3, b4, b1, Bool.false_and]
      · rw [a2]
        simp only [run0, run1, run2, run3, run4, noSlot, ownS, ownK, memN, RO.dst, lk, drop, forget, number, Nat.reduceBEq, cut?, splice?, builds, Nat.reduceAdd, Nat.reduceLeDiff, ↓reduceIte, reduceCtorEq, qqa, qqb, qqc, qqd, qqe, qqf, qqg, qqh, qqi, qqj, qqk, qql, qqm, qqn, qqo, qqp, qqq, qqr, qqs, qqt, qqu, qqv, qqw, qqx, qqy, a3, a4, a1, Bool.and_false]
end
end Go.Proofs.Ytgfclcpnefinoaa.A
namespace Go.Proofs.Ytgfclcpnefinoaa.A
open Go
set_option linter.unusedSimpArgs false
set_option linter.unusedVariables false
section
variable {α : Type} {R : Rel α} {tag : Nat} {h : Heap} {x : Cell} {xs : List α} {fp : List Nat}
theorem SlR.one (w : SlR tag R h x xs fp) {i : Nat} (hi : i < xs.length) : ∃ r f, (∀ j n, loadP h x.sid i j n = cut? r j n) ∧ R h r xs[i] f ∧ ∀ id, id ∈ f → id ∈ fp := by
  obtain ⟨r, f, h1, h2, h3⟩ := w.row hi
  exact ⟨r, f, fun j n => by simp [loadP, h1], h2, h3⟩
structure Filled (R : Rel α) (h0 g : Heap) (o : Nat) (z : List Cell) (xs : List α) (i : Nat) (rows : List (List Cell)) (fps : List (List Nat)) : Prop where
  on : On h0 g
  ge : h0.next ≤ o
  lt : o < g.next
  get : g.get o = some rows
  len : rows.length = xs.length
  rel : AllR R g (rows.take i) (xs.take i) fps
  rest : ∀ j, i ≤ j → j < xs.length → rows[j]? = some z
  nd : fps.flatten.Nodup
  out : ∀ id, id ∈ fps.flatten → o < id
theorem AllR.snoc {h : Heap} : ∀ {rows : List (List Cell)} {xs : List α} {fps : List (List Nat)}, AllR R h rows xs fps → ∀ {r a f}, R h r a f → AllR R h (rows ++ [r]) (xs ++ [a]) (fps ++ [f])
  | [], [], [], _ => fun w => ⟨w, trivial⟩
  | _ :: _, _ :: _, _ :: _, ⟨w1, w⟩ => fun w2 => ⟨w1, w.snoc w2⟩
  | [], [], _ :: _, w => w.elim
  | [], _ :: _, _, w => w.elim
  | _ :: _, [], _, w => w.elim
  | _ :: _, _ :: _, [], w => w.elim
theorem Filled.start (h : Heap) (z : List Cell) (xs : List α) : Filled R h (h.push (List.replicate xs.length z)) h.next z xs 0 (List.replicate xs.length z) [] where
  on := On.push _ _
  ge := Nat.le_refl _
  lt := by rw [push_next]; omega
  get := push_get _ _
  len := by simp
  rel := trivial
  rest := fun j _ hj => by rw [List.getElem?_replicate, if_pos hj]
  nd := List.nodup_nil
  out := fun id hid => by simp at hid
theorem Filled.step (ok : RelOk R) {h0 g g' : Heap} {o : Nat} {z : List Cell} {i : Nat} {rows : List (List Cell)} {fps : List (List Nat)} (w : Filled R h0 g o z xs i rows fps) (hf : h0.floor ≤ h0.next) (hi : i < xs.length)
    {cs : List Cell} {fq : List Nat} (hz : cs.length = z.length) (o' : On g g') (v : R g' cs xs[i] fq) (f : Fre g fq) :
    storeP g' o i 0 cs = some (g'.put o (rows.set i cs)) ∧ Filled R h0 (g'.put o (rows.set i cs)) o z xs (i + 1) (rows.set i cs) (fps ++ [fq]) := by
  have hget : g'.get o = some rows := by rw [o'.ext.2 o w.lt]; exact w.get
  have hri : rows[i]? = some z := w.rest i (Nat.le_refl _) hi
  have hfl : g'.floor ≤ o := by rw [o'.fl, w.on.fl]; exact Nat.le_trans hf w.ge
  have hlen : i < rows.length := by rw [w.len]; exact hi
  have hput : ∀ id, id ≠ o → (g'.put o (rows.set i cs)).get id = g'.get id := fun id hid => by simp only [Heap.put]; rw [if_neg hid]
  have hin : ∀ id, id ∈ fps.flatten → id < g.next := by
    intro id hid
    exact w.rel.lt ok id hid
  refine ⟨?_, ?_⟩
  · refine storeP_at hfl hget hri ?_
    rw [splice?, if_pos (by omega)]
    simp [← hz]
  · refine ⟨⟨⟨Nat.le_trans w.on.ext.1 o'.ext.1, fun id hid => ?_⟩, o'.fl.trans w.on.fl⟩, w.ge, Nat.lt_of_lt_of_le w.lt o'.ext.1, by simp [Heap.put], by simp [w.len], ?_, fun j h1 h2 => ?_, ?_, fun id hid => ?_⟩
    · have := w.ge
      rw [hput id (by omega), o'.ext.2 id (Nat.lt_of_lt_of_le hid w.on.ext.1)]
      exact w.on.ext.2 id hid
    · have e1 : (rows.set i cs).take (i + 1) = rows.take i ++ [cs] := by
        rw [List.take_add_one, List.getElem?_set_self hlen]
        rw [List.take_set, List.set_eq_of_length_le (by simp; omega)]
        rfl
      have e2 : xs.take (i + 1) = xs.take i ++ [xs[i]] := by rw [List.take_add_one, List.getElem?_eq_getElem hi]; rfl
      rw [e1, e2]
      have v' : R (g'.put o (rows.set i cs)) cs xs[i] fq := ok.mv v (Nat.le_refl _) fun id hid => hput id (by have := f.lo id hid; have := w.lt; omega)
      refine AllR.snoc (w.rel.mv (h' := g'.put o (rows.set i cs)) ok o'.ext.1 fun id hid => ?_) v'
      rw [hput id (by have := w.out id hid; omega)]
      exact o'.ext.2 id (hin id hid)
    · rw [List.getElem?_set_ne (by omega)]
      exact w.rest j (by omega) h2
    · rw [List.flatten_append]
      simp only [List.flatten_cons, List.flatten_nil, List.append_nil]
      exact List.nodup_append.2 ⟨w.nd, f.nd, fun a ha b hb => by have := hin a ha; have := f.lo b hb; omega⟩
    · rw [List.flatten_append] at hid
      simp only [List.flatten_cons, List.flatten_nil, List.append_nil] at hid
      rcases List.mem_append.1 hid with hid | hid
      · exact w.out id hid
      · have := f.lo id hid
        have := w.lt
        omega
theorem Filled.all {h0 g : Heap} {o : Nat} {z : List Cell} {rows : List (List Cell)} {fps : List (List Nat)} (w : Filled R h0 g o z xs xs.length rows fps) (hl : xs.length ≤ 1048576) (tag : Nat) :
    On h0 g ∧ SlR tag R g (.sl tag o 0 xs.length) xs (o :: fps.flatten) ∧ Fre h0 (o :: fps.flatten) := by
  have hr := w.rel
  rw [List.take_length, ← w.len, List.take_length] at hr
  refine ⟨w.on, ⟨by unfold maxLen; omega, .inr ⟨o, rows, fps, rfl, w.get, w.lt, rfl, hr⟩⟩, ⟨fun id hid => ?_, ?_⟩⟩
  · have := w.ge
    rcases List.mem_cons.1 hid with rfl | hid
    · omega
    · have := w.out id hid; omega
  · exact List.nodup_cons.2 ⟨fun hc => by have := w.out o hc; omega, w.nd⟩
end
end Go.Proofs.Ytgfclcpnefinoaa.A
namespace Go.Proofs.Ytgfclcpnefinoaa.A
open Go
set_option linter.unusedSimpArgs false
set_option linter.unusedVariables false
def Shard.zeroC : List Cell := [.int .u64 0, .int .u64 0, .int .i64 0, .int .i64 0, .nil, .nil]
theorem Wf.isShardS' {h : Heap} {n : Nat} {a : List Cell} (w : Wf h (n + 6) shShardS a) : ∃ x xs fp, a = [x] ∧ SlR 20 Shard.RL h x xs fp ∧ ∀ t, t ∈ xs → t.Ok := by
  have hx : ∃ x, a = [x] := by rcases w with w | ⟨_, _, w, _⟩ <;> exact ⟨_, w⟩
  obtain ⟨x, rfl⟩ := hx
  obtain ⟨xs, fp, v, ok⟩ := SlR.ofWf (R := Shard.RL) (A := fun t => t.Ok) (fun r hr => by obtain ⟨t, fp, v, ok⟩ := Wf.isShard hr.2; exact ⟨t, fp, v, ok⟩) w
  exact ⟨x, xs, fp, rfl, v, ok⟩
section
variable {F : Nat → Option RF} {Z : CallF} {h : Heap} {x y : Cell} {xs ys : List Shard} {fp fq : List Nat}
theorem szShardS_c (hLShard : Has F tLShard) (hLBook : Has F tLBook) (hLAccount : Has F tLAccount) (hLFin : Has F tLFin) (w : SlR 20 Shard.RL h x xs fp) (left : Int) (h1 : 0 ≤ left) (h2 : left ≤ 1048576) : ∃ r, call F Z 203 [.c x, .c (.int .i64 left)] h = some (.c (.int .i64 r), h) ∧ r ≤ left ∧ (0 ≤ r → xs.length ≤ 1048576 ∧ ∀ a, a ∈ xs → a.Small) := by
  have hle := w.le2
  rw [call_run F Z (hLShard.lk (g := 203) rfl) _ _ rfl]
  simp only [run0, run1, run2, run3, run4, noSlot, ownS, ownK, memN, RO.dst, lk, drop, forget, number, Nat.reduceBEq, cut?, splice?, builds, Nat.reduceAdd, Nat.reduceLeDiff, ↓reduceIte, reduceCtorEq, qqa, qqb, qqc, qqd, qqe, qqf, qqg, qqh, qqi, qqj, qqk, qql, qqm, qqn, qqo, qqp, qqq, qqr, qqs, qqt, qqu, qqv, qqw, qqx, qqy, w.len, wrapI (left - xs.length) (by omega) (by omega)]
  by_cases n0 : left - xs.length < 0
  · simp only [run0, run1, run2, run3, run4, noSlot, ownS, ownK, memN, RO.dst, lk, drop, forget, number, Nat.reduceBEq, cut?, splice?, builds, Nat.reduceAdd, Nat.reduceLeDiff, ↓reduceIte, reduceCtorEq, qqa, qqb, qqc, qqd, qqe, qqf, qqg, qqh, qqi, qqj, qqk, qql, qqm, qqn, qqo, qqp, qqq, qqr, qqs, qqt, qqu, qqv, qqw, qqx, qqy, n0]
    exact ⟨_, rfl, by omega, by omega⟩
  simp only [run0, run1, run2, run3, run4, noSlot, ownS, ownK, memN, RO.dst, lk, drop, forget, number, Nat.reduceBEq, cut?, splice?, builds, Nat.reduceAdd, Nat.reduceLeDiff, ↓reduceIte, reduceCtorEq, qqa, qqb, qqc, qqd, qqe, qqf, qqg, qqh, qqi, qqj, qqk, qql, qqm, qqn, qqo, qqp, qqq, qqr, qqs, qqt, qqu, qqv, qqw, qqx, qqy, n0]
  rcases loop_rel (F := F) (Z := Z) (live := [0, 1, 5]) (b := r203L0) xs.length (fun i s => ∃ l, s = ⟨[(0, .c x), (1, .c (.int .i64 l)), (5, .c (.int .i64 (i : Nat)))], [], [], h⟩ ∧ 0 ≤ l ∧ l ≤ left ∧ ∀ a, a ∈ xs.take i → a.Small) (fun s => lk s.env 4 = some (.c (.int .i64 (-1))) ∧ s.hp = h) (fun i s hi ⟨l, hs, q1, q2, q3⟩ => by
    subst hs
    obtain ⟨r, f, hld, hr, _⟩ := w.one hi
    obtain ⟨l1, l2, l3⟩ := Shard.lenL hr
    obtain ⟨l', e, k1, k2⟩ := szShard_c (Z := Z) hLShard hLBook hLAccount hLFin hr l q1 (by omega)
    have hlt : (i : Int) < xs.length := by omega
    rw [loop_run]
    conv in (codeF _ _ r203L0 _) => unfold r203L0
    simp only [run0, run1, run2, run3, run4, noSlot, ownS, ownK, memN, RO.dst, lk, drop, forget, number, Nat.reduceBEq, cut?, splice?, builds, Nat.reduceAdd, Nat.reduceLeDiff, ↓reduceIte, reduceCtorEq, qqa, qqb, qqc, qqd, qqe, qqf, qqg, qqh, qqi, qqj, qqk, qql, qqm, qqn, qqo, qqp, qqq, qqr, qqs, qqt, qqu, qqv, qqw, qqx, qqy, w.len, hlt, w.idx hi, hld, l1, l2, e]
    by_cases n1 : l' < 0
    · simp only [run0, run1, run2, run3, run4, noSlot, ownS, ownK, memN, RO.dst, lk, drop, forget, number, Nat.reduceBEq, cut?, splice?, builds, Nat.reduceAdd, Nat.reduceLeDiff, ↓reduceIte, reduceCtorEq, qqa, qqb, qqc, qqd, qqe, qqf, qqg, qqh, qqi, qqj, qqk, qql, qqm, qqn, qqo, qqp, qqq, qqr, qqs, qqt, qqu, qqv, qqw, qqx, qqy, n1]
      exact Or.inr ⟨_, rfl, rfl, rfl⟩
    · simp only [run0, run1, run2, run3, run4, noSlot, ownS, ownK, memN, RO.dst, lk, drop, forget, number, Nat.reduceBEq, cut?, splice?, builds, Nat.reduceAdd, Nat.reduceLeDiff, ↓reduceIte, reduceCtorEq, qqa, qqb, qqc, qqd, qqe, qqf, qqg, qqh, qqi, qqj, qqk, qql, qqm, qqn, qqo, qqp, qqq, qqr, qqs, qqt, qqu, qqv, qqw, qqx, qqy, n1, wrapS i (by omega)]
      refine Or.inl ⟨_, ⟨l', rfl, by omega, by omega, fun a ha => ?_⟩, rfl⟩
      rw [List.take_add_one, List.getElem?_eq_getElem hi] at ha
      rcases List.mem_append.1 ha with ha | ha
      · exact q3 a ha
      · simp at ha; subst ha; exact k2 (by omega)) (s := ⟨[(0, .c x), (1, .c (.int .i64 (left - xs.length))), (5, .c (.int .i64 (0 : Nat)))], [], [], h⟩) ⟨_, rfl, by omega, by omega, fun a ha => by simp at ha⟩ with ⟨s', ⟨l, hs', q1, q2, q3⟩, l1⟩ | ⟨s', l1, q1, q2⟩
  · subst hs'
    simp only [show ((0 : Nat) : Int) = 0 from rfl] at l1
    rw [l1, loop_run]
    conv in (codeF _ _ r203L0 _) => unfold r203L0
    have hlt : ¬ (xs.length : Int) < xs.length := by omega
    simp only [run0, run1, run2, run3, run4, noSlot, ownS, ownK, memN, RO.dst, lk, drop, forget, number, Nat.reduceBEq, cut?, splice?, builds, Nat.reduceAdd, Nat.reduceLeDiff, ↓reduceIte, reduceCtorEq, qqa, qqb, qqc, qqd, qqe, qqf, qqg, qqh, qqi, qqj, qqk, qql, qqm, qqn, qqo, qqp, qqq, qqr, qqs, qqt, qqu, qqv, qqw, qqx, qqy, w.len, hlt]
    rw [List.take_length] at q3
    exact ⟨_, rfl, by omega, fun _ => ⟨by omega, q3⟩⟩
  · simp only [show ((0 : Nat) : Int) = 0 from rfl] at l1
    rw [l1]
    simp only [run0, run1, run2, run3, run4, noSlot, ownS, ownK, memN, RO.dst, lk, drop, forget, number, Nat.reduceBEq, cut?, splice?, builds, Nat.reduceAdd, Nat.reduceLeDiff, ↓reduceIte, reduceCtorEq, qqa, qqb, qqc, qqd, qqe, qqf, qqg, qqh, qqi, qqj, qqk, qql, qqm, qqn, qqo, qqp, qqq, qqr, qqs, qqt, qqu, qqv, qqw, qqx, qqy, q1, q2]
    exact ⟨_, rfl, by omega, by omega⟩
theorem toShardS_c (hLShard : Has F tLShard) (hLBook : Has F tLBook) (hLAccount : Has F tLAccount) (hLFin : Has F tLFin) (hf : h.floor ≤ h.next) (w : SlR 20 Shard.RL h x xs fp) (sm : xs.length ≤ 1048576 ∧ ∀ a, a ∈ xs → a.Small) : ∃ y h' fq, call F Z 205 [.c x] h = some (.c y, h') ∧ On h h' ∧ SlR 16 Shard.RI h' y xs fq ∧ Fre h fq := by
  obtain ⟨hn, sm⟩ := sm
  rw [call_run F Z (hLShard.lk (g := 205) rfl) _ _ rfl]
  simp only [run0, run1, run2, run3, run4, noSlot, ownS, ownK, memN, RO.dst, lk, drop, forget, number, Nat.reduceBEq, cut?, splice?, builds, Nat.reduceAdd, Nat.reduceLeDiff, ↓reduceIte, reduceCtorEq, qqa, qqb, qqc, qqd, qqe, qqf, qqg, qqh, qqi, qqj, qqk, qql, qqm, qqn, qqo, qqp, qqq, qqr, qqs, qqt, qqu, qqv, qqw, qqx, qqy, w.len]
  rw [if_pos (by omega)]
  simp only [run0, run1, run2, run3, run4, noSlot, ownS, ownK, memN, RO.dst, lk, drop, forget, number, Nat.reduceBEq, cut?, splice?, builds, Nat.reduceAdd, Nat.reduceLeDiff, ↓reduceIte, reduceCtorEq, qqa, qqb, qqc, qqd, qqe, qqf, qqg, qqh, qqi, qqj, qqk, qql, qqm, qqn, qqo, qqp, qqq, qqr, qqs, qqt, qqu, qqv, qqw, qqx, qqy, Int.toNat_natCast]
  obtain ⟨s', ⟨g, rows, fps, hs', fl⟩, l1⟩ := loop_goes (F := F) (Z := Z) (live := [0, 3, 4]) (b := r205L0) xs.length (fun i s => ∃ g rows fps, s = ⟨[(0, .c x), (3, .c (.sl 16 h.next 0 xs.length)), (4, .c (.int .i64 (i : Nat)))], [], [], g⟩ ∧ Filled Shard.RI h g h.next Shard.zeroC xs i rows fps) (fun i s hi ⟨g, rows, fps, hs, fl⟩ => by
    subst hs
    have wg := w.mono Shard.okL fl.on.ext
    obtain ⟨r, f, hld, hr, _⟩ := wg.one hi
    obtain ⟨l1, l2, l3⟩ := Shard.lenL hr
    obtain ⟨cs', g', fq, e, o', v, fr⟩ := toShard_c (Z := Z) hLShard hLBook hLAccount hLFin (fl.on.le hf) hr (sm _ (List.getElem_mem hi))
    obtain ⟨vl, _, _⟩ := Shard.lenI v
    obtain ⟨st, fl'⟩ := fl.step Shard.okI hf hi vl o' v fr
    have hlt : (i : Int) < xs.length := by omega
    have h0 : (0 : Int) ≤ i := by omega
    rw [loop_run]
    conv in (codeF _ _ r205L0 _) => unfold r205L0
    simp only [run0, run1, run2, run3, run4, noSlot, ownS, ownK, memN, RO.dst, lk, drop, forget, number, Nat.reduceBEq, cut?, splice?, builds, Nat.reduceAdd, Nat.reduceLeDiff, ↓reduceIte, reduceCtorEq, qqa, qqb, qqc, qqd, qqe, qqf, qqg, qqh, qqi, qqj, qqk, qql, qqm, qqn, qqo, qqp, qqq, qqr, qqs, qqt, qqu, qqv, qqw, qqx, qqy, w.len, hlt, w.idx hi, hld, l1, l2, e, h0, and_self, Int.toNat_natCast, vl, st, wrapS i (by omega)]
    exact ⟨_, ⟨_, _, _, rfl, fl'⟩, rfl⟩) (s := ⟨[(0, .c x), (3, .c (.sl 16 h.next 0 xs.length)), (4, .c (.int .i64 (0 : Nat)))], [], [], h.push (List.replicate xs.length Shard.zeroC)⟩) ⟨_, _, _, rfl, Filled.start h Shard.zeroC xs⟩
  subst hs'
  simp only [show ((0 : Nat) : Int) = 0 from rfl, Shard.zeroC] at l1
  rw [l1, loop_run]
  conv in (codeF _ _ r205L0 _) => unfold r205L0
  have hlt : ¬ (xs.length : Int) < xs.length := by omega
  simp only [run0, run1, run2, run3, run4, noSlot, ownS, ownK, memN, RO.dst, lk, drop, forget, number, Nat.reduceBEq, cut?, splice?, builds, Nat.reduceAdd, Nat.reduceLeDiff, ↓reduceIte, reduceCtorEq, qqa, qqb, qqc, qqd, qqe, qqf, qqg, qqh, qqi, qqj, qqk, qql, qqm, qqn, qqo, qqp, qqq, qqr, qqs, qqt, qqu, qqv, qqw, qqx, qqy, w.len, hlt]
  obtain ⟨o, v, f⟩ := fl.all hn 16
  exact ⟨_, _, _, rfl, o, v, f⟩
theorem eqShardS_r (hLShard : Has F tLShard) (hLBook : Has F tLBook) (hLAccount : Has F tLAccount) (hLFin : Has F tLFin) (w : SlR 16 Shard.RI h x xs fp) (v : SlR 16 Shard.RI h y ys fq) : call F Z 207 [.c x, .c y] h = some (.c (.bool (decide (xs = ys))), h) := by
  have hw := w.le2
  have hv := v.le2
  rw [call_run F Z (hLShard.lk (g := 207) rfl) _ _ rfl]
  simp only [run0, run1, run2, run3, run4, noSlot, ownS, ownK, memN, RO.dst, lk, drop, forget, number, Nat.reduceBEq, cut?, splice?, builds, Nat.reduceAdd, Nat.reduceLeDiff, ↓reduceIte, reduceCtorEq, qqa, qqb, qqc, qqd, qqe, qqf, qqg, qqh, qqi, qqj, qqk, qql, qqm, qqn, qqo, qqp, qqq, qqr, qqs, qqt, qqu, qqv, qqw, qqx, qqy, w.len, v.len]
  rw [condC_if]
  split
  · rename_i hne
    have : xs ≠ ys := by rintro rfl; simp at hne
    simp only [run0, run1, run2, run3, run4, noSlot, ownS, ownK, memN, RO.dst, lk, drop, forget, number, Nat.reduceBEq, cut?, splice?, builds, Nat.reduceAdd, Nat.reduceLeDiff, ↓reduceIte, reduceCtorEq, qqa, qqb, qqc, qqd, qqe, qqf, qqg, qqh, qqi, qqj, qqk, qql, qqm, qqn, qqo, qqp, qqq, qqr, qqs, qqt, qqu, qqv, qqw, qqx, qqy, this]
  · rename_i he
    have he : xs.length = ys.length := by simp at he; omega
    simp only [run0, run1, run2, run3, run4, noSlot, ownS, ownK, memN, RO.dst, lk, drop, forget, number, Nat.reduceBEq, cut?, splice?, builds, Nat.reduceAdd, Nat.reduceLeDiff, ↓reduceIte, reduceCtorEq, qqa, qqb, qqc, qqd, qqe, qqf, qqg, qqh, qqi, qqj, qqk, qql, qqm, qqn, qqo, qqp, qqq, qqr, qqs, qqt, qqu, qqv, qqw, qqx, qqy]
    have key := loop_allN (F := F) (Z := Z) (live := [0, 1, 5]) (b := r207L0) xs.length (fun i => ⟨[(0, .c x), (1, .c y), (5, .c (.int .i64 (i : Nat)))], [], [], h⟩) (fun i => decide (xs[i]? = ys[i]?)) (fun s => lk s.env 4 = some (.c (.bool false)) ∧ s.hp = h) fun i hi => by
      have hi' : i < ys.length := by omega
      have hlt : (i : Int) < xs.length := by omega
      obtain ⟨r, f, hld, hr, _⟩ := w.one hi
      obtain ⟨r', f', hld', hr', _⟩ := v.one hi'
      obtain ⟨l1, l2, l3⟩ := Shard.lenI hr
      obtain ⟨l1', l2', l3'⟩ := Shard.lenI hr'
      have e := eqShard_r (Z := Z) (h := ⟨h.next, h.next, h.get⟩) hLShard hLBook hLAccount hLFin (Shard.okI.up hr _) (Shard.okI.up hr' _)
      rw [loop_run]
      conv in (codeF _ _ r207L0 _) => unfold r207L0
      simp only [run0, run1, run2, run3, run4, noSlot, ownS, ownK, memN, RO.dst, lk, drop, forget, number, Nat.reduceBEq, cut?, splice?, builds, Nat.reduceAdd, Nat.reduceLeDiff, ↓reduceIte, reduceCtorEq, qqa, qqb, qqc, qqd, qqe, qqf, qqg, qqh, qqi, qqj, qqk, qql, qqm, qqn, qqo, qqp, qqq, qqr, qqs, qqt, qqu, qqv, qqw, qqx, qqy, w.len, hlt, w.idx hi, v.idx hi', hld, hld', l1, l2, l1', l2', e, wrapS i (by omega)]
      rw [List.getElem?_eq_getElem hi, List.getElem?_eq_getElem hi']
      clear e hld hld' hr hr' l1 l2 l3 l1' l2' l3'
      (repeat' ((first | (rw [gF_if]; split) | (rw [condC_if]; split) | (rw [pickR_if]; split)) <;> (rename_i hh; (try simp only [Bool.not_eq_true, decide_eq_true_eq] at hh); simp only [hh, run0, run1, run2, run3, run4, noSlot, ownS, ownK, memN, RO.dst, lk, drop, forget, number, Nat.reduceBEq, cut?, splice?, builds, Nat.reduceAdd, Nat.reduceLeDiff, ↓reduceIte, reduceCtorEq, qqa, qqb, qqc, qqd, qqe, qqf, qqg, qqh, qqi, qqj, qqk, qql, qqm, qqn, qqo, qqp, qqq, qqr, qqs, qqt, qqu, qqv, qqw, qqx, qqy, wrapS i (by omega)])))
      · exact .inr ⟨by simp_all, _, rfl, rfl, rfl⟩
      · exact .inl ⟨by simp_all, rfl⟩
    rw [all_same he] at key
    rcases key with ⟨k1, k2⟩ | ⟨k1, s, k2, k3, k4⟩
    · simp only [show ((0 : Nat) : Int) = 0 from rfl] at k2
      rw [k2, loop_run]
      conv in (codeF _ _ r207L0 _) => unfold r207L0
      have hlt : ¬ (xs.length : Int) < xs.length := by omega
      simp only [run0, run1, run2, run3, run4, noSlot, ownS, ownK, memN, RO.dst, lk, drop, forget, number, Nat.reduceBEq, cut?, splice?, builds, Nat.reduceAdd, Nat.reduceLeDiff, ↓reduceIte, reduceCtorEq, qqa, qqb, qqc, qqd, qqe, qqf, qqg, qqh, qqi, qqj, qqk, qql, qqm, qqn, qqo, qqp, qqq, qqr, qqs, qqt, qqu, qqv, qqw, qqx, qqy, w.len, hlt, k1]
    · simp only [show ((0 : Nat) : Int) = 0 from rfl] at k2
      rw [k2]
      simp only [run0, run1, run2, run3, run4, noSlot, ownS, ownK, memN, RO.dst, lk, drop, forget, number, Nat.reduceBEq, cut?, splice?, builds, Nat.reduceAdd, Nat.reduceLeDiff, ↓reduceIte, reduceCtorEq, qqa, qqb, qqc, qqd, qqe, qqf, qqg, qqh, qqi, qqj, qqk, qql, qqm, qqn, qqo, qqp, qqq, qqr, qqs, qqt, qqu, qqv, qqw, qqx, qqy, k3, k4, k1]
end
end Go.Proofs.Ytgfclcpnefinoaa.A
namespace Go.Proofs.Ytgfclcpnefinoaa.A
open Go
set_option linter.unusedSimpArgs false
set_option linter.unusedVariables false
structure Store where
  group : Int
  seen : Int
  shards : List Shard
  deriving DecidableEq
def Store.RL : Rel Store := fun h cs t fp => ∃ x1 p1, cs = [.int .i64 t.group, .int .i64 t.seen, x1] ∧ fp = p1 ∧ SlR 20 (Shard.RL) h x1 t.shards p1
theorem Store.okL : RelOk Store.RL where
  lt := by
    rintro h cs t fp ⟨x1, p1, rfl, rfl, w1⟩ id hid
    exact w1.lt (Shard.okL) id hid
  mv := by
    rintro h h' cs t fp ⟨x1, p1, rfl, rfl, w1⟩ hn hg
    exact ⟨x1, _, rfl, rfl, w1.mv (Shard.okL) hn hg⟩
def Store.RI : Rel Store := fun h cs t fp => ∃ x1 p1, cs = [.int .i64 t.group, .int .i64 t.seen, x1] ∧ fp = p1 ∧ SlR 16 (Shard.RI) h x1 t.shards p1
theorem Store.okI : RelOk Store.RI where
  lt := by
    rintro h cs t fp ⟨x1, p1, rfl, rfl, w1⟩ id hid
    exact w1.lt (Shard.okI) id hid
  mv := by
    rintro h h' cs t fp ⟨x1, p1, rfl, rfl, w1⟩ hn hg
    exact ⟨x1, _, rfl, rfl, w1.mv (Shard.okI) hn hg⟩
theorem Store.lenL {h : Heap} {cs : List Cell} {t : Store} {fp : List Nat} (v : Store.RL h cs t fp) : cs.length = 3 ∧ cs.take 3 = cs ∧ cs.drop 3 = [] := by
  obtain ⟨x1, p1, rfl, _⟩ := v
  exact ⟨rfl, rfl, rfl⟩
theorem Store.lenI {h : Heap} {cs : List Cell} {t : Store} {fp : List Nat} (v : Store.RI h cs t fp) : cs.length = 3 ∧ cs.take 3 = cs ∧ cs.drop 3 = [] := by
  obtain ⟨x1, p1, rfl, _⟩ := v
  exact ⟨rfl, rfl, rfl⟩
namespace Store
structure Ok (t : Store) : Prop where
  group : -9223372036854775808 ≤ t.group ∧ t.group ≤ 9223372036854775807
  seen : -9223372036854775808 ≤ t.seen ∧ t.seen ≤ 9223372036854775807
  shards : ∀ a, a ∈ t.shards → a.Ok
def Small (t : Store) : Prop := (t.shards.length ≤ 1048576 ∧ ∀ a, a ∈ t.shards → a.Small)
end Store
theorem Wf.isStore {h : Heap} {n : Nat} {cs : List Cell} (w : Wf h (n + 7) shStore cs) : ∃ t fp, Store.RL h cs t fp ∧ t.Ok := by
  obtain ⟨_, _, rfl, _, ⟨i1, rfl, j1⟩, _, _, rfl, _, ⟨i2, rfl, j2⟩, _, _, rfl, _, m3, rfl⟩ := w
  obtain ⟨x1, l1, p1, rfl, w1, o1⟩ := Wf.isShardS' m3
  exact ⟨⟨i1, i2, l1⟩, _, ⟨x1, _, rfl, rfl, w1⟩, ⟨wfI j1, wfI j2, o1⟩⟩
section
variable {F : Nat → Option RF} {Z : CallF} {h : Heap} {cs cs' : List Cell} {t u : Store} {fp fq : List Nat}
theorem szStore_c (hLStore : Has F tLStore) (hLShard : Has F tLShard) (hLBook : Has F tLBook) (hLAccount : Has F tLAccount) (hLFin : Has F tLFin) (v : Store.RL h cs t fp) (left : Int) (h1 : 0 ≤ left) (h2 : left ≤ 1048576) : ∃ r, call F Z 154 [.agg cs, .c (.int .i64 left)] h = some (.c (.int .i64 r), h) ∧ r ≤ left ∧ (0 ≤ r → t.Small) := by
  obtain ⟨x1, p1, rfl, rfl, w1⟩ := v
  rw [call_run F Z (hLStore.lk (g := 154) rfl) _ _ rfl]
  simp only [run0, run1, run2, run3, run4, noSlot, ownS, ownK, memN, RO.dst, lk, drop, forget, number, Nat.reduceBEq, cut?, splice?, builds, Nat.reduceAdd, Nat.reduceLeDiff, ↓reduceIte, reduceCtorEq, qqa, qqb, qqc, qqd, qqe, qqf, qqg, qqh, qqi, qqj, qqk, qql, qqm, qqn, qqo, qqp, qqq, qqr, qqs, qqt, qqu, qqv, qqw, qqx, qqy]
  obtain ⟨l0, s0, a0, b0⟩ := szShardS_c (Z := Z) hLShard hLBook hLAccount hLFin w1 left (by omega) (by omega)
  simp only [run0, run1, run2, run3, run4, noSlot, ownS, ownK, memN, RO.dst, lk, drop, forget, number, Nat.reduceBEq, cut?, splice?, builds, Nat.reduceAdd, Nat.reduceLeDiff, ↓reduceIte, reduceCtorEq, qqa, qqb, qqc, qqd, qqe, qqf, qqg, qqh, qqi, qqj, qqk, qql, qqm, qqn, qqo, qqp, qqq, qqr, qqs, qqt, qqu, qqv, qqw, qqx, qqy, s0]
  by_cases n0 : l0 < 0
  · simp only [run0, run1, run2, run3, run4, noSlot, ownS, ownK, memN, RO.dst, lk, drop, forget, number, Nat.reduceBEq, cut?, splice?, builds, Nat.reduceAdd, Nat.reduceLeDiff, ↓reduceIte, reduceCtorEq, qqa, qqb, qqc, qqd, qqe, qqf, qqg, qqh, qqi, qqj, qqk, qql, qqm, qqn, qqo, qqp, qqq, qqr, qqs, qqt, qqu, qqv, qqw, qqx, qqy, n0]
    exact ⟨_, rfl, by omega, by omega⟩
  simp only [run0, run1, run2, run3, run4, noSlot, ownS, ownK, memN, RO.dst, lk, drop, forget, number, Nat.reduceBEq, cut?, splice?, builds, Nat.reduceAdd, Nat.reduceLeDiff, ↓reduceIte, reduceCtorEq, qqa, qqb, qqc, qqd, qqe, qqf, qqg, qqh, qqi, qqj, qqk, qql, qqm, qqn, qqo, qqp, qqq, qqr, qqs, qqt, qqu, qqv, qqw, qqx, qqy, n0]
  exact ⟨_, rfl, by omega, fun _ => b0 (by omega)⟩
theorem toStore_c (hLStore : Has F tLStore) (hLShard : Has F tLShard) (hLBook : Has F tLBook) (hLAccount : Has F tLAccount) (hLFin : Has F tLFin) (hf : h.floor ≤ h.next) (v : Store.RL h cs t fp) (sm : t.Small) : ∃ cs' h' fq, call F Z 155 [.agg cs] h = some (.agg cs', h') ∧ On h h' ∧ Store.RI h' cs' t fq ∧ Fre h fq := by
  obtain ⟨x1, p1, rfl, rfl, w1⟩ := v
  have sm0 := sm
  obtain ⟨y1, g0, q1, e0, o0, u1, r0⟩ := toShardS_c (Z := Z) hLShard hLBook hLAccount hLFin hf w1 sm0
  rw [call_run F Z (hLStore.lk (g := 155) rfl) _ _ rfl]
  simp only [run0, run1, run2, run3, run4, noSlot, ownS, ownK, memN, RO.dst, lk, drop, forget, number, Nat.reduceBEq, cut?, splice?, builds, Nat.reduceAdd, Nat.reduceLeDiff, ↓reduceIte, reduceCtorEq, qqa, qqb, qqc, qqd, qqe, qqf, qqg, qqh, qqi, qqj, qqk, qql, qqm, qqn, qqo, qqp, qqq, qqr, qqs, qqt, qqu, qqv, qqw, qqx, qqy, e0]
  exact ⟨_, _, _, rfl, o0, ⟨y1, _, rfl, rfl, u1⟩, r0⟩
set_option maxHeartbeats 1000000 in
theorem eqStore_r (hLStore : Has F tLStore) (hLShard : Has F tLShard) (hLBook : Has F tLBook) (hLAccount : Has F tLAccount) (hLFin : Has F tLFin) (v : Store.RI h cs t fp) (v' : Store.RI h cs' u fq) : call F Z 158 [.agg cs, .agg cs'] h = some (.c (.bool (decide (t = u))), h) := by
  obtain ⟨x1, p1, rfl, rfl, w1⟩ := v
  obtain ⟨x1', p1', rfl, rfl, w1'⟩ := v'
  obtain ⟨group1, seen1, shards1⟩ := t
  obtain ⟨group2, seen2, shards2⟩ := u
  have e0 := eqShardS_r (Z := Z) hLShard hLBook hLAccount hLFin w1 w1'
  clear w1 w1'
  rw [call_run F Z (hLStore.lk (g := 158) rfl) _ _ rfl]
  simp only [run0, run1, run2, run3, run4, noSlot, ownS, ownK, memN, RO.dst, lk, drop, forget, number, Nat.reduceBEq, cut?, splice?, builds, Nat.reduceAdd, Nat.reduceLeDiff, ↓reduceIte, reduceCtorEq, qqa, qqb, qqc, qqd, qqe, qqf, qqg, qqh, qqi, qqj, qqk, qql, qqm, qqn, qqo, qqp, qqq, qqr, qqs, qqt, qqu, qqv, qqw, qqx, qqy, e0]
  (repeat' ((first | (rw [gF_if]; split) | (rw [condC_if]; split) | (rw [pickR_if]; split)) <;> (rename_i hh; (try simp only [Bool.not_eq_true, decide_eq_true_eq] at hh); simp only [hh, run0, run1, run2, run3, run4, noSlot, ownS, ownK, memN, RO.dst, lk, drop, forget, number, Nat.reduceBEq, cut?, splice?, builds, Nat.reduceAdd, Nat.reduceLeDiff, ↓reduceIte, reduceCtorEq, qqa, qqb, qqc, qqd, qqe, qqf, qqg, qqh, qqi, qqj, qqk, qql, qqm, qqn, qqo, qqp, qqq, qqr, qqs, qqt, qqu, qqv, qqw, qqx, qqy, e0]))) <;> clear e0 <;> refine fin_bool ?_ <;> simp_all <;> (try (intros; omega))
end
end Go.Proofs.Ytgfclcpnefinoaa.A
namespace Go.Proofs.Ytgfclcpnefinoaa.A
open Go
set_option linter.unusedSimpArgs false
set_option linter.unusedVariables false
def TurnO (r : Option (Ex × St)) (next : Heap → Option (Ex × St)) (g : Heap) (p : Bool) (Q : St → Prop) : Prop :=
  (p = true ∧ ∃ g', On g g' ∧ r = next g') ∨ (p = false ∧ ∃ s', r = some (.ret, s') ∧ On g s'.hp ∧ Q s')
section
variable {F : Nat → Option RF} {Z : CallF} {live : List Nat} {b : RC}
theorem loop_on (n : Nat) (st : Nat → Heap → St) (h : Heap) (P : Nat → Bool) (Q : St → Prop)
    (hs : ∀ i g, i < n → On h g → TurnO (loop F Z live b (st i g)) (fun g' => loop F Z live b (st (i + 1) g')) g (P i) Q) :
    TurnO (loop F Z live b (st 0 h)) (fun g' => loop F Z live b (st n g')) h ((List.range n).all P) Q := by
  induction n with
  | zero => exact .inl ⟨rfl, h, On.refl h, rfl⟩
  | succ n ih =>
    have hl : (List.range (n + 1)).all P = ((List.range n).all P && P n) := by rw [List.range_succ, List.all_append]; simp
    rcases ih fun i g hi => hs i g (by omega) with ⟨h1, g1, o1, e1⟩ | ⟨h1, s', e1, o1, q1⟩
    · rcases hs n g1 (by omega) o1 with ⟨h3, g2, o2, e2⟩ | ⟨h3, s', e2, o2, q2⟩
      · exact .inl ⟨by rw [hl, h1, h3]; rfl, g2, o1.trans o2, e1.trans e2⟩
      · exact .inr ⟨by rw [hl, h1, h3]; rfl, s', e1.trans e2, o1.trans o2, q2⟩
    · exact .inr ⟨by rw [hl, h1]; rfl, s', e1, o1, q1⟩
end
end Go.Proofs.Ytgfclcpnefinoaa.A
namespace Go.Proofs.Ytgfclcpnefinoaa.A
open Go
set_option linter.unusedSimpArgs false
set_option linter.unusedVariables false
structure KI (F : Nat → Option RF) : Prop where
  i10 : Has F tI10
  i11 : Has F tI11
  i13 : Has F tI13
  c1 : Has F tLibcmpCompareint
  c2 : Has F tLibcmpCompareuint64
  c3 : Has F tLibcmpOrint
  c4 : Has F tLibcmpisNaNint
  c5 : Has F tLibcmpisNaNuint64
  li : Has F tLibslicesIndeximplFinimplFin
  lc : Has F tLibslicesContainsimplFinimplFin
structure KS (F : Nat → Option RF) : Prop where
  s01 : Has F tS01d
  s10 : Has F tS10
  s13 : Has F tS13
def Shard.none_ : Shard := ⟨0, 0, 0, 0, ⟨[]⟩, []⟩
def Shard.at_ (xs : List Shard) (i : Nat) : Shard := xs[i]?.getD Shard.none_
theorem Shard.at_get {xs : List Shard} {i : Nat} (hi : i < xs.length) : Shard.at_ xs i = xs[i] := by simp [Shard.at_, List.getElem?_eq_getElem hi]
def Store.fits (s : Store) (i : Nat) : Bool := (Shard.at_ s.shards i).good && (decide ((Shard.at_ s.shards i).epoch ≤ s.seen) && (i == 0 || decide ((Shard.at_ s.shards (i - 1)).hi < (Shard.at_ s.shards i).lo)))
def Store.good (s : Store) : Bool := inR s.group 0 99 && (inR s.seen 0 1000000 && (decide ((s.shards.length : Int) ≤ 8) && (List.range s.shards.length).all s.fits))
section
variable {F : Nat → Option RF} {Z : CallF} {h : Heap} {cs : List Cell} {s : Store} {fp : List Nat} {x : Cell}
theorem isShard_q (k : KI F) {t : Shard} {cs : List Cell} {fp : List Nat} (v : Shard.RI h cs t fp) (ok : t.Ok) :
    ∃ h' g, call F Z 244 [.agg cs] ⟨h.next, h.next, h.get⟩ = some (.c (.bool t.good), h') ∧ Heap.mk h'.next h.floor h'.get = g ∧ On h g := by
  obtain ⟨h', e, o⟩ := isShard_run (Z := Z) k.i10 k.i13 k.c1 k.c2 k.c3 k.c4 k.c5 k.li k.lc (Shard.okI.up v h.next) ok
  exact quietly e o
set_option maxHeartbeats 4000000 in
theorem isStore_turn (k : KI F) (w : SlR 16 Shard.RI h x s.shards fp) (ok : ∀ a, a ∈ s.shards → a.Ok) (i : Nat) (hi : i < s.shards.length) :
    TurnO (loop F Z [1, 26, 27, 28] r206L0 ⟨[(26, .c x), (27, .c (.int .i64 (s.shards.length : Nat))), (28, .c (.int .i64 (i : Nat)))], [(1, 1, 0)], [(1, [.int .i64 s.group, .int .i64 s.seen, x])], h⟩)
      (fun g => loop F Z [1, 26, 27, 28] r206L0 ⟨[(26, .c x), (27, .c (.int .i64 (s.shards.length : Nat))), (28, .c (.int .i64 ((i + 1 : Nat) : Int)))], [(1, 1, 0)], [(1, [.int .i64 s.group, .int .i64 s.seen, x])], g⟩)
      h (s.fits i) (fun s' => lk s'.env 2 = some (.c (.bool false))) := by
  have hle := w.le2
  have hlt : (i : Int) < s.shards.length := by omega
  have hws := wrapS i (by omega)
  have hxi := w.idx hi
  obtain ⟨r, f, hld, hR, _⟩ := w.one hi
  rw [← Shard.at_get hi] at hR
  have aok := ok _ (List.getElem_mem hi)
  rw [← Shard.at_get hi] at aok
  obtain ⟨h', g, hc, hg, og⟩ := isShard_q (Z := Z) k hR aok
  have hpre : 0 < i → IntKind.i64.wrap ((i : Int) - 1) = ((i - 1 : Nat) : Int) := fun hp => by rw [wrapI _ (by omega) (by omega)]; omega
  have hpi : 0 < i → idxR 16 (some x) (some ((i - 1 : Nat) : Int)) = some (.ptr x.sid (i - 1) 0) := fun hp => w.idx (by omega)
  have hpl : 0 < i → ∃ r', (∀ j n, loadP g x.sid (i - 1) j n = cut? r' j n) ∧ ∃ f', Shard.RI g r' (Shard.at_ s.shards (i - 1)) f' := fun hp => by
    obtain ⟨r', f', h1, h2, _⟩ := (w.on Shard.okI og).one (show i - 1 < s.shards.length by omega)
    rw [← Shard.at_get] at h2
    exact ⟨r', h1, f', h2⟩
  have hfit : s.fits i = ((Shard.at_ s.shards i).good && (decide ((Shard.at_ s.shards i).epoch ≤ s.seen) && (i == 0 || decide ((Shard.at_ s.shards (i - 1)).hi < (Shard.at_ s.shards i).lo)))) := rfl
  obtain ⟨x1, p1, x2, p2, rfl, _⟩ := hR
  clear w ok aok
  generalize s.fits i = fa at *
  generalize (Shard.at_ s.shards i).good = gd at *
  generalize Shard.at_ s.shards (i - 1) = pa at *
  generalize Shard.at_ s.shards i = a at *
  rw [loop_run]
  conv in (codeF _ _ r206L0 _) => unfold r206L0
  simp only [run0, run1, run2, run3, run4, noSlot, ownS, ownK, memN, RO.dst, lk, drop, forget, number, Nat.reduceBEq, cut?, splice?, builds, Nat.reduceAdd, Nat.reduceLeDiff, ↓reduceIte, reduceCtorEq, qqa, qqb, qqc, qqd, qqe, qqf, qqg, qqh, qqi, qqj, qqk, qql, qqm, qqn, qqo, qqp, qqq, qqr, qqs, qqt, qqu, qqv, qqw, qqx, qqy, hlt, hxi, hld]
  cases gd with
  | false =>
    simp only [run0, run1, run2, run3, run4, noSlot, ownS, ownK, memN, RO.dst, lk, drop, forget, number, Nat.reduceBEq, cut?, splice?, builds, Nat.reduceAdd, Nat.reduceLeDiff, ↓reduceIte, reduceCtorEq, qqa, qqb, qqc, qqd, qqe, qqf, qqg, qqh, qqi, qqj, qqk, qql, qqm, qqn, qqo, qqp, qqq, qqr, qqs, qqt, qqu, qqv, qqw, qqx, qqy, hc, hg]
    exact .inr ⟨by simp_all, _, rfl, og, rfl⟩
  | true =>
    by_cases hp : 0 < i
    · have g1 : (i : Int) > 0 := by omega
      have hi0 : (i == 0) = false := by simp; omega
      have q1 := hpre hp
      have q2 := hpi hp
      obtain ⟨r', q3, f', y1, y2, y3, y4, rfl, _⟩ := hpl hp
      clear hxi hpre hpi hpl hld
      simp only [run0, run1, run2, run3, run4, noSlot, ownS, ownK, memN, RO.dst, lk, drop, forget, number, Nat.reduceBEq, cut?, splice?, builds, Nat.reduceAdd, Nat.reduceLeDiff, ↓reduceIte, reduceCtorEq, qqa, qqb, qqc, qqd, qqe, qqf, qqg, qqh, qqi, qqj, qqk, qql, qqm, qqn, qqo, qqp, qqq, qqr, qqs, qqt, qqu, qqv, qqw, qqx, qqy, hws, g1, q1, q2, q3, hc, hg]
      (repeat' ((first | (rw [gF_if]; split) | (rw [condC_if]; split) | (rw [pickR_if]; split)) <;> (rename_i hh; (try simp only [Bool.not_eq_true, decide_eq_true_eq] at hh); simp only [hh, run0, run1, run2, run3, run4, noSlot, ownS, ownK, memN, RO.dst, lk, drop, forget, number, Nat.reduceBEq, cut?, splice?, builds, Nat.reduceAdd, Nat.reduceLeDiff, ↓reduceIte, reduceCtorEq, qqa, qqb, qqc, qqd, qqe, qqf, qqg, qqh, qqi, qqj, qqk, qql, qqm, qqn, qqo, qqp, qqq, qqr, qqs, qqt, qqu, qqv, qqw, qqx, qqy, hws, g1, q1, q2, q3, hc, hg])))
      all_goals clear q2 q3 hc hg
      all_goals first
        | exact .inl ⟨by simp_all <;> omega, _, og, rfl⟩
        | exact .inr ⟨by simp_all <;> omega, _, rfl, og, rfl⟩
    · have g1 : ¬ (i : Int) > 0 := by omega
      have hi0 : (i == 0) = true := by simp; omega
      clear hxi hpre hpi hpl hld
      simp only [run0, run1, run2, run3, run4, noSlot, ownS, ownK, memN, RO.dst, lk, drop, forget, number, Nat.reduceBEq, cut?, splice?, builds, Nat.reduceAdd, Nat.reduceLeDiff, ↓reduceIte, reduceCtorEq, qqa, qqb, qqc, qqd, qqe, qqf, qqg, qqh, qqi, qqj, qqk, qql, qqm, qqn, qqo, qqp, qqq, qqr, qqs, qqt, qqu, qqv, qqw, qqx, qqy, hws, g1, hc, hg]
      (repeat' ((first | (rw [gF_if]; split) | (rw [condC_if]; split) | (rw [pickR_if]; split)) <;> (rename_i hh; (try simp only [Bool.not_eq_true, decide_eq_true_eq] at hh); simp only [hh, run0, run1, run2, run3, run4, noSlot, ownS, ownK, memN, RO.dst, lk, drop, forget, number, Nat.reduceBEq, cut?, splice?, builds, Nat.reduceAdd, Nat.reduceLeDiff, ↓reduceIte, reduceCtorEq, qqa, qqb, qqc, qqd, qqe, qqf, qqg, qqh, qqi, qqj, qqk, qql, qqm, qqn, qqo, qqp, qqq, qqr, qqs, qqt, qqu, qqv, qqw, qqx, qqy, hws, g1, hc, hg])))
      all_goals clear hc hg
      all_goals first
        | exact .inl ⟨by simp_all <;> omega, _, og, rfl⟩
        | exact .inr ⟨by simp_all <;> omega, _, rfl, og, rfl⟩
set_option maxHeartbeats 4000000 in
theorem isStore_run (k : KI F) (v : Store.RI h cs s fp) (ok : s.Ok) : ∃ h', call F Z 206 [.agg cs] h = some (.c (.bool s.good), h') ∧ On h h' := by
  obtain ⟨x, p, rfl, rfl, w⟩ := v
  have key := loop_on (F := F) (Z := Z) (live := [1, 26, 27, 28]) (b := r206L0) s.shards.length (fun i g => ⟨[(26, .c x), (27, .c (.int .i64 (s.shards.length : Nat))), (28, .c (.int .i64 (i : Nat)))], [(1, 1, 0)], [(1, [.int .i64 s.group, .int .i64 s.seen, x])], g⟩) h s.fits (fun s' => lk s'.env 2 = some (.c (.bool false)))
    fun i g hi og => isStore_turn k (w.on Shard.okI og) ok.shards i hi
  have l1 := w.len
  have n1 : ¬ (s.shards.length : Int) < s.shards.length := by omega
  clear w ok
  simp only [show ((0 : Nat) : Int) = 0 from rfl] at key
  have hg := isGroupId_run (Z := Z) k.i11
  have hgd : s.good = (inR s.group 0 99 && (inR s.seen 0 1000000 && (decide ((s.shards.length : Int) ≤ 8) && (List.range s.shards.length).all s.fits))) := rfl
  generalize s.good = sg at *
  generalize (List.range s.shards.length).all s.fits = al at *
  rw [call_run F Z (k.i13.lk (g := 206) rfl) _ _ rfl]
  simp only [run0, run1, run2, run3, run4, noSlot, ownS, ownK, memN, RO.dst, lk, drop, forget, number, Nat.reduceBEq, cut?, splice?, builds, Nat.reduceAdd, Nat.reduceLeDiff, ↓reduceIte, reduceCtorEq, qqa, qqb, qqc, qqd, qqe, qqf, qqg, qqh, qqi, qqj, qqk, qql, qqm, qqn, qqo, qqp, qqq, qqr, qqs, qqt, qqu, qqv, qqw, qqx, qqy, hg, l1]
  clear k
  (repeat' ((first | (rw [gF_if]; split) | (rw [condC_if]; split) | (rw [pickR_if]; split)) <;> (rename_i hh; (try simp only [Bool.not_eq_true, decide_eq_true_eq] at hh); simp only [hh, run0, run1, run2, run3, run4, noSlot, ownS, ownK, memN, RO.dst, lk, drop, forget, number, Nat.reduceBEq, cut?, splice?, builds, Nat.reduceAdd, Nat.reduceLeDiff, ↓reduceIte, reduceCtorEq, qqa, qqb, qqc, qqd, qqe, qqf, qqg, qqh, qqi, qqj, qqk, qql, qqm, qqn, qqo, qqp, qqq, qqr, qqs, qqt, qqu, qqv, qqw, qqx, qqy, hg, l1])))
  all_goals clear hg l1
  all_goals first
    | (refine ⟨_, ?_, On.refl h⟩; simp_all [inR]; done)
    | (refine ⟨_, ?_, On.refl h⟩; simp_all [inR]; omega)
    | (rcases key with ⟨a1, g, og, a2⟩ | ⟨a1, s', a2, og, a3⟩
       · dsimp only at a2
         rw [a2, loop_run]
         conv in (codeF _ _ r206L0 _) => unfold r206L0
         simp only [run0, run1, run2, run3, run4, noSlot, ownS, ownK, memN, RO.dst, lk, drop, forget, number, Nat.reduceBEq, cut?, splice?, builds, Nat.reduceAdd, Nat.reduceLeDiff, ↓reduceIte, reduceCtorEq, qqa, qqb, qqc, qqd, qqe, qqf, qqg, qqh, qqi, qqj, qqk, qql, qqm, qqn, qqo, qqp, qqq, qqr, qqs, qqt, qqu, qqv, qqw, qqx, qqy, n1]
         refine ⟨_, ?_, og⟩
         simp_all [inR] <;> omega
       · rw [a2]
         simp only [run0, run1, run2, run3, run4, noSlot, ownS, ownK, memN, RO.dst, lk, drop, forget, number, Nat.reduceBEq, cut?, splice?, builds, Nat.reduceAdd, Nat.reduceLeDiff, ↓reduceIte, reduceCtorEq, qqa, qqb, qqc, qqd, qqe, qqf, qqg, qqh, qqi, qqj, qqk, qql, qqm, qqn, qqo, qqp, qqq, qqr, qqs, qqt, qqu, qqv, qqw, qqx, qqy, a3]
         refine ⟨_, ?_, og⟩
         simp_all [inR] <;> omega)
end
end Go.Proofs.Ytgfclcpnefinoaa.A
namespace Go.Proofs.Ytgfclcpnefinoaa.A
open Go
set_option linter.unusedSimpArgs false
set_option linter.unusedVariables false
section
variable {F : Nat → Option RF} {Z : CallF} {h : Heap} {cs : List Cell} {s : Store} {fp : List Nat} {x : Cell}
theorem l13Shard_q (k : KS F) {t : Shard} {cs : List Cell} {fp : List Nat} (v : Shard.RI h cs t fp) (ok : t.Ok) :
    call F Z 204 [.agg cs] ⟨h.next, h.next, h.get⟩ = some (.c (.bool t.good), ⟨h.next, h.next, h.get⟩) := l13Shard_run (Z := Z) k.s01 k.s10 k.s13 (Shard.okI.up v h.next) ok
set_option maxHeartbeats 4000000 in
theorem sStoreOk_turn (k : KS F) (w : SlR 16 Shard.RI h x s.shards fp) (ok : ∀ a, a ∈ s.shards → a.Ok) (i : Nat) (hi : i < s.shards.length) :
    Turn (loop F Z [1, 3] r156L0 ⟨[(3, .c (.int .i64 (i : Nat)))], [(1, 1, 0)], [(1, [.int .i64 s.group, .int .i64 s.seen, x])], h⟩)
      (loop F Z [1, 3] r156L0 ⟨[(3, .c (.int .i64 ((i + 1 : Nat) : Int)))], [(1, 1, 0)], [(1, [.int .i64 s.group, .int .i64 s.seen, x])], h⟩)
      (s.fits i) (fun s' => lk s'.env 2 = some (.c (.bool false)) ∧ s'.hp = h) := by
  have hle := w.le2
  have hlt : (i : Int) < s.shards.length := by omega
  have hws := wrapS i (by omega)
  have hxi := w.idx hi
  have hwl := w.len
  obtain ⟨r, f, hld, hR, _⟩ := w.one hi
  rw [← Shard.at_get hi] at hR
  have aok := ok _ (List.getElem_mem hi)
  rw [← Shard.at_get hi] at aok
  have hc := l13Shard_q (Z := Z) k hR aok
  have hpre : 0 < i → IntKind.i64.wrap ((i : Int) - 1) = ((i - 1 : Nat) : Int) := fun hp => by rw [wrapI _ (by omega) (by omega)]; omega
  have hpi : 0 < i → idxR 16 (some x) (some ((i - 1 : Nat) : Int)) = some (.ptr x.sid (i - 1) 0) := fun hp => w.idx (by omega)
  have hpl : 0 < i → ∃ r', (∀ j n, loadP h x.sid (i - 1) j n = cut? r' j n) ∧ ∃ f', Shard.RI h r' (Shard.at_ s.shards (i - 1)) f' := fun hp => by
    obtain ⟨r', f', h1, h2, _⟩ := w.one (show i - 1 < s.shards.length by omega)
    rw [← Shard.at_get] at h2
    exact ⟨r', h1, f', h2⟩
  have hfit : s.fits i = ((Shard.at_ s.shards i).good && (decide ((Shard.at_ s.shards i).epoch ≤ s.seen) && (i == 0 || decide ((Shard.at_ s.shards (i - 1)).hi < (Shard.at_ s.shards i).lo)))) := rfl
  obtain ⟨x1, p1, x2, p2, rfl, _⟩ := hR
  clear w ok aok
  generalize s.fits i = fa at *
  generalize (Shard.at_ s.shards i).good = gd at *
  generalize Shard.at_ s.shards (i - 1) = pa at *
  generalize Shard.at_ s.shards i = a at *
  rw [loop_run]
  conv in (codeF _ _ r156L0 _) => unfold r156L0
  simp only [run0, run1, run2, run3, run4, noSlot, ownS, ownK, memN, RO.dst, lk, drop, forget, number, Nat.reduceBEq, cut?, splice?, builds, Nat.reduceAdd, Nat.reduceLeDiff, ↓reduceIte, reduceCtorEq, qqa, qqb, qqc, qqd, qqe, qqf, qqg, qqh, qqi, qqj, qqk, qql, qqm, qqn, qqo, qqp, qqq, qqr, qqs, qqt, qqu, qqv, qqw, qqx, qqy, hwl, hlt, hxi, hld]
  cases gd with
  | false =>
    simp only [run0, run1, run2, run3, run4, noSlot, ownS, ownK, memN, RO.dst, lk, drop, forget, number, Nat.reduceBEq, cut?, splice?, builds, Nat.reduceAdd, Nat.reduceLeDiff, ↓reduceIte, reduceCtorEq, qqa, qqb, qqc, qqd, qqe, qqf, qqg, qqh, qqi, qqj, qqk, qql, qqm, qqn, qqo, qqp, qqq, qqr, qqs, qqt, qqu, qqv, qqw, qqx, qqy, hc]
    exact .inr ⟨by simp_all, _, rfl, rfl, rfl⟩
  | true =>
    by_cases hp : 0 < i
    · have g1 : (i : Int) > 0 := by omega
      have hi0 : (i == 0) = false := by simp; omega
      have q1 := hpre hp
      have q2 := hpi hp
      obtain ⟨r', q3, f', y1, y2, y3, y4, rfl, _⟩ := hpl hp
      clear hxi hpre hpi hpl hld
      simp only [run0, run1, run2, run3, run4, noSlot, ownS, ownK, memN, RO.dst, lk, drop, forget, number, Nat.reduceBEq, cut?, splice?, builds, Nat.reduceAdd, Nat.reduceLeDiff, ↓reduceIte, reduceCtorEq, qqa, qqb, qqc, qqd, qqe, qqf, qqg, qqh, qqi, qqj, qqk, qql, qqm, qqn, qqo, qqp, qqq, qqr, qqs, qqt, qqu, qqv, qqw, qqx, qqy, hws, g1, q1, q2, q3, hc]
      (repeat' ((first | (rw [gF_if]; split) | (rw [condC_if]; split) | (rw [pickR_if]; split)) <;> (rename_i hh; (try simp only [Bool.not_eq_true, decide_eq_true_eq] at hh); simp only [hh, run0, run1, run2, run3, run4, noSlot, ownS, ownK, memN, RO.dst, lk, drop, forget, number, Nat.reduceBEq, cut?, splice?, builds, Nat.reduceAdd, Nat.reduceLeDiff, ↓reduceIte, reduceCtorEq, qqa, qqb, qqc, qqd, qqe, qqf, qqg, qqh, qqi, qqj, qqk, qql, qqm, qqn, qqo, qqp, qqq, qqr, qqs, qqt, qqu, qqv, qqw, qqx, qqy, hws, g1, q1, q2, q3, hc])))
      all_goals clear q2 q3 hc
      all_goals first
        | exact .inl ⟨by simp_all <;> omega, rfl⟩
        | exact .inr ⟨by simp_all <;> omega, _, rfl, rfl, rfl⟩
    · have g1 : ¬ (i : Int) > 0 := by omega
      have hi0 : (i == 0) = true := by simp; omega
      clear hxi hpre hpi hpl hld
      simp only [run0, run1, run2, run3, run4, noSlot, ownS, ownK, memN, RO.dst, lk, drop, forget, number, Nat.reduceBEq, cut?, splice?, builds, Nat.reduceAdd, Nat.reduceLeDiff, ↓reduceIte, reduceCtorEq, qqa, qqb, qqc, qqd, qqe, qqf, qqg, qqh, qqi, qqj, qqk, qql, qqm, qqn, qqo, qqp, qqq, qqr, qqs, qqt, qqu, qqv, qqw, qqx, qqy, hws, g1, hc]
      (repeat' ((first | (rw [gF_if]; split) | (rw [condC_if]; split) | (rw [pickR_if]; split)) <;> (rename_i hh; (try simp only [Bool.not_eq_true, decide_eq_true_eq] at hh); simp only [hh, run0, run1, run2, run3, run4, noSlot, ownS, ownK, memN, RO.dst, lk, drop, forget, number, Nat.reduceBEq, cut?, splice?, builds, Nat.reduceAdd, Nat.reduceLeDiff, ↓reduceIte, reduceCtorEq, qqa, qqb, qqc, qqd, qqe, qqf, qqg, qqh, qqi, qqj, qqk, qql, qqm, qqn, qqo, qqp, qqq, qqr, qqs, qqt, qqu, qqv, qqw, qqx, qqy, hws, g1, hc])))
      all_goals clear hc
      all_goals first
        | exact .inl ⟨by simp_all <;> omega, rfl⟩
        | exact .inr ⟨by simp_all <;> omega, _, rfl, rfl, rfl⟩
set_option maxHeartbeats 4000000 in
theorem sStoreOk_run (k : KS F) (v : Store.RI h cs s fp) (ok : s.Ok) : call F Z 156 [.agg cs] h = some (.c (.bool s.good), h) := by
  obtain ⟨x, p, rfl, rfl, w⟩ := v
  have key := loop_allN (F := F) (Z := Z) (live := [1, 3]) (b := r156L0) s.shards.length (fun i => ⟨[(3, .c (.int .i64 (i : Nat)))], [(1, 1, 0)], [(1, [.int .i64 s.group, .int .i64 s.seen, x])], h⟩) s.fits (fun s' => lk s'.env 2 = some (.c (.bool false)) ∧ s'.hp = h)
    fun i hi => sStoreOk_turn k w ok.shards i hi
  have l1 := w.len
  have n1 : ¬ (s.shards.length : Int) < s.shards.length := by omega
  clear w ok
  simp only [show ((0 : Nat) : Int) = 0 from rfl] at key
  have hg := fun n lo hi => l01In_run (Z := Z) k.s01 n lo hi h
  have hgd : s.good = (inR s.group 0 99 && (inR s.seen 0 1000000 && (decide ((s.shards.length : Int) ≤ 8) && (List.range s.shards.length).all s.fits))) := rfl
  generalize s.good = sg at *
  generalize (List.range s.shards.length).all s.fits = al at *
  rw [call_run F Z (k.s13.lk (g := 156) rfl) _ _ rfl]
  simp only [run0, run1, run2, run3, run4, noSlot, ownS, ownK, memN, RO.dst, lk, drop, forget, number, Nat.reduceBEq, cut?, splice?, builds, Nat.reduceAdd, Nat.reduceLeDiff, ↓reduceIte, reduceCtorEq, qqa, qqb, qqc, qqd, qqe, qqf, qqg, qqh, qqi, qqj, qqk, qql, qqm, qqn, qqo, qqp, qqq, qqr, qqs, qqt, qqu, qqv, qqw, qqx, qqy, hg, l1]
  clear k
  (repeat' ((first | (rw [gF_if]; split) | (rw [condC_if]; split) | (rw [pickR_if]; split)) <;> (rename_i hh; (try simp only [Bool.not_eq_true, decide_eq_true_eq] at hh); simp only [hh, run0, run1, run2, run3, run4, noSlot, ownS, ownK, memN, RO.dst, lk, drop, forget, number, Nat.reduceBEq, cut?, splice?, builds, Nat.reduceAdd, Nat.reduceLeDiff, ↓reduceIte, reduceCtorEq, qqa, qqb, qqc, qqd, qqe, qqf, qqg, qqh, qqi, qqj, qqk, qql, qqm, qqn, qqo, qqp, qqq, qqr, qqs, qqt, qqu, qqv, qqw, qqx, qqy, hg, l1])))
  all_goals clear hg
  all_goals first
    | (simp_all [inR] <;> omega)
    | (rcases key with ⟨a1, a2⟩ | ⟨a1, s', a2, a3, a4⟩
       · rw [a2, loop_run]
         conv in (codeF _ _ r156L0 _) => unfold r156L0
         simp only [run0, run1, run2, run3, run4, noSlot, ownS, ownK, memN, RO.dst, lk, drop, forget, number, Nat.reduceBEq, cut?, splice?, builds, Nat.reduceAdd, Nat.reduceLeDiff, ↓reduceIte, reduceCtorEq, qqa, qqb, qqc, qqd, qqe, qqf, qqg, qqh, qqi, qqj, qqk, qql, qqm, qqn, qqo, qqp, qqq, qqr, qqs, qqt, qqu, qqv, qqw, qqx, qqy, l1, n1]
         simp_all [inR] <;> omega
       · rw [a2]
         simp only [run0, run1, run2, run3, run4, noSlot, ownS, ownK, memN, RO.dst, lk, drop, forget, number, Nat.reduceBEq, cut?, splice?, builds, Nat.reduceAdd, Nat.reduceLeDiff, ↓reduceIte, reduceCtorEq, qqa, qqb, qqc, qqd, qqe, qqf, qqg, qqh, qqi, qqj, qqk, qql, qqm, qqn, qqo, qqp, qqq, qqr, qqs, qqt, qqu, qqv, qqw, qqx, qqy, a3, a4]
         simp_all [inR] <;> omega)
variable {c : Heap}
end
end Go.Proofs.Ytgfclcpnefinoaa.A
namespace Go.Proofs.Ytgfclcpnefinoaa.A
open Go
set_option linter.unusedSimpArgs false
set_option linter.unusedVariables false
theorem push_ne {h : Heap} (r : List (List Cell)) {id : Nat} (hid : id ≠ h.next) : (h.push r).get id = h.get id := by simp only [Heap.push]; rw [if_neg hid]
theorem kill_ne {h : Heap} {k id : Nat} (hid : id ≠ k) : (h.kill k).get id = h.get id := by simp only [Heap.kill]; rw [if_neg hid]
theorem put_ne {h : Heap} {k id : Nat} (r : List (List Cell)) (hid : id ≠ k) : (h.put k r).get id = h.get id := by simp only [Heap.put]; rw [if_neg hid]
theorem kill_next (h : Heap) (k : Nat) : (h.kill k).next = h.next := rfl
structure AccM {α : Type} (R : Rel α) (tag : Nat) (h0 h : Heap) (x : Cell) (xs : List α) (fp : List Nat) : Prop where
  on : On h0 h
  sh : SlR tag R h x xs fp
  fr : Fre h0 fp
section
variable {α : Type} {R : Rel α} {tag : Nat} {h0 h g : Heap} {x : Cell} {xs : List α} {fp fq : List Nat}
theorem AccM.nil (R : Rel α) (tag : Nat) (h : Heap) : AccM R tag h h .nil [] [] := ⟨On.refl h, SlR.nil _ _ _, Fre.nil h⟩
theorem AccM.none (R : Rel α) (tag : Nat) (o : On h0 h) : AccM R tag h0 h .nil [] [] := ⟨o, SlR.nil _ _ _, Fre.nil h0⟩
theorem AccM.lit0 (R : Rel α) (tag : Nat) (o : On h0 h) : AccM R tag h0 (h.push []) (.sl tag h.next 0 0) [] [h.next] :=
  ⟨o.trans (On.push h []), ⟨by simp, .inr ⟨h.next, [], [], rfl, push_get _ _, by rw [push_next]; omega, rfl, trivial⟩⟩, Fre.at o.ext.1⟩
theorem Fre.gt (f : Fre h0 fp) : ∀ id, id < h0.next → id ∉ fp := fun id h1 h2 => by have := f.lo id h2; omega
theorem flat_snoc {fps : List (List Nat)} {fq : List Nat} : (fps ++ [fq]).flatten = fps.flatten ++ fq := by simp
theorem AccM.one (ok : RelOk R) (a : AccM R tag h0 h x xs fp) (hf : h0.floor ≤ h0.next) {bytes : Nat} (hb : (xs.length + 1) * bytes ≤ 140737488355328) (hl : xs.length + 1 ≤ 140737488355328)
    (o : On h g) {cs : List Cell} {t : α} (v : R g cs t fq) (f : Fre h0 fq) (d : ∀ id, id ∈ fq → id ∉ fp) :
    ∃ y' g' fp', appF (g.push [cs]) tag bytes x (.sl tag g.next 0 1) = some (y', g') ∧ AccM R tag h0 g' y' (xs ++ [t]) fp' ∧ h.next ≤ g'.next ∧ (∀ id, id ∈ fp' → id ∈ fp ∨ id ∈ fq ∨ g.next ≤ id) ∧ (∀ id, id < g.next → id ∉ fp → g'.get id = g.get id) := by
  have on' := a.on.trans o
  have hlt : ∀ id, id ∈ fq → id < g.next := ok.lt v
  have hp1 : ∀ id, id < g.next → (g.push [cs]).get id = g.get id := fun id hid => by simp only [Heap.push]; rw [if_neg (by omega)]
  have hn := o.ext.1
  rcases a.sh with ⟨_, ⟨rfl, rfl, rfl⟩ | ⟨id, rows, fps, rfl, q1, q2, rfl, q3⟩⟩
  · refine ⟨.sl tag (g.next + 1) 0 1, (g.push [cs]).push [cs], (g.next + 1) :: ([fq] : List (List Nat)).flatten, ?_, ⟨on'.trans ((On.push _ _).trans (On.push _ _)), ⟨by simp [maxLen], .inr ⟨g.next + 1, [cs], [fq], rfl, ?_, ?_, rfl, ?_⟩⟩, ⟨?_, ?_⟩⟩, ?_, ?_, ?_⟩
    · simp only [List.length_nil, Nat.zero_add] at hb
      simp only [appF, isTag, beq_self_eq_true, ↓reduceIte, rowsOf, push_get, Option.bind_some, List.length_singleton, Nat.zero_add, Nat.le_refl, List.drop_zero, List.take_one, List.head?_cons, Option.toList_some]
      rw [if_neg (by omega), if_pos (by omega)]; rfl
    · exact push_get _ _
    · simp only [push_next]; omega
    · refine ⟨ok.mv v (by simp only [push_next]; omega) fun id hid => ?_, trivial⟩
      have := hlt id hid
      rw [push_ne _ (by rw [push_next]; omega), push_ne _ (by omega)]
    · intro id hid
      simp only [List.flatten_cons, List.flatten_nil, List.append_nil, List.mem_cons] at hid
      rcases hid with rfl | hid
      · have := on'.ext.1; omega
      · exact f.lo id hid
    · simp only [List.flatten_cons, List.flatten_nil, List.append_nil, List.nodup_cons]
      exact ⟨fun hc => by have := hlt _ hc; omega, f.nd⟩
    · simp only [push_next]; omega
    · intro id hid
      simp only [List.flatten_cons, List.flatten_nil, List.append_nil, List.mem_cons] at hid
      rcases hid with rfl | hid
      · exact .inr (.inr (by omega))
      · exact .inr (.inl hid)
    · intro id h1 _
      rw [push_ne _ (by rw [push_next]; omega), push_ne _ (by omega)]
  · have hlo : h0.next ≤ id := a.fr.lo id (by simp)
    have hnd := List.nodup_cons.1 a.fr.nd
    have hrl := q3.len
    have hg : (g.push [cs]).get id = some rows := by rw [hp1 id (by omega), o.ext.2 id q2, q1]
    have hfl : g.floor ≤ id := by rw [on'.fl]; omega
    have hin : ∀ j, j ∈ fps.flatten → j < h.next := q3.lt ok
    have hgt : ∀ j, j < g.next → j ≠ id → (((g.push [cs]).kill id).push (rows ++ [cs])).get j = g.get j := fun j h1 h2 => by
      rw [push_ne _ (by rw [kill_next, push_next]; omega), kill_ne h2, push_ne _ (by omega)]
    refine ⟨.sl tag (g.next + 1) 0 (xs.length + 1), ((g.push [cs]).kill id).push (rows ++ [cs]), (g.next + 1) :: (fps ++ [fq]).flatten, ?_, ⟨⟨⟨?_, ?_⟩, ?_⟩, ⟨by simp [maxLen]; omega, .inr ⟨g.next + 1, rows ++ [cs], fps ++ [fq], by simp, ?_, ?_, rfl, ?_⟩⟩, ⟨?_, ?_⟩⟩, ?_, ?_, ?_⟩
    · simp only [appF, isTag, beq_self_eq_true, ↓reduceIte, rowsOf, push_get, Option.bind_some, List.length_singleton, Nat.zero_add, Nat.le_refl, List.drop_zero, List.take_one, List.head?_cons, Option.toList_some, hg]
      simp only [hrl, push_floor, hfl, hb, and_self, ↓reduceIte]; rfl
    · have := on'.ext.1
      simp only [Heap.push, Heap.kill]; omega
    · intro j hj
      have := on'.ext.1
      rw [hgt j (by omega) (by omega)]
      exact on'.ext.2 j hj
    · exact on'.fl
    · simp [Heap.push, Heap.kill]
    · simp only [Heap.push, Heap.kill]; omega
    · refine AllR.snoc (q3.mv (h' := ((g.push [cs]).kill id).push (rows ++ [cs])) ok (by simp only [Heap.push, Heap.kill]; omega) fun j hj => ?_) (ok.mv v (by simp only [Heap.push, Heap.kill]; omega) fun j hj => ?_)
      · have h1 := hin j hj
        rw [hgt j (by omega) (fun e => hnd.1 (e ▸ hj))]
        exact o.ext.2 j h1
      · exact hgt j (hlt j hj) fun e => d j hj (by rw [e]; simp)
    · intro j hj
      rw [flat_snoc] at hj
      rcases List.mem_cons.1 hj with rfl | hj
      · have := on'.ext.1; omega
      · rcases List.mem_append.1 hj with hj | hj
        · exact a.fr.lo j (by simp [hj])
        · exact f.lo j hj
    · rw [flat_snoc, List.nodup_cons]
      refine ⟨fun hc => ?_, List.nodup_append.2 ⟨hnd.2, f.nd, fun p hp q hq e => d q hq (by rw [← e]; simp [hp])⟩⟩
      rcases List.mem_append.1 hc with hc | hc
      · have := hin _ hc; omega
      · have := hlt _ hc; omega
    · simp only [Heap.push, Heap.kill]; omega
    · intro j hj
      rw [flat_snoc] at hj
      rcases List.mem_cons.1 hj with rfl | hj
      · exact .inr (.inr (by omega))
      · rcases List.mem_append.1 hj with hj | hj
        · exact .inl (by simp [hj])
        · exact .inr (.inl hj)
    · intro j h1 h2
      exact hgt j h1 fun e => h2 (by rw [e]; simp)
end
end Go.Proofs.Ytgfclcpnefinoaa.A
namespace Go.Proofs.Ytgfclcpnefinoaa.A
open Go
set_option linter.unusedSimpArgs false
set_option linter.unusedVariables false
theorem flat_set_mem {fq : List Nat} {id : Nat} : ∀ (fps : List (List Nat)) (i : Nat), id ∈ (fps.set i fq).flatten → id ∈ fps.flatten ∨ id ∈ fq
  | [], i, h => by simp at h
  | f :: r, 0, h => by
    simp only [List.set_cons_zero, List.flatten_cons, List.mem_append] at h ⊢
    rcases h with h | h
    · exact .inr h
    · exact .inl (.inr h)
  | f :: r, i + 1, h => by
    simp only [List.set_cons_succ, List.flatten_cons, List.mem_append] at h ⊢
    rcases h with h | h
    · exact .inl (.inl h)
    · rcases flat_set_mem r i h with h | h
      · exact .inl (.inr h)
      · exact .inr h
theorem flat_set_nodup {fq : List Nat} (nq : fq.Nodup) : ∀ (fps : List (List Nat)) (i : Nat) (f : List Nat), fps[i]? = some f → fps.flatten.Nodup → (∀ id, id ∈ fq → id ∈ f ∨ id ∉ fps.flatten) → (fps.set i fq).flatten.Nodup
  | [], i, f, h, _, _ => by simp at h
  | g :: r, 0, f, h, nd, hd => by
    simp only [List.getElem?_cons_zero, Option.some.injEq] at h
    subst h
    simp only [List.set_cons_zero, List.flatten_cons] at nd ⊢
    obtain ⟨n1, n2, n3⟩ := List.nodup_append.1 nd
    refine List.nodup_append.2 ⟨nq, n2, fun a ha b hb e => ?_⟩
    subst e
    rcases hd a ha with h | h
    · exact n3 a h a hb rfl
    · exact h (by rw [List.flatten_cons, List.mem_append]; exact .inr hb)
  | g :: r, i + 1, f, h, nd, hd => by
    simp only [List.getElem?_cons_succ] at h
    simp only [List.set_cons_succ, List.flatten_cons] at nd ⊢
    obtain ⟨n1, n2, n3⟩ := List.nodup_append.1 nd
    refine List.nodup_append.2 ⟨n1, flat_set_nodup nq r i f h n2 fun id hid => ?_, fun a ha b hb e => ?_⟩
    · rcases hd id hid with h | h
      · exact .inl h
      · exact .inr fun hc => h (by rw [List.flatten_cons, List.mem_append]; exact .inr hc)
    · subst e
      rcases flat_set_mem r i hb with hb | hb
      · exact n3 a ha a hb rfl
      · rcases hd a hb with h' | h'
        · exact n3 a ha a (List.mem_flatten.2 ⟨f, List.mem_of_getElem? h, h'⟩) rfl
        · exact h' (by rw [List.flatten_cons, List.mem_append]; exact .inl ha)
section
variable {α : Type} {R : Rel α} {tag : Nat} {h0 h g : Heap} {x : Cell} {xs : List α} {fp fq : List Nat}
theorem AllR.set {r : List Cell} {t : α} (w1 : R h r t fq) : ∀ {rows : List (List Cell)} {xs : List α} {fps : List (List Nat)}, AllR R h rows xs fps → ∀ (i : Nat), AllR R h (rows.set i r) (xs.set i t) (fps.set i fq)
  | [], [], [], _, _ => trivial
  | _ :: _, _ :: _, _ :: _, ⟨_, w⟩, 0 => ⟨w1, w⟩
  | _ :: _, _ :: _, _ :: _, ⟨w0, w⟩, i + 1 => ⟨w0, AllR.set w1 w i⟩
  | [], [], _ :: _, w, _ => w.elim
  | [], _ :: _, _, w, _ => w.elim
  | _ :: _, [], _, w, _ => w.elim
  | _ :: _, _ :: _, [], w, _ => w.elim
theorem AllR.turn (ok : RelOk R) {h' : Heap} (hn : h.next ≤ h'.next) {r' : List Cell} {t' : α} : ∀ {rows : List (List Cell)} {xs : List α} {fps : List (List Nat)}, AllR R h rows xs fps → ∀ (i : Nat) (f : List Nat), fps[i]? = some f → fps.flatten.Nodup →
    (∀ id, id ∈ fps.flatten → id ∉ f → h'.get id = h.get id) → R h' r' t' f → AllR R h' (rows.set i r') (xs.set i t') fps
  | [], [], [], _, i, f, e, _, _, _ => by simp at e
  | r :: rs, a :: bs, g :: gs, ⟨w0, w⟩, 0, f, e, nd, hg, v => by
    simp only [List.getElem?_cons_zero, Option.some.injEq] at e
    subst e
    rw [List.flatten_cons] at nd
    obtain ⟨n1, n2, n3⟩ := List.nodup_append.1 nd
    exact ⟨v, w.mv ok hn fun id hid => hg id (by rw [List.flatten_cons, List.mem_append]; exact .inr hid) fun hf => n3 id hf id hid rfl⟩
  | r :: rs, a :: bs, g :: gs, ⟨w0, w⟩, i + 1, f, e, nd, hg, v => by
    simp only [List.getElem?_cons_succ] at e
    rw [List.flatten_cons] at nd
    obtain ⟨n1, n2, n3⟩ := List.nodup_append.1 nd
    exact ⟨ok.mv w0 hn fun id hid => hg id (by rw [List.flatten_cons, List.mem_append]; exact .inl hid) fun hf => n3 id hid id (List.mem_flatten.2 ⟨f, List.mem_of_getElem? e, hf⟩) rfl,
      AllR.turn ok hn w i f e n2 (fun id hid hf => hg id (by rw [List.flatten_cons, List.mem_append]; exact .inr hid) hf) v⟩
  | [], [], _ :: _, w, _, _, _, _, _, _ => w.elim
  | [], _ :: _, _, w, _, _, _, _, _, _ => w.elim
  | _ :: _, [], _, w, _, _, _, _, _, _ => w.elim
  | _ :: _, _ :: _, [], w, _, _, _, _, _, _ => w.elim
theorem flat_at_nodup {f : List Nat} : ∀ (fps : List (List Nat)) (i : Nat), fps[i]? = some f → fps.flatten.Nodup → f.Nodup
  | [], i, h, _ => by simp at h
  | g :: r, i, h, nd => by
    rw [List.flatten_cons] at nd
    obtain ⟨n1, n2, _⟩ := List.nodup_append.1 nd
    cases i with
    | zero => simp only [List.getElem?_cons_zero, Option.some.injEq] at h; exact h ▸ n1
    | succ i => exact flat_at_nodup r i (by simpa using h) n2
theorem SlR.turn (ok : RelOk R) (w : SlR tag R h x xs fp) (nd : fp.Nodup) {i : Nat} (hi : i < xs.length) :
    ∃ r f, ∃ rows : List (List Cell), R h r xs[i] f ∧ (∀ id, id ∈ f → id ∈ fp) ∧ f.Nodup ∧ x.sid ∈ fp ∧ x.sid ∉ f ∧ x.sid < h.next ∧ h.get x.sid = some rows ∧ rows[i]? = some r ∧ i < rows.length ∧
      ∀ h' r' t', h.next ≤ h'.next → (∀ id, id ∈ fp → id ≠ x.sid → id ∉ f → h'.get id = h.get id) → h'.get x.sid = some (rows.set i r') → R h' r' t' f → SlR tag R h' x (xs.set i t') fp := by
  rcases w with ⟨hl, ⟨rfl, rfl, rfl⟩ | ⟨id, rows, fps, rfl, q1, q2, rfl, q3⟩⟩
  · exact absurd hi (Nat.not_lt_zero _)
  obtain ⟨r, f, e1, e2, v⟩ := q3.at i hi
  have hn := List.nodup_cons.1 nd
  have hin : ∀ j, j ∈ f → j ∈ fps.flatten := fun j hj => List.mem_flatten.2 ⟨f, List.mem_of_getElem? e2, hj⟩
  refine ⟨r, f, rows, v, fun j hj => List.mem_cons_of_mem _ (hin j hj), flat_at_nodup fps i e2 hn.2, by simp [Cell.sid], fun hc => hn.1 (hin _ hc), q2, q1, e1, by rw [q3.len]; exact hi, fun h' r' t' hn' hg hg' v' => ?_⟩
  refine ⟨by simpa using hl, .inr ⟨id, rows.set i r', fps, by simp, hg', Nat.lt_of_lt_of_le q2 hn', rfl, ?_⟩⟩
  exact q3.turn ok hn' i f e2 hn.2 (fun j hj hf => hg j (List.mem_cons_of_mem _ hj) (fun e => hn.1 (by simp only [Cell.sid] at e; exact e ▸ hj)) hf) v'
theorem loadP_row {h : Heap} {id i : Nat} {rows : List (List Cell)} {r : List Cell} (hg : h.get id = some rows) (hi : rows[i]? = some r) (j n : Nat) : loadP h id i j n = cut? r j n := by simp [loadP, rowOf, hg, hi]
theorem loadP_put {h : Heap} {id i : Nat} {rows : List (List Cell)} (hi : i < rows.length) (r : List Cell) (j n : Nat) : loadP (h.put id (rows.set i r)) id i j n = cut? r j n := loadP_row (rows := rows.set i r) (by simp [Heap.put]) (List.getElem?_set_self hi) j n
theorem put_row {h : Heap} {id i : Nat} {rows : List (List Cell)} {r : List Cell} (hg : h.get id = some rows) (hi : rows[i]? = some r) : h.put id (rows.set i r) = h := by
  have : rows.set i r = rows := by
    apply List.ext_getElem?
    intro j
    by_cases e : i = j
    · subst e
      have hlt : i < rows.length := by
        rcases Nat.lt_or_ge i rows.length with hlt | hge
        · exact hlt
        · rw [List.getElem?_eq_none hge] at hi; cases hi
      rw [List.getElem?_set_self hlt, hi]
    · rw [List.getElem?_set_ne e]
  rw [this]; exact put_same hg
end
end Go.Proofs.Ytgfclcpnefinoaa.A
namespace Go.Proofs.Ytgfclcpnefinoaa.A
open Go
set_option linter.unusedSimpArgs false
set_option linter.unusedVariables false
section
variable {F : Nat → Option RF} {Z : CallF} {live : List Nat} {b : RC}
end
section
variable {α : Type} {R : Rel α} {tag : Nat} {h0 h g : Heap} {x : Cell} {xs ys : List α} {fp fq : List Nat}
theorem AllR.app : ∀ {r1 r2 : List (List Cell)} {xs ys : List α} {f1 f2 : List (List Nat)}, AllR R h r1 xs f1 → AllR R h r2 ys f2 → AllR R h (r1 ++ r2) (xs ++ ys) (f1 ++ f2)
  | [], _, [], _, [], _, _, w => w
  | _ :: _, _, _ :: _, _, _ :: _, _, ⟨w1, w⟩, u => ⟨w1, AllR.app w u⟩
  | [], _, [], _, _ :: _, _, w, _ => w.elim
  | [], _, _ :: _, _, _, _, w, _ => w.elim
  | _ :: _, _, [], _, _, _, w, _ => w.elim
  | _ :: _, _, _ :: _, _, [], _, w, _ => w.elim
end
end Go.Proofs.Ytgfclcpnefinoaa.A
namespace Go.Proofs.Ytgfclcpnefinoaa.A
open Go
set_option linter.unusedSimpArgs false
set_option linter.unusedVariables false
section
variable {α : Type} {R : Rel α} {tag : Nat} {h0 h g : Heap} {x : Cell} {xs : List α} {fp fq : List Nat}
theorem On.turned (o : On h0 h) (m : Mk h g fp) (f : Fre h0 fp) : On h0 g :=
  ⟨⟨by rw [m.next]; exact o.ext.1, fun id hid => by rw [m.get id (f.gt id hid)]; exact o.ext.2 id hid⟩, m.fl.trans o.fl⟩
theorem Fre.own (f : Fre h0 fp) (o : On h0 h) (hf : h0.floor ≤ h0.next) : ∀ id, id ∈ fp → h.floor ≤ id := fun id hid => by
  rw [o.fl]; exact Nat.le_trans hf (f.lo id hid)
theorem Mk.then {a b c : Heap} (m : Mk a b fp) (n : Mk b c fp) : Mk a c fp := ⟨n.next.trans m.next, n.fl.trans m.fl, fun id hid => (n.get id hid).trans (m.get id hid)⟩
theorem SlR.putRow (ok : RelOk R) (w : SlR tag R h x xs fp) (nd : fp.Nodup) (hfl : ∀ id, id ∈ fp → h.floor ≤ id) {i : Nat} (hi : i < xs.length) :
    ∃ r f, ∃ rows : List (List Cell), R h r xs[i] f ∧ x.sid ∈ fp ∧ (∀ j n, loadP h x.sid i j n = cut? r j n) ∧ h.put x.sid (rows.set i r) = h ∧
      (∀ r1 j new, storeP (h.put x.sid (rows.set i r1)) x.sid i j new = putM h x.sid rows i (splice? r1 j new)) ∧ (∀ r1 j n, loadP (h.put x.sid (rows.set i r1)) x.sid i j n = cut? r1 j n) ∧
      ∀ r' t', R h r' t' f → SlR tag R (h.put x.sid (rows.set i r')) x (xs.set i t') fp ∧ Mk h (h.put x.sid (rows.set i r')) fp := by
  obtain ⟨r, f, rows, hR, hin, nf, hs, hns, hsl, hg, hr, hir, fin⟩ := w.turn ok nd hi
  refine ⟨r, f, rows, hR, hs, loadP_row hg hr, put_row hg hr, fun r1 j new => storeP_put (hfl _ hs) hir r1 new j, fun r1 j n => loadP_put hir r1 j n, fun r' t' v => ⟨?_, rfl, rfl, fun id hid => put_ne _ fun e => hid (e ▸ hs)⟩⟩
  exact fin _ r' t' (Nat.le_refl _) (fun id _ h2 _ => put_ne _ h2) (by simp [Heap.put]) (ok.mv v (Nat.le_refl _) fun id hid => put_ne _ fun e => hns (e ▸ hid))
end
end Go.Proofs.Ytgfclcpnefinoaa.A
namespace Go.Proofs.Ytgfclcpnefinoaa.A
open Go
set_option linter.unusedSimpArgs false
set_option linter.unusedVariables false
theorem findI_at {α : Type} {p : α → Bool} {xs : List α} (h : 0 ≤ findI p xs) : ∃ i : Nat, findI p xs = (i : Int) ∧ ∃ hi : i < xs.length, p xs[i] = true := by
  unfold findI at h ⊢
  split at h
  · rename_i i hi
    rw [List.findIdx?_eq_some_iff_getElem] at hi
    obtain ⟨h1, h2, _⟩ := hi
    exact ⟨i, rfl, h1, h2⟩
  · omega
theorem findI_no {α : Type} {p : α → Bool} {xs : List α} (h : findI p xs < 0) : findI p xs = -1 := by
  unfold findI at h ⊢
  split at h
  · omega
  · rfl
theorem mix_set {α : Type} (f : α → α) (xs : List α) {i : Nat} (hi : i < xs.length) : ((xs.take i).map f ++ xs.drop i).set i (f xs[i]) = (xs.take (i + 1)).map f ++ xs.drop (i + 1) := by
  rw [List.set_append_right _ _ (by simp; omega), show i - ((xs.take i).map f).length = 0 from by simp; omega, List.drop_eq_getElem_cons hi, List.set_cons_zero,
    show xs.take (i + 1) = xs.take i ++ [xs[i]] from by rw [List.take_add_one, List.getElem?_eq_getElem hi]; rfl, List.map_append, List.append_assoc]
  rfl
theorem mix_at {α : Type} (f : α → α) (xs : List α) {i : Nat} (hi : i < xs.length) (h : i < ((xs.take i).map f ++ xs.drop i).length) : ((xs.take i).map f ++ xs.drop i)[i] = xs[i] := by
  rw [List.getElem_append_right (by simp; omega)]
  simp
  congr 1
  omega
theorem set_same {α : Type} (xs : List α) {i : Nat} (hi : i < xs.length) : xs.set i xs[i] = xs := by
  apply List.ext_getElem?
  intro j
  by_cases e : i = j
  · subst e; rw [List.getElem?_set_self hi, List.getElem?_eq_getElem hi]
  · rw [List.getElem?_set_ne e]
section
variable {α : Type} {R : Rel α} {tag : Nat} {h0 h g : Heap} {x y : Cell} {xs ys : List α} {fp fq : List Nat}
end
end Go.Proofs.Ytgfclcpnefinoaa.A
namespace Go.Proofs.Ytgfclcpnefinoaa.A
open Go
set_option linter.unusedSimpArgs false
set_option linter.unusedVariables false
def findAt (xs : List Shard) (lo st : Int) : Int := findI (fun t => (t.lo == lo) && (t.state == st)) xs
section
variable {F : Nat → Option RF} {Z : CallF} {h : Heap} {x : Cell} {xs : List Shard} {fp : List Nat} {cs : List Cell} {s : Store}
theorem indexShard_run (hL : Has F tLibslicesIndexFuncimplShardimplShard) (w : SlR 16 Shard.RI h x xs fp) (f : Nat) (ps : List (Nat × Nat × Nat)) (p : Shard → Bool)
    (hc : ∀ r t q, Shard.RI h r t q → call F Z f (.agg r :: capV ps) h = some (.c (.bool (p t)), h)) : call F Z 248 [.c x, .c (.fn f ps)] h = some (.c (.int .i64 (findI p xs)), h) := by
  have hle := w.le2
  rw [call_run F Z (hL.lk (g := 248) rfl) _ _ rfl]
  simp only [run0, run1, run2, run3, run4, noSlot, ownS, ownK, memN, RO.dst, lk, drop, forget, number, Nat.reduceBEq, cut?, splice?, builds, Nat.reduceAdd, Nat.reduceLeDiff, ↓reduceIte, reduceCtorEq, qqa, qqb, qqc, qqd, qqe, qqf, qqg, qqh, qqi, qqj, qqk, qql, qqm, qqn, qqo, qqp, qqq, qqr, qqs, qqt, qqu, qqv, qqw, qqx, qqy, w.len]
  have key := loop_find (F := F) (Z := Z) (live := [0, 1, 7, 8]) (b := r248L0) xs p (fun i => ⟨[(0, .c x), (1, .c (.fn f ps)), (7, .c (.int .i64 (xs.length : Nat))), (8, .c (.int .i64 (i : Nat)))], [], [], h⟩) (fun i s => lk s.env 4 = some (.c (.int .i64 (i : Nat))) ∧ s.hp = h) fun i hi => by
    have hlt : (i : Int) < xs.length := by omega
    have hws := wrapS i (by omega)
    obtain ⟨r, q, hld, hR, _⟩ := w.one hi
    have hci := hc _ _ _ hR
    obtain ⟨r1, r2, r3⟩ := Shard.lenI hR
    have hxi := w.idx hi
    clear w hR
    rw [loop_run]
    conv in (codeF _ _ r248L0 _) => unfold r248L0
    simp only [run0, run1, run2, run3, run4, noSlot, ownS, ownK, memN, RO.dst, lk, drop, forget, number, Nat.reduceBEq, cut?, splice?, builds, Nat.reduceAdd, Nat.reduceLeDiff, ↓reduceIte, reduceCtorEq, qqa, qqb, qqc, qqd, qqe, qqf, qqg, qqh, qqi, qqj, qqk, qql, qqm, qqn, qqo, qqp, qqq, qqr, qqs, qqt, qqu, qqv, qqw, qqx, qqy, hlt, hxi, hld, r1, r2, r3]
    simp only [hci, run0, run1, run2, run3, run4, noSlot, ownS, ownK, memN, RO.dst, lk, drop, forget, number, Nat.reduceBEq, cut?, splice?, builds, Nat.reduceAdd, Nat.reduceLeDiff, ↓reduceIte, reduceCtorEq, qqa, qqb, qqc, qqd, qqe, qqf, qqg, qqh, qqi, qqj, qqk, qql, qqm, qqn, qqo, qqp, qqq, qqr, qqs, qqt, qqu, qqv, qqw, qqx, qqy]
    (repeat' ((first | (rw [gF_if]; split) | (rw [condC_if]; split) | (rw [pickR_if]; split)) <;> (rename_i hh; (try simp only [Bool.not_eq_true, decide_eq_true_eq] at hh); simp only [hh, run0, run1, run2, run3, run4, noSlot, ownS, ownK, memN, RO.dst, lk, drop, forget, number, Nat.reduceBEq, cut?, splice?, builds, Nat.reduceAdd, Nat.reduceLeDiff, ↓reduceIte, reduceCtorEq, qqa, qqb, qqc, qqd, qqe, qqf, qqg, qqh, qqi, qqj, qqk, qql, qqm, qqn, qqo, qqp, qqq, qqr, qqs, qqt, qqu, qqv, qqw, qqx, qqy, hws]))) <;> first
      | exact .inl ⟨by simp_all, rfl⟩
      | exact .inr ⟨by simp_all, _, rfl, rfl, rfl⟩
  have hlt : ¬ (xs.length : Int) < xs.length := by omega
  simp only [show ((0 : Nat) : Int) = 0 from rfl] at key
  rcases key with ⟨k1, k2⟩ | ⟨i, k1, hi, s, k2, k3, k4⟩
  · rw [k2, loop_run]
    conv in (codeF _ _ r248L0 _) => unfold r248L0
    simp only [run0, run1, run2, run3, run4, noSlot, ownS, ownK, memN, RO.dst, lk, drop, forget, number, Nat.reduceBEq, cut?, splice?, builds, Nat.reduceAdd, Nat.reduceLeDiff, ↓reduceIte, reduceCtorEq, qqa, qqb, qqc, qqd, qqe, qqf, qqg, qqh, qqi, qqj, qqk, qql, qqm, qqn, qqo, qqp, qqq, qqr, qqs, qqt, qqu, qqv, qqw, qqx, qqy, hlt, findI, k1]
  · rw [k2]
    simp only [run0, run1, run2, run3, run4, noSlot, ownS, ownK, memN, RO.dst, lk, drop, forget, number, Nat.reduceBEq, cut?, splice?, builds, Nat.reduceAdd, Nat.reduceLeDiff, ↓reduceIte, reduceCtorEq, qqa, qqb, qqc, qqd, qqe, qqf, qqg, qqh, qqi, qqj, qqk, qql, qqm, qqn, qqo, qqp, qqq, qqr, qqs, qqt, qqu, qqv, qqw, qqx, qqy, k3, k4, findI, k1]
theorem shardAt_run (hI13 : Has F tI13) (hL : Has F tLibslicesIndexFuncimplShardimplShard) (v : Store.RI h cs s fp) (lo st : Int) :
    call F Z 213 [.agg cs, .c (.int .u64 lo), .c (.int .i64 st)] h = some (.c (.int .i64 (findAt s.shards lo st)), (h.push [[.int .u64 lo]]).push [[.int .i64 st]]) := by
  obtain ⟨x, p, rfl, rfl, w⟩ := v
  have w' := (w.on Shard.okI (On.push h [[.int .u64 lo]])).on Shard.okI (On.push _ [[.int .i64 st]])
  have hr := indexShard_run (Z := Z) hL w' 249 [(h.next, 0, 0), (h.next + 1, 0, 0)] (fun t => (t.lo == lo) && (t.state == st)) fun r t q hR => by
    obtain ⟨x1, p1, x2, p2, rfl, _⟩ := hR
    have hl : loadP ((h.push [[.int .u64 lo]]).push [[.int .i64 st]]) h.next 0 0 1 = some [.int .u64 lo] := by
      simp [loadP, rowOf, Heap.push, cut?]
    have hl2 : loadP ((h.push [[.int .u64 lo]]).push [[.int .i64 st]]) (h.next + 1) 0 0 1 = some [.int .i64 st] := by
      simp [loadP, rowOf, Heap.push, cut?]
    simp only [run0, run1, run2, run3, run4, noSlot, ownS, ownK, memN, RO.dst, lk, drop, forget, number, Nat.reduceBEq, cut?, splice?, builds, Nat.reduceAdd, Nat.reduceLeDiff, ↓reduceIte, reduceCtorEq, qqa, qqb, qqc, qqd, qqe, qqf, qqg, qqh, qqi, qqj, qqk, qql, qqm, qqn, qqo, qqp, qqq, qqr, qqs, qqt, qqu, qqv, qqw, qqx, qqy, capV_cons]
    rw [call_run F Z (hI13.lk (g := 249) rfl) _ _ rfl]
    simp only [run0, run1, run2, run3, run4, noSlot, ownS, ownK, memN, RO.dst, lk, drop, forget, number, Nat.reduceBEq, cut?, splice?, builds, Nat.reduceAdd, Nat.reduceLeDiff, ↓reduceIte, reduceCtorEq, qqa, qqb, qqc, qqd, qqe, qqf, qqg, qqh, qqi, qqj, qqk, qql, qqm, qqn, qqo, qqp, qqq, qqr, qqs, qqt, qqu, qqv, qqw, qqx, qqy, hl, hl2]
    (repeat' ((first | (rw [gF_if]; split) | (rw [condC_if]; split) | (rw [pickR_if]; split)) <;> (rename_i hh; (try simp only [Bool.not_eq_true, decide_eq_true_eq] at hh); simp only [hh, run0, run1, run2, run3, run4, noSlot, ownS, ownK, memN, RO.dst, lk, drop, forget, number, Nat.reduceBEq, cut?, splice?, builds, Nat.reduceAdd, Nat.reduceLeDiff, ↓reduceIte, reduceCtorEq, qqa, qqb, qqc, qqd, qqe, qqf, qqg, qqh, qqi, qqj, qqk, qql, qqm, qqn, qqo, qqp, qqq, qqr, qqs, qqt, qqu, qqv, qqw, qqx, qqy, hl, hl2]))) <;> simp_all
  rw [call_run F Z (hI13.lk (g := 213) rfl) _ _ rfl]
  simp only [run0, run1, run2, run3, run4, noSlot, ownS, ownK, memN, RO.dst, lk, drop, forget, number, Nat.reduceBEq, cut?, splice?, builds, Nat.reduceAdd, Nat.reduceLeDiff, ↓reduceIte, reduceCtorEq, qqa, qqb, qqc, qqd, qqe, qqf, qqg, qqh, qqi, qqj, qqk, qql, qqm, qqn, qqo, qqp, qqq, qqr, qqs, qqt, qqu, qqv, qqw, qqx, qqy, push_next, hr, evPtrs]
  rfl
theorem shardAt_on (hI13 : Has F tI13) (hL : Has F tLibslicesIndexFuncimplShardimplShard) (v : Store.RI h cs s fp) (lo st : Int) :
    ∃ h', call F Z 213 [.agg cs, .c (.int .u64 lo), .c (.int .i64 st)] h = some (.c (.int .i64 (findAt s.shards lo st)), h') ∧ On h h' := ⟨_, shardAt_run hI13 hL v lo st, (On.push _ _).trans (On.push _ _)⟩
theorem l13At_run (hS13 : Has F tS13) (v : Store.RI h cs s fp) (lo st : Int) : call F Z 210 [.agg cs, .c (.int .u64 lo), .c (.int .i64 st)] h = some (.c (.int .i64 (findAt s.shards lo st)), h) := by
  obtain ⟨x, p, rfl, rfl, w⟩ := v
  have hle := w.le2
  have hwl := w.len
  rw [call_run F Z (hS13.lk (g := 210) rfl) _ _ rfl]
  simp only [run0, run1, run2, run3, run4, noSlot, ownS, ownK, memN, RO.dst, lk, drop, forget, number, Nat.reduceBEq, cut?, splice?, builds, Nat.reduceAdd, Nat.reduceLeDiff, ↓reduceIte, reduceCtorEq, qqa, qqb, qqc, qqd, qqe, qqf, qqg, qqh, qqi, qqj, qqk, qql, qqm, qqn, qqo, qqp, qqq, qqr, qqs, qqt, qqu, qqv, qqw, qqx, qqy]
  have key := loop_find (F := F) (Z := Z) (live := [1, 2, 3, 7]) (b := r210L0) s.shards (fun t => (t.lo == lo) && (t.state == st)) (fun i => ⟨[(1, .c (.int .u64 lo)), (2, .c (.int .i64 st)), (7, .c (.int .i64 (i : Nat)))], [(3, 3, 0)], [(3, [.int .i64 s.group, .int .i64 s.seen, x])], h⟩) (fun i s => lk s.env 6 = some (.c (.int .i64 (i : Nat))) ∧ s.hp = h) fun i hi => by
    have hlt : (i : Int) < s.shards.length := by omega
    have hws := wrapS i (by omega)
    obtain ⟨r, q, hld, hR, _⟩ := w.one hi
    obtain ⟨x1, p1, x2, p2, rfl, _⟩ := hR
    have hxi := w.idx hi
    clear w
    rw [loop_run]
    conv in (codeF _ _ r210L0 _) => unfold r210L0
    simp only [run0, run1, run2, run3, run4, noSlot, ownS, ownK, memN, RO.dst, lk, drop, forget, number, Nat.reduceBEq, cut?, splice?, builds, Nat.reduceAdd, Nat.reduceLeDiff, ↓reduceIte, reduceCtorEq, qqa, qqb, qqc, qqd, qqe, qqf, qqg, qqh, qqi, qqj, qqk, qql, qqm, qqn, qqo, qqp, qqq, qqr, qqs, qqt, qqu, qqv, qqw, qqx, qqy, hwl, hlt, hxi, hld]
    (repeat' ((first | (rw [gF_if]; split) | (rw [condC_if]; split) | (rw [pickR_if]; split)) <;> (rename_i hh; (try simp only [Bool.not_eq_true, decide_eq_true_eq] at hh); simp only [hh, run0, run1, run2, run3, run4, noSlot, ownS, ownK, memN, RO.dst, lk, drop, forget, number, Nat.reduceBEq, cut?, splice?, builds, Nat.reduceAdd, Nat.reduceLeDiff, ↓reduceIte, reduceCtorEq, qqa, qqb, qqc, qqd, qqe, qqf, qqg, qqh, qqi, qqj, qqk, qql, qqm, qqn, qqo, qqp, qqq, qqr, qqs, qqt, qqu, qqv, qqw, qqx, qqy, hws, hxi, hld]))) <;> first
      | exact .inl ⟨by simp_all, rfl⟩
      | exact .inr ⟨by simp_all, _, rfl, rfl, rfl⟩
  have hlt : ¬ (s.shards.length : Int) < s.shards.length := by omega
  simp only [show ((0 : Nat) : Int) = 0 from rfl] at key
  rcases key with ⟨k1, k2⟩ | ⟨i, k1, hi, s, k2, k3, k4⟩
  · rw [k2, loop_run]
    conv in (codeF _ _ r210L0 _) => unfold r210L0
    simp only [run0, run1, run2, run3, run4, noSlot, ownS, ownK, memN, RO.dst, lk, drop, forget, number, Nat.reduceBEq, cut?, splice?, builds, Nat.reduceAdd, Nat.reduceLeDiff, ↓reduceIte, reduceCtorEq, qqa, qqb, qqc, qqd, qqe, qqf, qqg, qqh, qqi, qqj, qqk, qql, qqm, qqn, qqo, qqp, qqq, qqr, qqs, qqt, qqu, qqv, qqw, qqx, qqy, hwl, hlt, findAt, findI, k1]
  · rw [k2]
    simp only [run0, run1, run2, run3, run4, noSlot, ownS, ownK, memN, RO.dst, lk, drop, forget, number, Nat.reduceBEq, cut?, splice?, builds, Nat.reduceAdd, Nat.reduceLeDiff, ↓reduceIte, reduceCtorEq, qqa, qqb, qqc, qqd, qqe, qqf, qqg, qqh, qqi, qqj, qqk, qql, qqm, qqn, qqo, qqp, qqq, qqr, qqs, qqt, qqu, qqv, qqw, qqx, qqy, k3, k4, findAt, findI, k1]
end
end Go.Proofs.Ytgfclcpnefinoaa.A
namespace Go.Proofs.Ytgfclcpnefinoaa.A
open Go
set_option linter.unusedSimpArgs false
set_option linter.unusedVariables false
theorem flatMap_one {α β : Type} (g : α → β) (xs : List α) : xs.flatMap (fun r => [g r]) = xs.map g := by
  induction xs with
  | nil => rfl
  | cons a r ih => rw [List.flatMap_cons, ih]; rfl
section
variable {F : Nat → Option RF} {Z : CallF} {h : Heap} {x : Cell} {xs : List Account} {fp fq : List Nat}
theorem copyBook_c (hI10 : Has F tI10) (hf : h.floor ≤ h.next) (w : SlR 11 (Fl Account.enc) h x xs fp) (sm : xs.length ≤ 1048576) : ∃ y h' fq, call F Z 260 [.agg [x]] h = some (.agg [y], h') ∧ On h h' ∧ SlR 11 (Fl Account.enc) h' y xs fq ∧ Fre h fq := by
  have a0 := Acc.lit0 (tag := 11) (On.refl h)
  have w' := w.on (Fl.ok _) (On.push h [])
  have ce := a0.cat_eq (bytes := 40) (y := x) (new := xs.map Account.enc) hf w'.isTag w'.rows (by simp; omega)
  have ac := a0.cat (new := xs.map Account.enc) hf (by simp; omega)
  simp only [List.nil_append] at ac
  obtain ⟨o, fq, u, f⟩ := ac.flat
  rw [call_run F Z (hI10.lk (g := 260) rfl) _ _ rfl]
  simp only [run0, run1, run2, run3, run4, noSlot, ownS, ownK, memN, RO.dst, lk, drop, forget, number, Nat.reduceBEq, cut?, splice?, builds, Nat.reduceAdd, Nat.reduceLeDiff, ↓reduceIte, reduceCtorEq, qqa, qqb, qqc, qqd, qqe, qqf, qqg, qqh, qqi, qqj, qqk, qql, qqm, qqn, qqo, qqp, qqq, qqr, qqs, qqt, qqu, qqv, qqw, qqx, qqy, List.replicate_zero, fills, ce]
  exact ⟨_, _, _, rfl, o, u, f⟩
theorem l10Copy_c (hS10 : Has F tS10) (hf : h.floor ≤ h.next) (w : SlR 11 (Fl Account.enc) h x xs fp) (sm : xs.length ≤ 1048576) : ∃ y h' fq, call F Z 259 [.agg [x]] h = some (.agg [y], h') ∧ On h h' ∧ SlR 11 (Fl Account.enc) h' y xs fq ∧ Fre h fq := by
  rw [call_run F Z (hS10.lk (g := 259) rfl) _ _ rfl]
  simp only [run0, run1, run2, run3, run4, noSlot, ownS, ownK, memN, RO.dst, lk, drop, forget, number, Nat.reduceBEq, cut?, splice?, builds, Nat.reduceAdd, Nat.reduceLeDiff, ↓reduceIte, reduceCtorEq, qqa, qqb, qqc, qqd, qqe, qqf, qqg, qqh, qqi, qqj, qqk, qql, qqm, qqn, qqo, qqp, qqq, qqr, qqs, qqt, qqu, qqv, qqw, qqx, qqy]
  obtain ⟨y1, h1, a1, l1⟩ := loop_acc (F := F) (Z := Z) (live := [1, 2, 3, 4]) (b := r259L0) xs (fun r => [r.enc]) 11 h (fun i y g => ⟨[(4, .c (.int .i64 (i : Nat)))], [(1, 1, 0), (2, 2, 0), (3, 3, 0)], [(1, [x]), (2, [.nil]), (3, [y])], g⟩) (fun r => by simp) (fun i hi y g rows a hr => by
    have e1 := a.one_eq hf (bytes := 40) (by omega)
    have a1 := a.one hf (by omega)
    have hlt : (i : Int) < xs.length := by omega
    have wg := w.on (Fl.ok _) a.on
    rw [loop_run]
    conv in (codeF _ _ r259L0 _) => unfold r259L0
    simp only [run0, run1, run2, run3, run4, noSlot, ownS, ownK, memN, RO.dst, lk, drop, forget, number, Nat.reduceBEq, cut?, splice?, builds, Nat.reduceAdd, Nat.reduceLeDiff, ↓reduceIte, reduceCtorEq, qqa, qqb, qqc, qqd, qqe, qqf, qqg, qqh, qqi, qqj, qqk, qql, qqm, qqn, qqo, qqp, qqq, qqr, qqs, qqt, qqu, qqv, qqw, qqx, qqy, w.len, hlt, w.idx hi, wg.load hi, Account.len, Account.tak, wrapS i (by omega), List.replicate_succ, List.replicate_zero, fills, and_self, Nat.zero_lt_one, List.set_cons_zero, e1]
    exact ⟨_, _, a1 _, rfl⟩) (Acc.nil 11 h)
  simp only [show ((0 : Nat) : Int) = 0 from rfl] at l1
  have hlt : ¬ (xs.length : Int) < xs.length := by omega
  rw [l1, loop_run]
  conv in (codeF _ _ r259L0 _) => unfold r259L0
  simp only [run0, run1, run2, run3, run4, noSlot, ownS, ownK, memN, RO.dst, lk, drop, forget, number, Nat.reduceBEq, cut?, splice?, builds, Nat.reduceAdd, Nat.reduceLeDiff, ↓reduceIte, reduceCtorEq, qqa, qqb, qqc, qqd, qqe, qqf, qqg, qqh, qqi, qqj, qqk, qql, qqm, qqn, qqo, qqp, qqq, qqr, qqs, qqt, qqu, qqv, qqw, qqx, qqy, w.len, hlt]
  rw [flatMap_one] at a1
  obtain ⟨o, fq, u, f⟩ := a1.flat
  exact ⟨_, _, _, rfl, o, u, f⟩
end
end Go.Proofs.Ytgfclcpnefinoaa.A
namespace Go.Proofs.Ytgfclcpnefinoaa.A
open Go
set_option linter.unusedSimpArgs false
set_option linter.unusedVariables false
def Shard.cells (t : Shard) (x y : Cell) : List Cell := [.int .u64 t.lo, .int .u64 t.hi, .int .i64 t.state, .int .i64 t.epoch, x, y]
section
variable {F : Nat → Option RF} {Z : CallF} {h : Heap} {x : Cell} {xs : List Shard} {fp fq : List Nat}
theorem SlR.found (w : SlR 16 Shard.RI h x xs fp) (p : Shard → Bool) : findI p xs = -1 ∨ ∃ i : Nat, findI p xs = (i : Int) ∧ i < xs.length ∧ p (Shard.at_ xs i) = true ∧ idxR 16 (some x) (some (i : Int)) = some (.ptr x.sid i 0) ∧
    ∃ y z, ∀ j n, loadP h x.sid i j n = cut? ((Shard.at_ xs i).cells y z) j n := by
  by_cases h0 : 0 ≤ findI p xs
  · obtain ⟨i, e, hi, hp⟩ := findI_at h0
    obtain ⟨r, f, hl, hR, _⟩ := w.one hi
    rw [← Shard.at_get hi] at hR hp
    obtain ⟨x1, p1, x2, p2, rfl, _⟩ := hR
    exact .inr ⟨i, e, hi, hp, w.idx hi, x1, x2, hl⟩
  · exact .inl (findI_no (by omega))
end
end Go.Proofs.Ytgfclcpnefinoaa.A
namespace Go.Proofs.Ytgfclcpnefinoaa.A
open Go
set_option linter.unusedSimpArgs false
set_option linter.unusedVariables false
section
variable {F : Nat → Option RF} {Z : CallF} {h : Heap} {x : Cell} {xs : List Account} {fp fq : List Nat} {cs : List Cell} {t : Shard}
theorem copyShard_c (hI10 : Has F tI10) (hI13 : Has F tI13) (hf : h.floor ≤ h.next) (v : Shard.RI h cs t fp) (sm : t.Small) : ∃ cs' h' fq, call F Z 229 [.agg cs] h = some (.agg cs', h') ∧ On h h' ∧ Shard.RI h' cs' t fq ∧ Fre h fq := by
  obtain ⟨x, p, y, q, rfl, rfl, w, u⟩ := v
  obtain ⟨y1, h1, q1, e1, o1, u1, f1⟩ := copyBook_c (Z := Z) hI10 hf w sm.1
  have sm2 : t.finished.length ≤ 1048576 := sm.2
  have hf1 := o1.le hf
  have a0 := Acc.lit0 (tag := 9) (On.refl h1)
  have w' := (u.on (Fl.ok _) o1).on (Fl.ok _) (On.push h1 [])
  have ce := a0.cat_eq (bytes := 16) (y := y) (new := t.finished.map Fin.enc) hf1 w'.isTag w'.rows (by simp; omega)
  have ac := a0.cat (new := t.finished.map Fin.enc) hf1 (by simp; omega)
  simp only [List.nil_append] at ac
  obtain ⟨o, fq, u2, f⟩ := ac.flat
  rw [call_run F Z (hI13.lk (g := 229) rfl) _ _ rfl]
  simp only [run0, run1, run2, run3, run4, noSlot, ownS, ownK, memN, RO.dst, lk, drop, forget, number, Nat.reduceBEq, cut?, splice?, builds, Nat.reduceAdd, Nat.reduceLeDiff, ↓reduceIte, reduceCtorEq, qqa, qqb, qqc, qqd, qqe, qqf, qqg, qqh, qqi, qqj, qqk, qql, qqm, qqn, qqo, qqp, qqq, qqr, qqs, qqt, qqu, qqv, qqw, qqx, qqy, e1, List.replicate_zero, fills, ce]
  exact ⟨_, _, _, rfl, o1.trans o, ⟨_, _, _, _, rfl, rfl, u1.on (Fl.ok _) o, u2⟩, f1.app (u1.lt (Fl.ok _)) f o1.ext.1⟩
theorem l13CopyShard_c (hS10 : Has F tS10) (hS13 : Has F tS13) (hf : h.floor ≤ h.next) (v : Shard.RI h cs t fp) (sm : t.Small) : ∃ cs' h' fq, call F Z 228 [.agg cs] h = some (.agg cs', h') ∧ On h h' ∧ Shard.RI h' cs' t fq ∧ Fre h fq := by
  obtain ⟨x, p, y, q, rfl, rfl, w, u⟩ := v
  obtain ⟨y1, h1, q1, e1, o1, u1, f1⟩ := l10Copy_c (Z := Z) hS10 hf w sm.1
  have sm2 : t.finished.length ≤ 1048576 := sm.2
  have hf1 := o1.le hf
  rw [call_run F Z (hS13.lk (g := 228) rfl) _ _ rfl]
  simp only [run0, run1, run2, run3, run4, noSlot, ownS, ownK, memN, RO.dst, lk, drop, forget, number, Nat.reduceBEq, cut?, splice?, builds, Nat.reduceAdd, Nat.reduceLeDiff, ↓reduceIte, reduceCtorEq, qqa, qqb, qqc, qqd, qqe, qqf, qqg, qqh, qqi, qqj, qqk, qql, qqm, qqn, qqo, qqp, qqq, qqr, qqs, qqt, qqu, qqv, qqw, qqx, qqy, e1, List.replicate_zero, fills]
  obtain ⟨y2, h2, a2, l2⟩ := loop_acc (F := F) (Z := Z) (live := [1, 2, 3, 4]) (b := r228L0) t.finished (fun r => [r.enc]) 9 h1 (fun i z g => ⟨[(3, .c z), (4, .c (.int .i64 (i : Nat)))], [(1, 1, 0), (2, 2, 0)], [(1, [.int .u64 t.lo, .int .u64 t.hi, .int .i64 t.state, .int .i64 t.epoch, y1, y]), (2, [.int .u64 0, .int .u64 0, .int .i64 0, .int .i64 0, .nil, .nil])], g⟩) (fun r => by simp) (fun i hi z g rows a hr => by
    have e1 := a.one_eq hf1 (bytes := 16) (by omega)
    have a1 := a.one hf1 (by omega)
    have hlt : (i : Int) < t.finished.length := by omega
    have wg := (u.on (Fl.ok _) o1).on (Fl.ok _) a.on
    rw [loop_run]
    conv in (codeF _ _ r228L0 _) => unfold r228L0
    simp only [run0, run1, run2, run3, run4, noSlot, ownS, ownK, memN, RO.dst, lk, drop, forget, number, Nat.reduceBEq, cut?, splice?, builds, Nat.reduceAdd, Nat.reduceLeDiff, ↓reduceIte, reduceCtorEq, qqa, qqb, qqc, qqd, qqe, qqf, qqg, qqh, qqi, qqj, qqk, qql, qqm, qqn, qqo, qqp, qqq, qqr, qqs, qqt, qqu, qqv, qqw, qqx, qqy, u.len, hlt, u.idx hi, wg.load hi, Fin.len, Fin.tak, wrapS i (by omega), List.replicate_succ, List.replicate_zero, fills, and_self, Nat.zero_lt_one, List.set_cons_zero, e1]
    exact ⟨_, _, a1 _, rfl⟩) (Acc.lit0 (On.refl h1))
  simp only [show ((0 : Nat) : Int) = 0 from rfl] at l2
  have hlt : ¬ (t.finished.length : Int) < t.finished.length := by omega
  rw [l2, loop_run]
  conv in (codeF _ _ r228L0 _) => unfold r228L0
  simp only [run0, run1, run2, run3, run4, noSlot, ownS, ownK, memN, RO.dst, lk, drop, forget, number, Nat.reduceBEq, cut?, splice?, builds, Nat.reduceAdd, Nat.reduceLeDiff, ↓reduceIte, reduceCtorEq, qqa, qqb, qqc, qqd, qqe, qqf, qqg, qqh, qqi, qqj, qqk, qql, qqm, qqn, qqo, qqp, qqq, qqr, qqs, qqt, qqu, qqv, qqw, qqx, qqy, u.len, hlt]
  rw [flatMap_one] at a2
  obtain ⟨o, fq, u2, f⟩ := a2.flat
  exact ⟨_, _, _, rfl, o1.trans o, ⟨_, _, _, _, rfl, rfl, u1.on (Fl.ok _) o, u2⟩, f1.app (u1.lt (Fl.ok _)) f o1.ext.1⟩
variable {s : Store}
theorem Store.at_small (sm : s.Small) {i : Nat} (hi : i < s.shards.length) : (Shard.at_ s.shards i).Small := by
  rw [Shard.at_get hi]
  exact sm.2 _ (List.getElem_mem hi)
theorem SlR.atR {ys : List Shard} (w : SlR 16 Shard.RI h x ys fp) {i : Nat} (hi : i < ys.length) : ∃ r f, (∀ j n, loadP h x.sid i j n = cut? r j n) ∧ Shard.RI h r (Shard.at_ ys i) f ∧ ∀ id, id ∈ f → id ∈ fp := by
  rw [Shard.at_get hi]
  exact w.one hi
end
end Go.Proofs.Ytgfclcpnefinoaa.A
namespace Go.Proofs.Ytgfclcpnefinoaa.A
open Go
set_option linter.unusedSimpArgs false
set_option linter.unusedVariables false
section
variable {F : Nat → Option RF} {Z : CallF} {h : Heap} {x : Cell} {xs : List Shard} {fp fq : List Nat} {cs : List Cell} {s : Store} {t : Shard}
theorem copyShard_q (hI10 : Has F tI10) (hI13 : Has F tI13) (v : Shard.RI h cs t fp) (sm : t.Small) :
    ∃ cs' h' g fq, call F Z 229 [.agg cs] ⟨h.next, h.next, h.get⟩ = some (.agg cs', h') ∧ Heap.mk h'.next h.floor h'.get = g ∧ On h g ∧ Shard.RI g cs' t fq ∧ Fre h fq ∧ cs'.length = 6 := by
  obtain ⟨cs', h', fq, e, o, u, f⟩ := copyShard_c (Z := Z) (h := ⟨h.next, h.next, h.get⟩) hI10 hI13 (Nat.le_refl _) (Shard.okI.up v h.next) sm
  exact ⟨cs', h', _, fq, e, rfl, ⟨⟨o.ext.1, o.ext.2⟩, rfl⟩, Shard.okI.up u h.floor, ⟨f.lo, f.nd⟩, (Shard.lenI u).1⟩
theorem l13CopyShard_q (hS10 : Has F tS10) (hS13 : Has F tS13) (v : Shard.RI h cs t fp) (sm : t.Small) :
    ∃ cs' h' g fq, call F Z 228 [.agg cs] ⟨h.next, h.next, h.get⟩ = some (.agg cs', h') ∧ Heap.mk h'.next h.floor h'.get = g ∧ On h g ∧ Shard.RI g cs' t fq ∧ Fre h fq ∧ cs'.length = 6 := by
  obtain ⟨cs', h', fq, e, o, u, f⟩ := l13CopyShard_c (Z := Z) (h := ⟨h.next, h.next, h.get⟩) hS10 hS13 (Nat.le_refl _) (Shard.okI.up v h.next) sm
  exact ⟨cs', h', _, fq, e, rfl, ⟨⟨o.ext.1, o.ext.2⟩, rfl⟩, Shard.okI.up u h.floor, ⟨f.lo, f.nd⟩, (Shard.lenI u).1⟩
theorem AccM.next {g k : Heap} {y : Cell} {ys : List Shard} (a : AccM Shard.RI 16 h g y ys fp) (hf : h.floor ≤ h.next) (hl : ys.length ≤ 1048576) (o : On g k) {cs' : List Cell} (u : Shard.RI k cs' t fq) (f : Fre g fq) :
    ∃ y' g' fp', appF (k.push [cs']) 16 80 y (.sl 16 k.next 0 1) = some (y', g') ∧ AccM Shard.RI 16 h g' y' (ys ++ [t]) fp' := by
  have hlt : ∀ id, id ∈ fp → id < g.next := a.sh.lt Shard.okI
  obtain ⟨y', g', fp', e, a', _⟩ := a.one Shard.okI hf (bytes := 80) (by omega) (by omega) o u ⟨fun id hid => Nat.le_trans a.on.ext.1 (f.lo id hid), f.nd⟩ (fun id h1 h2 => by
    have := hlt id h2
    have := f.lo id h1
    omega)
  exact ⟨y', g', fp', e, a'⟩
set_option maxHeartbeats 1000000 in
theorem copyStore_c (k : KI F) (hf : h.floor ≤ h.next) (v : Store.RI h cs s fp) (sm : s.Small) :
    ∃ cs' h' fq, call F Z 320 [.agg cs] h = some (.agg cs', h') ∧ On h h' ∧ Store.RI h' cs' s fq ∧ Fre h fq := by
  obtain ⟨x, p, rfl, rfl, w⟩ := v
  have hle := w.le2
  have hwl := w.len
  rw [call_run F Z (k.i13.lk (g := 320) rfl) _ _ rfl]
  simp only [run0, run1, run2, run3, run4, noSlot, ownS, ownK, memN, RO.dst, lk, drop, forget, number, Nat.reduceBEq, cut?, splice?, builds, Nat.reduceAdd, Nat.reduceLeDiff, ↓reduceIte, reduceCtorEq, qqa, qqb, qqc, qqd, qqe, qqf, qqg, qqh, qqi, qqj, qqk, qql, qqm, qqn, qqo, qqp, qqq, qqr, qqs, qqt, qqu, qqv, qqw, qqx, qqy, hwl]
  obtain ⟨s', ⟨y, g, fq, hs, a⟩, l1⟩ := loop_goes (F := F) (Z := Z) (live := [2, 3, 12, 13, 14]) (b := r320L0) s.shards.length (fun i st => ∃ y g fq, st = ⟨[(12, .c x), (13, .c (.int .i64 (s.shards.length : Nat))), (14, .c (.int .i64 (i : Nat)))], [(2, 2, 0), (3, 3, 0)], [(2, [.int .i64 0, .int .i64 0, .nil]), (3, [.int .i64 s.group, .int .i64 s.seen, y])], g⟩ ∧ AccM Shard.RI 16 h g y (s.shards.take i) fq) (fun i st hi ⟨y, g, fq, hs, a⟩ => by
    subst hs
    have hlt : (i : Int) < s.shards.length := by omega
    have hws := wrapS i (by omega)
    have hxi := w.idx hi
    obtain ⟨r, f, hld, hR, _⟩ := (w.on Shard.okI a.on).one hi
    obtain ⟨r1, r2, r3⟩ := Shard.lenI hR
    obtain ⟨cs', h', g1, fr, e1, hg1, o1, u1, f1, c1⟩ := copyShard_q (Z := Z) k.i10 k.i13 hR (sm.2 _ (List.getElem_mem hi))
    obtain ⟨y', g', fp', e2, a2⟩ := a.next hf (by rw [List.length_take]; have := sm.1; omega) o1 u1 f1
    have ht : s.shards.take (i + 1) = s.shards.take i ++ [s.shards[i]] := by rw [List.take_add_one, List.getElem?_eq_getElem hi]; rfl
    rw [← ht] at a2
    rw [loop_run]
    conv in (codeF _ _ r320L0 _) => unfold r320L0
    simp only [run0, run1, run2, run3, run4, noSlot, ownS, ownK, memN, RO.dst, lk, drop, forget, number, Nat.reduceBEq, cut?, splice?, builds, Nat.reduceAdd, Nat.reduceLeDiff, ↓reduceIte, reduceCtorEq, qqa, qqb, qqc, qqd, qqe, qqf, qqg, qqh, qqi, qqj, qqk, qql, qqm, qqn, qqo, qqp, qqq, qqr, qqs, qqt, qqu, qqv, qqw, qqx, qqy, hlt, hxi, hld, r1, r2, r3, e1, hg1, List.replicate_succ, List.replicate_zero, fills, and_self, Nat.zero_lt_one, c1, List.set_cons_zero, e2, hws]
    exact ⟨_, ⟨_, _, _, rfl, a2⟩, rfl⟩) (s := ⟨[(12, .c x), (13, .c (.int .i64 (s.shards.length : Nat))), (14, .c (.int .i64 (0 : Nat)))], [(2, 2, 0), (3, 3, 0)], [(2, [.int .i64 0, .int .i64 0, .nil]), (3, [.int .i64 s.group, .int .i64 s.seen, .nil])], h⟩) ⟨_, _, _, rfl, by simpa using AccM.nil Shard.RI 16 h⟩
  subst hs
  simp only [show ((0 : Nat) : Int) = 0 from rfl] at l1
  rw [List.take_length] at a
  have hlt : ¬ (s.shards.length : Int) < s.shards.length := by omega
  rw [l1, loop_run]
  conv in (codeF _ _ r320L0 _) => unfold r320L0
  simp only [run0, run1, run2, run3, run4, noSlot, ownS, ownK, memN, RO.dst, lk, drop, forget, number, Nat.reduceBEq, cut?, splice?, builds, Nat.reduceAdd, Nat.reduceLeDiff, ↓reduceIte, reduceCtorEq, qqa, qqb, qqc, qqd, qqe, qqf, qqg, qqh, qqi, qqj, qqk, qql, qqm, qqn, qqo, qqp, qqq, qqr, qqs, qqt, qqu, qqv, qqw, qqx, qqy, hlt]
  exact ⟨_, _, _, rfl, a.on, ⟨_, _, rfl, rfl, a.sh⟩, a.fr⟩
set_option maxHeartbeats 1000000 in
theorem l13Copy_c (k : KS F) (hf : h.floor ≤ h.next) (v : Store.RI h cs s fp) (sm : s.Small) :
    ∃ cs' h' fq, call F Z 317 [.agg cs] h = some (.agg cs', h') ∧ On h h' ∧ Store.RI h' cs' s fq ∧ Fre h fq := by
  obtain ⟨x, p, rfl, rfl, w⟩ := v
  have hle := w.le2
  have hwl := w.len
  rw [call_run F Z (k.s13.lk (g := 317) rfl) _ _ rfl]
  simp only [run0, run1, run2, run3, run4, noSlot, ownS, ownK, memN, RO.dst, lk, drop, forget, number, Nat.reduceBEq, cut?, splice?, builds, Nat.reduceAdd, Nat.reduceLeDiff, ↓reduceIte, reduceCtorEq, qqa, qqb, qqc, qqd, qqe, qqf, qqg, qqh, qqi, qqj, qqk, qql, qqm, qqn, qqo, qqp, qqq, qqr, qqs, qqt, qqu, qqv, qqw, qqx, qqy]
  obtain ⟨s', ⟨y, g, fq, hs, a⟩, l1⟩ := loop_goes (F := F) (Z := Z) (live := [1, 2, 3, 4]) (b := r317L0) s.shards.length (fun i st => ∃ y g fq, st = ⟨[(4, .c (.int .i64 (i : Nat)))], [(1, 1, 0), (2, 2, 0), (3, 3, 0)], [(1, [.int .i64 s.group, .int .i64 s.seen, x]), (2, [.int .i64 0, .int .i64 0, .nil]), (3, [.int .i64 s.group, .int .i64 s.seen, y])], g⟩ ∧ AccM Shard.RI 16 h g y (s.shards.take i) fq) (fun i st hi ⟨y, g, fq, hs, a⟩ => by
    subst hs
    have hlt : (i : Int) < s.shards.length := by omega
    have hws := wrapS i (by omega)
    have hxi := w.idx hi
    obtain ⟨r, f, hld, hR, _⟩ := (w.on Shard.okI a.on).one hi
    obtain ⟨r1, r2, r3⟩ := Shard.lenI hR
    obtain ⟨cs', h', g1, fr, e1, hg1, o1, u1, f1, c1⟩ := l13CopyShard_q (Z := Z) k.s10 k.s13 hR (sm.2 _ (List.getElem_mem hi))
    obtain ⟨y', g', fp', e2, a2⟩ := a.next hf (by rw [List.length_take]; have := sm.1; omega) o1 u1 f1
    have ht : s.shards.take (i + 1) = s.shards.take i ++ [s.shards[i]] := by rw [List.take_add_one, List.getElem?_eq_getElem hi]; rfl
    rw [← ht] at a2
    rw [loop_run]
    conv in (codeF _ _ r317L0 _) => unfold r317L0
    simp only [run0, run1, run2, run3, run4, noSlot, ownS, ownK, memN, RO.dst, lk, drop, forget, number, Nat.reduceBEq, cut?, splice?, builds, Nat.reduceAdd, Nat.reduceLeDiff, ↓reduceIte, reduceCtorEq, qqa, qqb, qqc, qqd, qqe, qqf, qqg, qqh, qqi, qqj, qqk, qql, qqm, qqn, qqo, qqp, qqq, qqr, qqs, qqt, qqu, qqv, qqw, qqx, qqy, hwl, hlt, hxi, hld, r1, r2, r3, e1, hg1, List.replicate_succ, List.replicate_zero, fills, and_self, Nat.zero_lt_one, c1, List.set_cons_zero, e2, hws]
    exact ⟨_, ⟨_, _, _, rfl, a2⟩, rfl⟩) (s := ⟨[(4, .c (.int .i64 (0 : Nat)))], [(1, 1, 0), (2, 2, 0), (3, 3, 0)], [(1, [.int .i64 s.group, .int .i64 s.seen, x]), (2, [.int .i64 0, .int .i64 0, .nil]), (3, [.int .i64 s.group, .int .i64 s.seen, .nil])], h⟩) ⟨_, _, _, rfl, by simpa using AccM.nil Shard.RI 16 h⟩
  subst hs
  simp only [show ((0 : Nat) : Int) = 0 from rfl] at l1
  rw [List.take_length] at a
  have hlt : ¬ (s.shards.length : Int) < s.shards.length := by omega
  rw [l1, loop_run]
  conv in (codeF _ _ r317L0 _) => unfold r317L0
  simp only [run0, run1, run2, run3, run4, noSlot, ownS, ownK, memN, RO.dst, lk, drop, forget, number, Nat.reduceBEq, cut?, splice?, builds, Nat.reduceAdd, Nat.reduceLeDiff, ↓reduceIte, reduceCtorEq, qqa, qqb, qqc, qqd, qqe, qqf, qqg, qqh, qqi, qqj, qqk, qql, qqm, qqn, qqo, qqp, qqq, qqr, qqs, qqt, qqu, qqv, qqw, qqx, qqy, hwl, hlt]
  exact ⟨_, _, _, rfl, a.on, ⟨_, _, rfl, rfl, a.sh⟩, a.fr⟩
end
end Go.Proofs.Ytgfclcpnefinoaa.A
namespace Go.Proofs.Ytgfclcpnefinoaa.A
open Go
set_option linter.unusedSimpArgs false
set_option linter.unusedVariables false
def Shard.renew (e : Int) (t : Shard) : Shard := bif t.state == 0 then { t with epoch := e } else t
def Store.renew (s : Store) (e : Int) : Store := ⟨s.group, e, s.shards.map (Shard.renew e)⟩
def Store.next (s : Store) (e : Int) : Bool := s.good && (decide (s.seen < e) && decide (e ≤ 1000000))
section
variable {F : Nat → Option RF} {Z : CallF} {h : Heap} {x : Cell} {xs : List Shard} {fp fq : List Nat} {cs : List Cell} {s : Store} {t : Shard}
set_option maxHeartbeats 1000000 in
theorem renewed_turn (e gr sn : Int) {n : Nat} (hn : xs.length = n) (w : SlR 16 Shard.RI h x xs fp) (nd : fp.Nodup) (hfl : ∀ id, id ∈ fp → h.floor ≤ id) {i : Nat} (hi : i < xs.length) :
    ∃ g, loop F Z [1, 2, 4, 10, 11] r321L0 ⟨[(1, .c (.int .i64 e)), (10, .c (.int .i64 (n : Nat))), (11, .c (.int .i64 (i : Nat)))], [(2, 2, 0), (4, 4, 0)], [(2, [.int .i64 gr, .int .i64 sn, x]), (4, [.int .i64 0, .int .i64 0, .nil])], h⟩
      = loop F Z [1, 2, 4, 10, 11] r321L0 ⟨[(1, .c (.int .i64 e)), (10, .c (.int .i64 (n : Nat))), (11, .c (.int .i64 ((i + 1 : Nat) : Int)))], [(2, 2, 0), (4, 4, 0)], [(2, [.int .i64 gr, .int .i64 sn, x]), (4, [.int .i64 0, .int .i64 0, .nil])], g⟩ ∧
      Mk h g fp ∧ SlR 16 Shard.RI g x (xs.set i (xs[i].renew e)) fp := by
  have hle := w.le2
  have hlt : (i : Int) < (n : Int) := by omega
  have hws := wrapS i (by omega)
  have hxi := w.idx hi
  obtain ⟨r, f, rows, hR, hs, hld, hself, hst, hl2, fin⟩ := w.putRow Shard.okI nd hfl hi
  have hset := set_same xs hi
  obtain ⟨x1, p1, x2, p2, rfl, rfl, w1, w2⟩ := hR
  have hd : xs[i].renew e = bif xs[i].state == 0 then { xs[i] with epoch := e } else xs[i] := rfl
  rw [loop_run]
  conv in (codeF _ _ r321L0 _) => unfold r321L0
  by_cases c : xs[i].state = 0
  · have c' : (xs[i].state == 0) = true := by simp [c]
    obtain ⟨f1, f2⟩ := fin [.int .u64 xs[i].lo, .int .u64 xs[i].hi, .int .i64 xs[i].state, .int .i64 e, x1, x2] { xs[i] with epoch := e } ⟨x1, p1, x2, p2, rfl, rfl, w1, w2⟩
    rw [hd, c']
    clear hd fin w w1 w2 hset
    generalize xs[i] = a at *
    have hst' := hst [.int .u64 a.lo, .int .u64 a.hi, .int .i64 a.state, .int .i64 a.epoch, x1, x2]
    rw [hself] at hst'
    simp only [run0, run1, run2, run3, run4, noSlot, ownS, ownK, memN, RO.dst, lk, drop, forget, number, Nat.reduceBEq, cut?, splice?, builds, Nat.reduceAdd, Nat.reduceLeDiff, ↓reduceIte, reduceCtorEq, qqa, qqb, qqc, qqd, qqe, qqf, qqg, qqh, qqi, qqj, qqk, qql, qqm, qqn, qqo, qqp, qqq, qqr, qqs, qqt, qqu, qqv, qqw, qqx, qqy, hlt, hxi, hld, c', hst', putM_s, hws]
    exact ⟨_, rfl, f2, f1⟩
  · have c' : (xs[i].state == 0) = false := by simp [c]
    rw [hd, c']
    simp only [cond_false, hset]
    clear hd fin w1 w2 hset
    generalize xs[i] = a at *
    simp only [run0, run1, run2, run3, run4, noSlot, ownS, ownK, memN, RO.dst, lk, drop, forget, number, Nat.reduceBEq, cut?, splice?, builds, Nat.reduceAdd, Nat.reduceLeDiff, ↓reduceIte, reduceCtorEq, qqa, qqb, qqc, qqd, qqe, qqf, qqg, qqh, qqi, qqj, qqk, qql, qqm, qqn, qqo, qqp, qqq, qqr, qqs, qqt, qqu, qqv, qqw, qqx, qqy, hlt, hxi, hld, c', hws]
    exact ⟨_, rfl, Mk.refl _ _, w⟩
theorem renewed_c (k : KI F) (v : Store.RI h cs s fp) (nd : fp.Nodup) (hfl : ∀ id, id ∈ fp → h.floor ≤ id) (e : Int) :
    ∃ cs' h', call F Z 321 [.agg cs, .c (.int .i64 e)] h = some (.agg cs', h') ∧ Mk h h' fp ∧ Store.RI h' cs' (s.renew e) fp := by
  obtain ⟨x, p, rfl, rfl, w⟩ := v
  have hwl := w.len
  rw [call_run F Z (k.i13.lk (g := 321) rfl) _ _ rfl]
  simp only [run0, run1, run2, run3, run4, noSlot, ownS, ownK, memN, RO.dst, lk, drop, forget, number, Nat.reduceBEq, cut?, splice?, builds, Nat.reduceAdd, Nat.reduceLeDiff, ↓reduceIte, reduceCtorEq, qqa, qqb, qqc, qqd, qqe, qqf, qqg, qqh, qqi, qqj, qqk, qql, qqm, qqn, qqo, qqp, qqq, qqr, qqs, qqt, qqu, qqv, qqw, qqx, qqy, hwl]
  obtain ⟨s', ⟨g, hs, m, u⟩, l1⟩ := loop_goes (F := F) (Z := Z) (live := [1, 2, 4, 10, 11]) (b := r321L0) s.shards.length (fun i st => ∃ g, st = ⟨[(1, .c (.int .i64 e)), (10, .c (.int .i64 (s.shards.length : Nat))), (11, .c (.int .i64 (i : Nat)))], [(2, 2, 0), (4, 4, 0)], [(2, [.int .i64 s.group, .int .i64 e, x]), (4, [.int .i64 0, .int .i64 0, .nil])], g⟩ ∧ Mk h g fp ∧ SlR 16 Shard.RI g x ((s.shards.take i).map (Shard.renew e) ++ s.shards.drop i) fp) (fun i st hi ⟨g, hs, m, u⟩ => by
    subst hs
    have hl : ((s.shards.take i).map (Shard.renew e) ++ s.shards.drop i).length = s.shards.length := by simp; omega
    have hi' : i < ((s.shards.take i).map (Shard.renew e) ++ s.shards.drop i).length := by omega
    obtain ⟨g', e1, m1, u1⟩ := renewed_turn (F := F) (Z := Z) e s.group e hl u nd (fun id hid => by rw [m.fl]; exact hfl id hid) hi'
    rw [mix_at _ _ hi hi', mix_set _ _ hi] at u1
    exact ⟨_, ⟨g', rfl, m.then m1, u1⟩, e1⟩) (s := ⟨[(1, .c (.int .i64 e)), (10, .c (.int .i64 (s.shards.length : Nat))), (11, .c (.int .i64 (0 : Nat)))], [(2, 2, 0), (4, 4, 0)], [(2, [.int .i64 s.group, .int .i64 e, x]), (4, [.int .i64 0, .int .i64 0, .nil])], h⟩) ⟨h, rfl, Mk.refl _ _, by simpa using w⟩
  subst hs
  simp only [show ((0 : Nat) : Int) = 0 from rfl] at l1
  rw [List.take_length, List.drop_length, List.append_nil] at u
  have hlt : ¬ (s.shards.length : Int) < s.shards.length := by omega
  rw [l1, loop_run]
  conv in (codeF _ _ r321L0 _) => unfold r321L0
  simp only [run0, run1, run2, run3, run4, noSlot, ownS, ownK, memN, RO.dst, lk, drop, forget, number, Nat.reduceBEq, cut?, splice?, builds, Nat.reduceAdd, Nat.reduceLeDiff, ↓reduceIte, reduceCtorEq, qqa, qqb, qqc, qqd, qqe, qqf, qqg, qqh, qqi, qqj, qqk, qql, qqm, qqn, qqo, qqp, qqq, qqr, qqs, qqt, qqu, qqv, qqw, qqx, qqy, hlt]
  exact ⟨_, _, rfl, m, ⟨_, _, rfl, rfl, u⟩⟩
set_option maxHeartbeats 1000000 in
theorem l13Renew_turn (e gr sn : Int) (w : SlR 16 Shard.RI h x xs fp) (nd : fp.Nodup) (hfl : ∀ id, id ∈ fp → h.floor ≤ id) {i : Nat} (hi : i < xs.length) :
    ∃ g, loop F Z [1, 4, 5, 6] r318L0 ⟨[(1, .c (.int .i64 e)), (6, .c (.int .i64 (i : Nat)))], [(4, 4, 0), (5, 5, 0)], [(4, [.int .i64 0, .int .i64 0, .nil]), (5, [.int .i64 gr, .int .i64 sn, x])], h⟩
      = loop F Z [1, 4, 5, 6] r318L0 ⟨[(1, .c (.int .i64 e)), (6, .c (.int .i64 ((i + 1 : Nat) : Int)))], [(4, 4, 0), (5, 5, 0)], [(4, [.int .i64 0, .int .i64 0, .nil]), (5, [.int .i64 gr, .int .i64 sn, x])], g⟩ ∧
      Mk h g fp ∧ SlR 16 Shard.RI g x (xs.set i (xs[i].renew e)) fp := by
  have hle := w.le2
  have hwl := w.len
  have hlt : (i : Int) < (xs.length : Int) := by omega
  have hws := wrapS i (by omega)
  have hxi := w.idx hi
  obtain ⟨r, f, rows, hR, hs, hld, hself, hst, hl2, fin⟩ := w.putRow Shard.okI nd hfl hi
  have hset := set_same xs hi
  obtain ⟨x1, p1, x2, p2, rfl, rfl, w1, w2⟩ := hR
  have hd : xs[i].renew e = bif xs[i].state == 0 then { xs[i] with epoch := e } else xs[i] := rfl
  rw [loop_run]
  conv in (codeF _ _ r318L0 _) => unfold r318L0
  by_cases c : xs[i].state = 0
  · have c' : (xs[i].state == 0) = true := by simp [c]
    obtain ⟨f1, f2⟩ := fin [.int .u64 xs[i].lo, .int .u64 xs[i].hi, .int .i64 xs[i].state, .int .i64 e, x1, x2] { xs[i] with epoch := e } ⟨x1, p1, x2, p2, rfl, rfl, w1, w2⟩
    rw [hd, c']
    clear hd fin w w1 w2 hset
    generalize xs[i] = a at *
    have hst' := hst [.int .u64 a.lo, .int .u64 a.hi, .int .i64 a.state, .int .i64 a.epoch, x1, x2]
    rw [hself] at hst'
    simp only [run0, run1, run2, run3, run4, noSlot, ownS, ownK, memN, RO.dst, lk, drop, forget, number, Nat.reduceBEq, cut?, splice?, builds, Nat.reduceAdd, Nat.reduceLeDiff, ↓reduceIte, reduceCtorEq, qqa, qqb, qqc, qqd, qqe, qqf, qqg, qqh, qqi, qqj, qqk, qql, qqm, qqn, qqo, qqp, qqq, qqr, qqs, qqt, qqu, qqv, qqw, qqx, qqy, hwl, hlt, hxi, hld, c', hst', putM_s, hws]
    exact ⟨_, rfl, f2, f1⟩
  · have c' : (xs[i].state == 0) = false := by simp [c]
    rw [hd, c']
    simp only [cond_false, hset]
    clear hd fin w1 w2 hset
    generalize xs[i] = a at *
    simp only [run0, run1, run2, run3, run4, noSlot, ownS, ownK, memN, RO.dst, lk, drop, forget, number, Nat.reduceBEq, cut?, splice?, builds, Nat.reduceAdd, Nat.reduceLeDiff, ↓reduceIte, reduceCtorEq, qqa, qqb, qqc, qqd, qqe, qqf, qqg, qqh, qqi, qqj, qqk, qql, qqm, qqn, qqo, qqp, qqq, qqr, qqs, qqt, qqu, qqv, qqw, qqx, qqy, hwl, hlt, hxi, hld, c', hws]
    exact ⟨_, rfl, Mk.refl _ _, w⟩
theorem l13Renew_c (k : KS F) (hf : h.floor ≤ h.next) (v : Store.RI h cs s fp) (sm : s.Small) (e : Int) :
    ∃ cs' h' fq, call F Z 318 [.agg cs, .c (.int .i64 e)] h = some (.agg cs', h') ∧ On h h' ∧ Store.RI h' cs' (s.renew e) fq ∧ Fre h fq := by
  obtain ⟨cs1, h1, fq, e1, o1, v1, f1⟩ := l13Copy_c (Z := Z) k hf v sm
  obtain ⟨l1, l2, l3⟩ := Store.lenI v
  obtain ⟨x, p, rfl, rfl, w⟩ := v1
  have hwl := w.len
  rw [call_run F Z (k.s13.lk (g := 318) rfl) _ _ rfl]
  simp only [run0, run1, run2, run3, run4, noSlot, ownS, ownK, memN, RO.dst, lk, drop, forget, number, Nat.reduceBEq, cut?, splice?, builds, Nat.reduceAdd, Nat.reduceLeDiff, ↓reduceIte, reduceCtorEq, qqa, qqb, qqc, qqd, qqe, qqf, qqg, qqh, qqi, qqj, qqk, qql, qqm, qqn, qqo, qqp, qqq, qqr, qqs, qqt, qqu, qqv, qqw, qqx, qqy, l1, l2, l3, e1]
  obtain ⟨s', ⟨g, hs, m, u⟩, lp⟩ := loop_goes (F := F) (Z := Z) (live := [1, 4, 5, 6]) (b := r318L0) s.shards.length (fun i st => ∃ g, st = ⟨[(1, .c (.int .i64 e)), (6, .c (.int .i64 (i : Nat)))], [(4, 4, 0), (5, 5, 0)], [(4, [.int .i64 0, .int .i64 0, .nil]), (5, [.int .i64 s.group, .int .i64 e, x])], g⟩ ∧ Mk h1 g fq ∧ SlR 16 Shard.RI g x ((s.shards.take i).map (Shard.renew e) ++ s.shards.drop i) fq) (fun i st hi ⟨g, hs, m, u⟩ => by
    subst hs
    have hi' : i < ((s.shards.take i).map (Shard.renew e) ++ s.shards.drop i).length := by simp; omega
    obtain ⟨g', e1, m1, u1⟩ := l13Renew_turn (F := F) (Z := Z) e s.group e u f1.nd (fun id hid => by rw [m.fl]; exact f1.own o1 hf id hid) hi'
    rw [mix_at _ _ hi hi', mix_set _ _ hi] at u1
    exact ⟨_, ⟨g', rfl, m.then m1, u1⟩, e1⟩) (s := ⟨[(1, .c (.int .i64 e)), (6, .c (.int .i64 (0 : Nat)))], [(4, 4, 0), (5, 5, 0)], [(4, [.int .i64 0, .int .i64 0, .nil]), (5, [.int .i64 s.group, .int .i64 e, x])], h1⟩) ⟨h1, rfl, Mk.refl _ _, by simpa using w⟩
  subst hs
  simp only [show ((0 : Nat) : Int) = 0 from rfl] at lp
  rw [List.take_length, List.drop_length, List.append_nil] at u
  have hul := u.len
  rw [List.length_map] at hul
  have hlt : ¬ (s.shards.length : Int) < s.shards.length := by omega
  rw [lp, loop_run]
  conv in (codeF _ _ r318L0 _) => unfold r318L0
  simp only [run0, run1, run2, run3, run4, noSlot, ownS, ownK, memN, RO.dst, lk, drop, forget, number, Nat.reduceBEq, cut?, splice?, builds, Nat.reduceAdd, Nat.reduceLeDiff, ↓reduceIte, reduceCtorEq, qqa, qqb, qqc, qqd, qqe, qqf, qqg, qqh, qqi, qqj, qqk, qql, qqm, qqn, qqo, qqp, qqq, qqr, qqs, qqt, qqu, qqv, qqw, qqx, qqy, hul, hlt]
  exact ⟨_, _, _, rfl, o1.turned m f1, ⟨_, _, rfl, rfl, u⟩, f1⟩
end
end Go.Proofs.Ytgfclcpnefinoaa.A
namespace Go.Proofs.Ytgfclcpnefinoaa.A
open Go
set_option linter.unusedSimpArgs false
set_option linter.unusedVariables false
theorem Store.renew_small {s : Store} (sm : s.Small) (e : Int) : (s.renew e).Small := by
  refine ⟨by simpa [Store.renew] using sm.1, fun a ha => ?_⟩
  obtain ⟨t, ht, rfl⟩ := List.mem_map.1 (show a ∈ s.shards.map (Shard.renew e) from ha)
  unfold Shard.renew
  cases (t.state == 0) <;> exact sm.2 t ht
section
variable {F : Nat → Option RF} {Z : CallF} {h : Heap} {x : Cell} {xs : List Shard} {fp fq : List Nat} {cs : List Cell} {s : Store} {t : Shard}
theorem isNewEpoch_run (k : KI F) (v : Store.RI h cs s fp) (ok : s.Ok) (e : Int) : ∃ h', call F Z 319 [.agg cs, .c (.int .i64 e)] h = some (.c (.bool (s.next e)), h') ∧ On h h' := by
  obtain ⟨h1, e1, o1⟩ := isStore_run (Z := Z) k v ok
  obtain ⟨x, p, rfl, rfl, w⟩ := v
  refine ⟨h1, ?_, o1⟩
  rw [call_run F Z (k.i13.lk (g := 319) rfl) _ _ rfl]
  have hd : s.next e = (s.good && (decide (s.seen < e) && decide (e ≤ 1000000))) := rfl
  rw [hd]
  generalize s.good = gd at *
  simp only [run0, run1, run2, run3, run4, noSlot, ownS, ownK, memN, RO.dst, lk, drop, forget, number, Nat.reduceBEq, cut?, splice?, builds, Nat.reduceAdd, Nat.reduceLeDiff, ↓reduceIte, reduceCtorEq, qqa, qqb, qqc, qqd, qqe, qqf, qqg, qqh, qqi, qqj, qqk, qql, qqm, qqn, qqo, qqp, qqq, qqr, qqs, qqt, qqu, qqv, qqw, qqx, qqy, e1]
  cases gd with
  | false => simp only [run0, run1, run2, run3, run4, noSlot, ownS, ownK, memN, RO.dst, lk, drop, forget, number, Nat.reduceBEq, cut?, splice?, builds, Nat.reduceAdd, Nat.reduceLeDiff, ↓reduceIte, reduceCtorEq, qqa, qqb, qqc, qqd, qqe, qqf, qqg, qqh, qqi, qqj, qqk, qql, qqm, qqn, qqo, qqp, qqq, qqr, qqs, qqt, qqu, qqv, qqw, qqx, qqy, Bool.false_and]
  | true =>
    simp only [run0, run1, run2, run3, run4, noSlot, ownS, ownK, memN, RO.dst, lk, drop, forget, number, Nat.reduceBEq, cut?, splice?, builds, Nat.reduceAdd, Nat.reduceLeDiff, ↓reduceIte, reduceCtorEq, qqa, qqb, qqc, qqd, qqe, qqf, qqg, qqh, qqi, qqj, qqk, qql, qqm, qqn, qqo, qqp, qqq, qqr, qqs, qqt, qqu, qqv, qqw, qqx, qqy]
    (repeat' ((first | (rw [gF_if]; split) | (rw [condC_if]; split) | (rw [pickR_if]; split)) <;> (rename_i hh; (try simp only [Bool.not_eq_true, decide_eq_true_eq] at hh); simp only [hh, run0, run1, run2, run3, run4, noSlot, ownS, ownK, memN, RO.dst, lk, drop, forget, number, Nat.reduceBEq, cut?, splice?, builds, Nat.reduceAdd, Nat.reduceLeDiff, ↓reduceIte, reduceCtorEq, qqa, qqb, qqc, qqd, qqe, qqf, qqg, qqh, qqi, qqj, qqk, qql, qqm, qqn, qqo, qqp, qqq, qqr, qqs, qqt, qqu, qqv, qqw, qqx, qqy, e1]))) <;> simp_all
theorem l13Next_run (k : KS F) (v : Store.RI h cs s fp) (ok : s.Ok) (e : Int) : call F Z 316 [.agg cs, .c (.int .i64 e)] h = some (.c (.bool (s.next e)), h) := by
  have e1 := sStoreOk_run (Z := Z) k v ok
  obtain ⟨x, p, rfl, rfl, w⟩ := v
  rw [call_run F Z (k.s13.lk (g := 316) rfl) _ _ rfl]
  have hd : s.next e = (s.good && (decide (s.seen < e) && decide (e ≤ 1000000))) := rfl
  rw [hd]
  cases hg : s.good with
  | false =>
    rw [hg] at e1
    simp only [run0, run1, run2, run3, run4, noSlot, ownS, ownK, memN, RO.dst, lk, drop, forget, number, Nat.reduceBEq, cut?, splice?, builds, Nat.reduceAdd, Nat.reduceLeDiff, ↓reduceIte, reduceCtorEq, qqa, qqb, qqc, qqd, qqe, qqf, qqg, qqh, qqi, qqj, qqk, qql, qqm, qqn, qqo, qqp, qqq, qqr, qqs, qqt, qqu, qqv, qqw, qqx, qqy, e1, Bool.false_and]
  | true =>
    rw [hg] at e1
    have hs : inR s.seen 0 1000000 = true := by simp only [Store.good, Bool.and_eq_true] at hg; exact hg.2.1
    simp only [inR, Bool.and_eq_true, decide_eq_true_eq] at hs
    have hw : IntKind.i64.wrap (s.seen + 1) = s.seen + 1 := wrapI _ (by omega) (by omega)
    simp only [run0, run1, run2, run3, run4, noSlot, ownS, ownK, memN, RO.dst, lk, drop, forget, number, Nat.reduceBEq, cut?, splice?, builds, Nat.reduceAdd, Nat.reduceLeDiff, ↓reduceIte, reduceCtorEq, qqa, qqb, qqc, qqd, qqe, qqf, qqg, qqh, qqi, qqj, qqk, qql, qqm, qqn, qqo, qqp, qqq, qqr, qqs, qqt, qqu, qqv, qqw, qqx, qqy, e1, hw, l01In_run k.s01]
    have : inR e (s.seen + 1) 1000000 = (true && (decide (s.seen < e) && decide (e ≤ 1000000))) := by
      simp only [inR, Bool.true_and]
      congr 1
    rw [this]
end
end Go.Proofs.Ytgfclcpnefinoaa.A
namespace Go.Proofs.Ytgfclcpnefinoaa.A
open Go
set_option linter.unusedSimpArgs false
set_option linter.unusedVariables false
section
variable {α : Type} {R : Rel α} {tag : Nat} {h0 h g : Heap} {x y : Cell} {xs ys : List α} {fp fq : List Nat}
theorem AllR.take : ∀ {rows : List (List Cell)} {xs : List α} {fps : List (List Nat)}, AllR R h rows xs fps → ∀ (i : Nat), AllR R h (rows.take i) (xs.take i) (fps.take i)
  | [], [], [], _, i => by simp only [List.take_nil]; trivial
  | _ :: _, _ :: _, _ :: _, _, 0 => trivial
  | _ :: _, _ :: _, _ :: _, ⟨w0, w⟩, i + 1 => ⟨w0, AllR.take w i⟩
  | [], [], _ :: _, w, _ => w.elim
  | [], _ :: _, _, w, _ => w.elim
  | _ :: _, [], _, w, _ => w.elim
  | _ :: _, _ :: _, [], w, _ => w.elim
theorem AllR.drop : ∀ {rows : List (List Cell)} {xs : List α} {fps : List (List Nat)}, AllR R h rows xs fps → ∀ (i : Nat), AllR R h (rows.drop i) (xs.drop i) (fps.drop i)
  | [], [], [], _, i => by simp only [List.drop_nil]; trivial
  | _ :: _, _ :: _, _ :: _, w, 0 => w
  | _ :: _, _ :: _, _ :: _, ⟨w0, w⟩, i + 1 => AllR.drop w i
  | [], [], _ :: _, w, _ => w.elim
  | [], _ :: _, _, w, _ => w.elim
  | _ :: _, [], _, w, _ => w.elim
  | _ :: _, _ :: _, [], w, _ => w.elim
theorem flat_parts {fps : List (List Nat)} (i : Nat) : (fps.take i).flatten ++ (fps.drop i).flatten = fps.flatten := by rw [← List.flatten_append, List.take_append_drop]
structure Re (h g : Heap) (fp fq : List Nat) : Prop where
  le : h.next ≤ g.next
  fl : g.floor = h.floor
  get : ∀ id, id < h.next → id ∉ fp → g.get id = h.get id
  nd : fq.Nodup
  of : ∀ id, id ∈ fq → id ∈ fp ∨ h.next ≤ id
theorem Re.on (r : Re h g fp fq) (o : On h0 h) (f : Fre h0 fp) : On h0 g :=
  ⟨⟨Nat.le_trans o.ext.1 r.le, fun id hid => by rw [r.get id (Nat.lt_of_lt_of_le hid o.ext.1) (f.gt id hid)]; exact o.ext.2 id hid⟩, r.fl.trans o.fl⟩
theorem Re.fre (r : Re h g fp fq) (o : On h0 h) (f : Fre h0 fp) : Fre h0 fq :=
  ⟨fun id hid => by rcases r.of id hid with h1 | h1; exact f.lo id h1; exact Nat.le_trans o.ext.1 h1, r.nd⟩
theorem SlR.del (ok : RelOk R) (w : SlR tag R h x xs fp) (nd : fp.Nodup) (hfl : ∀ id, id ∈ fp → h.floor ≤ id) {i : Nat} (hi : i < xs.length) :
    ∃ y g fq, delF tag [.c x, .c (.int .i64 (i : Nat)), .c (.int .i64 ((i + 1 : Nat) : Int))] h = some (.c y, g) ∧ SlR tag R g y (xs.eraseIdx i) fq ∧ Re h g fp fq := by
  rcases w with ⟨hl, ⟨rfl, rfl, rfl⟩ | ⟨id, rows, fps, rfl, q1, q2, rfl, q3⟩⟩
  · exact absurd hi (Nat.not_lt_zero _)
  have hn := List.nodup_cons.1 nd
  have hrl := q3.len
  have hfid := hfl id (by simp)
  have hlen : (rows.take i ++ rows.drop (i + 1)).length = i + (xs.length - (i + 1)) := by simp only [List.length_append, List.length_take, List.length_drop, hrl]; omega
  have he : xs.eraseIdx i = xs.take i ++ xs.drop (i + 1) := List.eraseIdx_eq_take_drop_succ ..
  have hel : (xs.eraseIdx i).length = i + (xs.length - (i + 1)) := by rw [List.length_eraseIdx_of_lt hi]; omega
  have hflt := q3.lt ok
  have hsub : ∀ j, j ∈ (fps.take i ++ fps.drop (i + 1)).flatten → j ∈ fps.flatten := fun j hj => by
    rw [List.flatten_append, List.mem_append] at hj
    rw [← flat_parts (fps := fps) i, List.mem_append]
    rcases hj with hj | hj
    · exact .inl hj
    · right
      rw [List.mem_flatten] at hj ⊢
      obtain ⟨l, hl1, hl2⟩ := hj
      exact ⟨l, List.mem_of_mem_drop (i := 1) (by rw [List.drop_drop]; exact hl1), hl2⟩
  refine ⟨.sl tag h.next 0 (i + (xs.length - (i + 1))), (h.kill id).push (rows.take i ++ rows.drop (i + 1)), h.next :: (fps.take i ++ fps.drop (i + 1)).flatten, ?_, ?_, ?_⟩
  · simp only [delF, q1, Option.bind_some, Int.toNat_natCast]
    rw [if_pos ⟨trivial, trivial, hfid, by omega, by omega, by omega, hrl⟩]
  · refine ⟨by rw [hel]; omega, .inr ⟨h.next, rows.take i ++ rows.drop (i + 1), fps.take i ++ fps.drop (i + 1), by rw [hel], by simp [Heap.push, Heap.kill], by simp [Heap.push, Heap.kill], rfl, ?_⟩⟩
    rw [he]
    refine ((q3.take i).app (q3.drop (i + 1))).mv ok (by simp [Heap.push, Heap.kill]) fun j hj => ?_
    have hj' := hsub j hj
    have h1 := hflt j hj'
    rw [push_ne _ (by rw [kill_next]; omega), kill_ne (h := h) (k := id) (id := j) fun e => hn.1 (e ▸ hj')]
  · refine ⟨by simp [Heap.push, Heap.kill], rfl, fun j hj hjn => ?_, ?_, ?_⟩
    · rw [push_ne _ (by rw [kill_next]; omega), kill_ne (h := h) (k := id) (id := j) fun e => hjn (by rw [e]; exact List.mem_cons_self)]
    · rw [List.nodup_cons]
      refine ⟨fun hc => ?_, ?_⟩
      · have := hflt _ (hsub _ hc); omega
      · rw [List.flatten_append]
        have := hn.2
        rw [← flat_parts (fps := fps) i] at this
        obtain ⟨n1, n2, n3⟩ := List.nodup_append.1 this
        have hs2 : (fps.drop (i + 1)).flatten.Sublist (fps.drop i).flatten := by
          obtain ⟨_, f, _, e2, _⟩ := q3.at i hi
          rw [List.drop_eq_getElem_cons (List.getElem?_eq_some_iff.1 e2).1, List.flatten_cons]
          exact List.sublist_append_right _ _
        exact List.nodup_append.2 ⟨n1, n2.sublist hs2, fun a ha b hb => n3 a ha b (hs2.subset hb)⟩
    · intro j hj
      rcases List.mem_cons.1 hj with rfl | hj
      · exact .inr (Nat.le_refl _)
      · exact .inl (List.mem_cons_of_mem _ (hsub j hj))
end
end Go.Proofs.Ytgfclcpnefinoaa.A
namespace Go.Proofs.Ytgfclcpnefinoaa.A
open Go
set_option linter.unusedSimpArgs false
set_option linter.unusedVariables false
theorem erase_skip {α : Type} {xs : List α} {k : Nat} (hk : k < xs.length) : (xs.take (k + 1)).eraseIdx k = (xs.take k).eraseIdx k := by
  rw [List.eraseIdx_of_length_le (k := k) (l := xs.take k) (by rw [List.length_take]; omega), List.eraseIdx_eq_take_drop_succ, List.drop_eq_nil_of_le (by rw [List.length_take]; omega), List.take_take, List.append_nil]
  congr 1
  omega
theorem erase_next {α : Type} {xs : List α} {i k : Nat} (hi : i < xs.length) (hne : i ≠ k) : (xs.take (i + 1)).eraseIdx k = (xs.take i).eraseIdx k ++ [xs[i]] := by
  rw [List.take_add_one, List.getElem?_eq_getElem hi]
  rcases Nat.lt_or_ge k i with h | h
  · rw [List.eraseIdx_append_of_lt_length (by rw [List.length_take]; omega)]; rfl
  · rw [List.eraseIdx_of_length_le (k := k) (l := xs.take i) (by rw [List.length_take]; omega), List.eraseIdx_of_length_le (by simp; omega)]; rfl
section
variable {F : Nat → Option RF} {Z : CallF} {h : Heap} {x : Cell} {xs : List Shard} {fp fq : List Nat} {cs : List Cell} {s : Store} {t : Shard}
end
end Go.Proofs.Ytgfclcpnefinoaa.A
namespace Go.Proofs.Ytgfclcpnefinoaa.A
open Go
set_option linter.unusedSimpArgs false
set_option linter.unusedVariables false
theorem Store.fit_at {s : Store} (g : s.good = true) {j : Nat} (hj : j < s.shards.length) : s.fits j = true := by
  simp only [Store.good, Bool.and_eq_true, List.all_eq_true, List.mem_range] at g
  exact g.2.2.2 j hj
theorem Store.lo_hi {s : Store} (g : s.good = true) {j : Nat} (hj : j < s.shards.length) : s.shards[j].lo ≤ s.shards[j].hi := by
  have := Store.fit_at g hj
  simp only [Store.fits, Shard.at_get hj, Shard.good, Shard.head, Bool.and_eq_true, decide_eq_true_eq] at this
  omega
def Shard.over (x t : Shard) : Bool := decide (t.lo ≤ x.hi) && decide (x.lo ≤ t.hi)
def Shard.left (x t : Shard) : Bool := decide (t.lo < x.lo)
end Go.Proofs.Ytgfclcpnefinoaa.A
namespace Go.Proofs.Ytgfclcpnefinoaa.A
open Go
set_option linter.unusedSimpArgs false
set_option linter.unusedVariables false
def Fin.pr (f : Fin) : Int × Int := (f.tx, f.id)
def un2 (x : Int × Int) : Fin := ⟨x.1, x.2⟩
def sortFins (xs : List Fin) : List Fin := (sort2 (xs.map Fin.pr)).map un2
def flt (f g : Fin) : Prop := f.tx < g.tx ∨ (f.tx = g.tx ∧ f.id < g.id)
instance (f g : Fin) : Decidable (flt f g) := inferInstanceAs (Decidable (_ ∨ _))
theorem cmp_flt (f g : Fin) : decide (cmpFin f g < 0) = decide (flt f g) := by
  rw [cmpFin_lt]
  unfold flt
  by_cases h1 : f.tx < g.tx <;> by_cases h2 : f.tx = g.tx <;> by_cases h3 : f.id < g.id <;> simp [h1, h2, h3]
theorem flt.trans {f g k : Fin} (h : flt f g) (h2 : flt g k) : flt f k := by unfold flt at *; omega
theorem flt.irr {f : Fin} (h : flt f f) : False := by unfold flt at h; omega
theorem flt.tot {f g : Fin} (h : ¬ flt f g) (h2 : f ≠ g) : flt g f := by
  obtain ⟨a, b⟩ := f
  obtain ⟨c, d⟩ := g
  unfold flt at *
  simp only [ne_eq, Fin.mk.injEq] at *
  omega
theorem un2_pr (xs : List Fin) : (xs.map Fin.pr).map un2 = xs := by
  rw [List.map_map]
  exact (List.map_congr_left (fun a _ => rfl)).trans (List.map_id xs)
theorem sortFins_perm (xs : List Fin) : (sortFins xs).Perm xs := by
  have := (sort2_perm (xs.map Fin.pr)).map un2
  rwa [un2_pr] at this
theorem sortFins_len (xs : List Fin) : (sortFins xs).length = xs.length := (sortFins_perm xs).length_eq
theorem sortFins_cells (xs : List Fin) : (sort2 (xs.map Fin.pr)).map enc2 = (sortFins xs).map Fin.enc := by
  unfold sortFins
  rw [List.map_map]
  rfl
theorem decs_fins : ∀ xs : List Fin, decs2 (xs.map Fin.enc) = some (xs.map Fin.pr)
  | [] => rfl
  | x :: xs => by
    simp only [List.map_cons, decs2, decs_fins xs]
    rfl
theorem sortFins_eq {xs ys : List Fin} (p : ys.Perm xs) (s : ys.Pairwise flt) : sortFins xs = ys := by
  have : sort2 (xs.map Fin.pr) = ys.map Fin.pr := by
    unfold sort2
    refine List.Perm.eq_of_pairwise (le := fun x y => (!(ltOf cmp2) y x) = true) ?_ ?_ ?_ ((List.mergeSort_perm _ _).trans (p.symm.map _))
    · intro a b _ _ h1 h2
      simp only [Bool.not_eq_true'] at h1 h2
      exact tot2 a b h2 h1
    · refine List.pairwise_mergeSort ?_ ?_ _
      · intro a b c h1 h2
        simp only [Bool.not_eq_true'] at h1 h2 ⊢
        exact swo2.ntrans c b a h2 h1
      · intro a b
        cases h : ltOf cmp2 b a with
        | false => simp
        | true =>
          have : ltOf cmp2 a b = false := by
            rw [lt2] at h ⊢
            simp at h ⊢
            omega
          simp [this]
    · rw [List.pairwise_map]
      refine s.imp ?_
      intro a b h
      rw [lt2]
      unfold flt at h
      have : ¬ (b.tx < a.tx ∨ (b.tx = a.tx ∧ b.id < a.id)) := by omega
      rw [Bool.not_eq_true', decide_eq_false_iff_not]
      exact this
  unfold sortFins
  rw [this, un2_pr]
theorem sortFins_id {xs : List Fin} (s : xs.Pairwise flt) : sortFins xs = xs := sortFins_eq (List.Perm.refl _) s
theorem sortFins_sorted {xs : List Fin} (nd : xs.Nodup) : (sortFins xs).Pairwise flt := by
  have hs : (sort2 (xs.map Fin.pr)).Pairwise (fun x y => (!(ltOf cmp2) y x) = true) := by
    refine List.pairwise_mergeSort ?_ ?_ _
    · intro a b c h1 h2
      simp only [Bool.not_eq_true'] at h1 h2 ⊢
      exact swo2.ntrans c b a h2 h1
    · intro a b
      cases h : ltOf cmp2 b a with
      | false => simp
      | true =>
        have : ltOf cmp2 a b = false := by
          rw [lt2] at h ⊢
          simp at h ⊢
          omega
        simp [this]
  have hn : (sortFins xs).Nodup := (sortFins_perm xs).nodup_iff.2 nd
  unfold sortFins at *
  rw [List.pairwise_map]
  rw [List.Nodup, List.pairwise_map] at hn
  refine (hs.and hn).imp ?_
  rintro a b ⟨h1, h2⟩
  rw [lt2] at h1
  simp only [Bool.not_eq_true', decide_eq_false_iff_not] at h1
  obtain ⟨a1, a2⟩ := a
  obtain ⟨b1, b2⟩ := b
  simp only [un2, ne_eq, Fin.mk.injEq] at h2
  unfold flt un2
  simp only at h1 ⊢
  omega
def addStep (f : Fin) (s : List Fin × Bool) (t : Fin) : List Fin × Bool := bif !s.2 && decide (flt f t) then (s.1 ++ [f] ++ [t], true) else (s.1 ++ [t], s.2)
def addFin (xs : List Fin) (f : Fin) : List Fin := bif (xs.foldl (addStep f) ([], decide (f ∈ xs))).2 then (xs.foldl (addStep f) ([], decide (f ∈ xs))).1 else (xs.foldl (addStep f) ([], decide (f ∈ xs))).1 ++ [f]
theorem addStep_t (f : Fin) : ∀ (xs pre : List Fin), xs.foldl (addStep f) (pre, true) = (pre ++ xs, true)
  | [], pre => by simp
  | x :: xs, pre => by
    rw [List.foldl_cons, show addStep f (pre, true) x = (pre ++ [x], true) from rfl, addStep_t f xs]
    simp
theorem addStep_f (f : Fin) : ∀ (xs pre : List Fin), (bif (xs.foldl (addStep f) (pre, false)).2 then (xs.foldl (addStep f) (pre, false)).1 else (xs.foldl (addStep f) (pre, false)).1 ++ [f]) = pre ++ (xs.takeWhile (fun t => !decide (flt f t)) ++ [f] ++ xs.dropWhile (fun t => !decide (flt f t)))
  | [], pre => by simp
  | x :: xs, pre => by
    rw [List.foldl_cons]
    by_cases h : flt f x
    · rw [show addStep f (pre, false) x = (pre ++ [f] ++ [x], true) from by simp [addStep, h], addStep_t]
      simp [h]
    · rw [show addStep f (pre, false) x = (pre ++ [x], false) from by simp [addStep, h], addStep_f f xs]
      simp [h]
theorem addFin_new {xs : List Fin} {f : Fin} (h : f ∉ xs) : addFin xs f = xs.takeWhile (fun t => !decide (flt f t)) ++ [f] ++ xs.dropWhile (fun t => !decide (flt f t)) := by
  unfold addFin
  rw [decide_eq_false h, addStep_f]
  simp
theorem drop_head {p : Fin → Bool} : ∀ {xs : List Fin} {y : Fin} {ys : List Fin}, xs.dropWhile p = y :: ys → p y = false
  | x :: xs, y, ys, h => by
    rw [List.dropWhile_cons] at h
    split at h
    · exact drop_head h
    · rename_i hx
      injection h with h1 h2
      subst h1
      simpa using hx
theorem addFin_sort {xs : List Fin} {f : Fin} (s : xs.Pairwise flt) (h : f ∉ xs) : addFin xs f = sortFins (xs ++ [f]) := by
  rw [addFin_new h]
  refine (sortFins_eq ?_ ?_).symm
  · have e : xs.takeWhile (fun t => !decide (flt f t)) ++ xs.dropWhile (fun t => !decide (flt f t)) = xs := List.takeWhile_append_dropWhile
    calc xs.takeWhile (fun t => !decide (flt f t)) ++ [f] ++ xs.dropWhile (fun t => !decide (flt f t))
        |>.Perm (f :: (xs.takeWhile (fun t => !decide (flt f t)) ++ xs.dropWhile (fun t => !decide (flt f t)))) := by
          rw [List.append_assoc]; exact List.perm_middle
      _ |>.Perm (xs ++ [f]) := by rw [e]; exact (List.perm_append_singleton f xs).symm
  · have hs := s
    rw [← List.takeWhile_append_dropWhile (p := fun t => !decide (flt f t)) (l := xs), List.pairwise_append] at hs
    obtain ⟨s1, s2, s3⟩ := hs
    have ht : ∀ t, t ∈ xs.takeWhile (fun t => !decide (flt f t)) → flt t f := by
      intro t ht
      have h1 : (!decide (flt f t)) = true := List.all_eq_true.1 (List.all_takeWhile (p := fun t => !decide (flt f t)) (l := xs)) t ht
      have h2 : t ∈ xs := (List.takeWhile_sublist _).subset ht
      have h3 : ¬ flt f t := by simpa using h1
      exact flt.tot h3 fun e => h (e ▸ h2)
    have hd : ∀ t, t ∈ xs.dropWhile (fun t => !decide (flt f t)) → flt f t := by
      intro t ht
      cases hx : xs.dropWhile (fun t => !decide (flt f t)) with
      | nil => rw [hx] at ht; cases ht
      | cons y ys =>
        have hy : flt f y := by
          have := drop_head hx
          simpa using this
        rw [hx] at ht s2
        rcases List.mem_cons.1 ht with rfl | ht
        · exact hy
        · exact hy.trans ((List.pairwise_cons.1 s2).1 t ht)
    rw [List.append_assoc, List.pairwise_append]
    refine ⟨s1, List.pairwise_append.2 ⟨List.pairwise_singleton _ _, s2, fun a ha b hb => ?_⟩, fun a ha b hb => ?_⟩
    · rw [List.mem_singleton] at ha
      subst ha
      exact hd b hb
    · rcases List.mem_append.1 hb with hb | hb
      · rw [List.mem_singleton] at hb
        subst hb
        exact ht a ha
      · exact s3 a ha b hb
theorem Shard.fins_sorted {s : Shard} (h : ∀ i, i < s.finished.length → s.finAt i = true) : s.finished.Pairwise flt := by
  have step : ∀ i (hi : i + 1 < s.finished.length), flt (s.finished[i]'(by omega)) (s.finished[i + 1]'hi) := by
    intro i hi
    have := h (i + 1) hi
    simp only [Shard.finAt, Bool.and_eq_true, Bool.or_eq_true, beq_iff_eq, Nat.add_one_ne_zero, false_or, Nat.add_sub_cancel] at this
    have h2 := this.2.2.2
    rw [cmp_flt] at h2
    have h3 : flt _ _ := of_decide_eq_true h2
    simp only [Fin.at_, List.getElem?_eq_getElem hi, List.getElem?_eq_getElem (show i < s.finished.length by omega), Option.getD_some] at h3
    exact h3
  rw [List.pairwise_iff_getElem]
  intro i j hi hj hij
  obtain ⟨d, rfl⟩ : ∃ d, j = i + 1 + d := ⟨j - i - 1, by omega⟩
  clear hij
  induction d with
  | zero => exact step i hj
  | succ d ih => exact (ih (by omega)).trans (step (i + 1 + d) hj)
theorem Shard.good_fin {s : Shard} (h : s.good = true) : ∀ i, i < s.finished.length → s.finAt i = true := by
  intro i hi
  simp only [Shard.good, Bool.and_eq_true, List.all_eq_true] at h
  exact h.2.2 i (List.mem_range.2 hi)
theorem Shard.good_in {s : Shard} (h : s.good = true) {f : Fin} (hf : f ∈ s.finished) : 1 ≤ f.tx ∧ s.lo ≤ f.id ∧ f.id ≤ s.hi := by
  obtain ⟨i, hi, rfl⟩ := List.mem_iff_getElem.1 hf
  have := Shard.good_fin h i hi
  simp only [Shard.finAt, Bool.and_eq_true, decide_eq_true_eq, Fin.at_, List.getElem?_eq_getElem hi, Option.getD_some] at this
  exact ⟨this.1, this.2.1, this.2.2.1⟩
theorem Shard.good_sorted {s : Shard} (h : s.good = true) : s.finished.Pairwise flt := Shard.fins_sorted (Shard.good_fin h)
theorem flt_nodup {xs : List Fin} (s : xs.Pairwise flt) : xs.Nodup := s.imp fun h e => by subst e; exact h.irr
theorem addFins {xs ys : List Fin} (sx : xs.Pairwise flt) (nd : (xs ++ ys).Nodup) : ys.foldl addFin xs = sortFins (xs ++ ys) := by
  induction ys generalizing xs with
  | nil => rw [List.append_nil, sortFins_id sx]; rfl
  | cons y ys ih =>
    rw [List.foldl_cons]
    have hn : y ∉ xs := by
      intro h
      rw [List.nodup_append] at nd
      exact nd.2.2 y h y (List.mem_cons_self ..) rfl
    have nd1 : (xs ++ [y]).Nodup := by
      have : (xs ++ [y] ++ ys).Nodup := by simpa using nd
      exact (List.nodup_append.1 this).1
    have nd2 : (sortFins (xs ++ [y]) ++ ys).Nodup := by
      have : (sortFins (xs ++ [y]) ++ ys).Perm (xs ++ y :: ys) := by
        have := (sortFins_perm (xs ++ [y])).append_right ys
        simpa using this
      exact this.nodup_iff.2 nd
    rw [addFin_sort sx hn, ih (sortFins_sorted nd1) nd2]
    refine sortFins_eq ?_ (sortFins_sorted nd)
    refine (sortFins_perm _).trans ?_
    have := ((sortFins_perm (xs ++ [y])).append_right ys).symm
    simpa using this
end Go.Proofs.Ytgfclcpnefinoaa.A
namespace Go.Proofs.Ytgfclcpnefinoaa.A
open Go
set_option linter.unusedSimpArgs false
set_option linter.unusedVariables false
def Shard.join (p q : Shard) : Shard := ⟨p.lo, q.hi, p.state, p.epoch, ⟨p.book.list ++ q.book.list⟩, sortFins (p.finished ++ q.finished)⟩
def Shard.joins (p q : Shard) : Bool := decide (((p.book.list ++ q.book.list).length : Int) ≤ 40) && decide (((p.finished ++ q.finished).length : Int) ≤ 60)
def Store.joinWith (s : Store) (j : Nat) (y : Shard) : Store := { s with shards := (s.shards.set j y).eraseIdx (j + 1) }
def joinShard (s : Store) (a e : Int) : Store × Bool :=
  bif s.next e && (decide (1 ≤ findAt s.shards a 0) && (((Shard.at_ s.shards ((findAt s.shards a 0).toNat - 1)).state == 0) && ((Shard.at_ s.shards ((findAt s.shards a 0).toNat - 1)).hi == a - 1))) then
    bif Shard.joins (Shard.at_ s.shards ((findAt s.shards a 0).toNat - 1)) (Shard.at_ s.shards (findAt s.shards a 0).toNat) then
      ((s.joinWith ((findAt s.shards a 0).toNat - 1) (Shard.join (Shard.at_ s.shards ((findAt s.shards a 0).toNat - 1)) (Shard.at_ s.shards (findAt s.shards a 0).toNat))).renew e, true) else (s, false)
  else (s, false)
theorem join_no {s : Store} {a e : Int} (h : s.next e = false) : joinShard s a e = (s, false) := by simp [joinShard, h]
theorem join_away {s : Store} {a e : Int} (h : findAt s.shards a 0 < 1) : joinShard s a e = (s, false) := by
  have : ¬ 1 ≤ findAt s.shards a 0 := by omega
  simp [joinShard, this]
theorem join_if {s : Store} {a e : Int} {j : Nat} (h0 : s.next e = true) (h : findAt s.shards a 0 = ((j + 1 : Nat) : Int)) : joinShard s a e = bif ((Shard.at_ s.shards j).state == 0) && ((Shard.at_ s.shards j).hi == a - 1) then
    (bif Shard.joins (Shard.at_ s.shards j) (Shard.at_ s.shards (j + 1)) then ((s.joinWith j (Shard.join (Shard.at_ s.shards j) (Shard.at_ s.shards (j + 1)))).renew e, true) else (s, false)) else (s, false) := by
  have : (1 : Int) ≤ (j : Int) + 1 := by omega
  simp [joinShard, h0, h, this]
theorem Shard.join_small {p q : Shard} (h : Shard.joins p q = true) : (Shard.join p q).Small := by
  simp only [Shard.joins, Bool.and_eq_true, decide_eq_true_eq] at h
  refine ⟨?_, ?_⟩
  · show (p.book.list ++ q.book.list).length ≤ 1048576; omega
  · show (sortFins (p.finished ++ q.finished)).length ≤ 1048576
    rw [sortFins_len]; omega
theorem Store.joinWith_small {s : Store} (sm : s.Small) (j : Nat) {y : Shard} (sy : y.Small) : (s.joinWith j y).Small := by
  refine ⟨Nat.le_trans (List.length_eraseIdx_le _ _) (by rw [List.length_set]; exact sm.1), fun b hb => ?_⟩
  have hb := (List.eraseIdx_sublist _ _).subset hb
  rcases List.mem_or_eq_of_mem_set hb with hb | hb
  · exact sm.2 b hb
  · exact hb ▸ sy
theorem joinShard_small {s : Store} (sm : s.Small) (a e : Int) : (joinShard s a e).1.Small := by
  unfold joinShard
  cases (s.next e && (decide (1 ≤ findAt s.shards a 0) && (((Shard.at_ s.shards ((findAt s.shards a 0).toNat - 1)).state == 0) && ((Shard.at_ s.shards ((findAt s.shards a 0).toNat - 1)).hi == a - 1)))) with
  | false => exact sm
  | true =>
    cases hj : Shard.joins (Shard.at_ s.shards ((findAt s.shards a 0).toNat - 1)) (Shard.at_ s.shards (findAt s.shards a 0).toNat) with
    | false => exact sm
    | true => exact Store.renew_small (Store.joinWith_small sm _ (Shard.join_small hj)) e
theorem Store.side {s : Store} (g : s.good = true) {j : Nat} (hj : j + 1 < s.shards.length) : (Shard.at_ s.shards j).good = true ∧ (Shard.at_ s.shards (j + 1)).good = true ∧ (Shard.at_ s.shards j).hi < (Shard.at_ s.shards (j + 1)).lo := by
  have h1 := Store.fit_at g (show j < s.shards.length by omega)
  have h2 := Store.fit_at g hj
  simp only [Store.fits, Bool.and_eq_true, Bool.or_eq_true, decide_eq_true_eq, beq_iff_eq, Nat.add_sub_cancel] at h1 h2
  refine ⟨h1.1, h2.1, ?_⟩
  rcases h2.2.2 with h | h
  · omega
  · exact h
theorem Shard.apart_fins {p q : Shard} (gp : p.good = true) (gq : q.good = true) (h : p.hi < q.lo) : (p.finished ++ q.finished).Nodup := by
  refine List.nodup_append.2 ⟨flt_nodup (Shard.good_sorted gp), flt_nodup (Shard.good_sorted gq), fun f hf f' hf' e => ?_⟩
  subst e
  have h1 := Shard.good_in gp hf
  have h2 := Shard.good_in gq hf'
  omega
theorem Store.join_renew {s : Store} {j : Nat} {y y' : Shard} {e : Int} (h : Shard.renew e y = Shard.renew e y') : (s.joinWith j y).renew e = (s.joinWith j y').renew e := by
  simp only [Store.renew, Store.joinWith, Store.mk.injEq, true_and]
  simp only [List.eraseIdx_eq_take_drop_succ, List.map_append, List.map_take, List.map_drop, List.map_set, h]
end Go.Proofs.Ytgfclcpnefinoaa.A
namespace Go.Proofs.Ytgfclcpnefinoaa.A
open Go
set_option linter.unusedSimpArgs false
set_option linter.unusedVariables false
section
variable {F : Nat → Option RF} {Z : CallF} {h : Heap} {x : Cell} {xs : List Fin} {fp : List Nat}
theorem foldl_next {α β : Type} {f : β → α → β} {b : β} {xs : List α} {i : Nat} (hi : i < xs.length) : (xs.take (i + 1)).foldl f b = f ((xs.take i).foldl f b) xs[i] := by
  rw [List.take_add_one, List.getElem?_eq_getElem hi, List.foldl_append]; rfl
theorem addStep_len (f : Fin) (put : Bool) : ∀ (xs : List Fin) (b : List Fin × Bool), (xs.foldl (addStep f) b).1.length ≤ b.1.length + 2 * xs.length
  | [], b => by simp
  | x :: xs, b => by
    rw [List.foldl_cons]
    have := addStep_len f put xs (addStep f b x)
    have h2 : (addStep f b x).1.length ≤ b.1.length + 2 := by
      unfold addStep
      cases (!b.2 && decide (flt f x)) <;> simp
    simp only [List.length_cons]
    omega
set_option maxHeartbeats 1000000 in
theorem l13AddFin_c (hS13 : Has F tS13) (hf : h.floor ≤ h.next) (w : SlR 9 (Fl Fin.enc) h x xs fp) (hl : xs.length ≤ 1048576) (f : Fin) :
    ∃ y g fq, call F Z 374 [.c x, .agg f.enc] h = some (.c y, g) ∧ On h g ∧ SlR 9 (Fl Fin.enc) g y (addFin xs f) fq ∧ Fre h fq := by
  have hwl := w.len
  have e1 := fun h' (w' : SlR 9 (Fl Fin.enc) h' x xs fp) => l13Has_run (F := F) (Z := Z) hS13 w' f
  have e2 := e1 _ (w.on (Fl.ok _) (On.push h []))
  have e3 := fun b (h : Heap) => l13Before_run (F := F) (Z := Z) hS13 f b h
  rw [call_run F Z (hS13.lk (g := 374) rfl) _ _ rfl]
  simp only [Fin.enc] at e2
  simp only [run0, run1, run2, run3, run4, noSlot, ownS, ownK, memN, RO.dst, lk, drop, forget, number, Nat.reduceBEq, cut?, splice?, builds, Nat.reduceAdd, Nat.reduceLeDiff, ↓reduceIte, reduceCtorEq, qqa, qqb, qqc, qqd, qqe, qqf, qqg, qqh, qqi, qqj, qqk, qql, qqm, qqn, qqo, qqp, qqq, qqr, qqs, qqt, qqu, qqv, qqw, qqx, qqy, Fin.enc, List.replicate_zero, fills, e2]
  obtain ⟨s', ⟨y, g, hs, a⟩, lp⟩ := loop_goes (F := F) (Z := Z) (live := [0, 3, 5, 6, 7]) (b := r374L0) xs.length (fun i st => ∃ y g, st = ⟨[(0, .c x), (5, .c y), (6, .c (.bool ((xs.take i).foldl (addStep f) ([], decide (f ∈ xs))).2)), (7, .c (.int .i64 (i : Nat)))], [(3, 3, 0)], [(3, f.enc)], g⟩ ∧ Acc 9 h g y (((xs.take i).foldl (addStep f) ([], decide (f ∈ xs))).1.map Fin.enc)) (fun i st hi' ⟨y, g, hs, a⟩ => by
    subst hs
    have hlt : (i : Int) < xs.length := by omega
    have hws := wrapS i (by omega)
    have hxi := w.idx hi'
    have hld2 : ∀ G, On h G → ∀ j n, loadP G x.sid i j n = cut? xs[i].enc j n := fun G o => (w.on (Fl.ok _) o).load hi'
    have hnx := foldl_next (f := addStep f) (b := ([], decide (f ∈ xs))) hi'
    have hlen := addStep_len f true (xs.take i) ([], decide (f ∈ xs))
    rw [List.length_take] at hlen
    rw [hnx]
    generalize (xs.take i).foldl (addStep f) ([], decide (f ∈ xs)) = st at *
    obtain ⟨rows, put⟩ := st
    dsimp only at a ⊢
    replace hlen : rows.length ≤ 2 * min i xs.length := by simpa using hlen
    rw [loop_run]
    conv in (codeF _ _ r374L0 _) => unfold r374L0
    have e4 := fun h => e3 xs[i] h
    generalize xs[i] = b at *
    have hst : addStep f (rows, put) b = bif !put && decide (flt f b) then (rows ++ [f] ++ [b], true) else (rows ++ [b], put) := rfl
    rw [hst]
    rw [cmp_flt] at e4
    obtain ⟨t, d⟩ := b
    obtain ⟨t', d'⟩ := f
    simp only [Fin.enc] at e4
    have a1 := a.one_eq hf (bytes := 16) (by rw [List.length_map]; omega) (Fin.enc ⟨t, d⟩)
    have a2 := a.one hf (by rw [List.length_map]; omega) (Fin.enc ⟨t, d⟩)
    have b1 := a.one_eq hf (bytes := 16) (by rw [List.length_map]; omega) (Fin.enc ⟨t', d'⟩)
    have b2 := a.one hf (by rw [List.length_map]; omega) (Fin.enc ⟨t', d'⟩)
    have hld3 := hld2 _ b2.on
    have hld := hld2 _ a.on
    have b3 := b2.one_eq hf (bytes := 16) (by rw [List.length_append, List.length_map]; simp; omega) (Fin.enc ⟨t, d⟩)
    have b4 := b2.one hf (by rw [List.length_append, List.length_map]; simp; omega) (Fin.enc ⟨t, d⟩)
    simp only [Fin.enc] at a1 a2 b1 b2 b3 b4 hld hld3
    cases put with
    | true =>
      simp only [run0, run1, run2, run3, run4, noSlot, ownS, ownK, memN, RO.dst, lk, drop, forget, number, Nat.reduceBEq, cut?, splice?, builds, Nat.reduceAdd, Nat.reduceLeDiff, ↓reduceIte, reduceCtorEq, qqa, qqb, qqc, qqd, qqe, qqf, qqg, qqh, qqi, qqj, qqk, qql, qqm, qqn, qqo, qqp, qqq, qqr, qqs, qqt, qqu, qqv, qqw, qqx, qqy, hwl, hlt, hxi, hld, Fin.enc, List.replicate_succ, List.replicate_zero, fills, and_self, Nat.zero_lt_one, List.set_cons_zero, a1, hws]
      exact ⟨_, ⟨_, _, rfl, by simpa [Fin.enc] using a2⟩, rfl⟩
    | false =>
      by_cases hb : flt ⟨t', d'⟩ ⟨t, d⟩
      · simp only [decide_eq_true hb] at e4
        simp only [hb]
        simp only [run0, run1, run2, run3, run4, noSlot, ownS, ownK, memN, RO.dst, lk, drop, forget, number, Nat.reduceBEq, cut?, splice?, builds, Nat.reduceAdd, Nat.reduceLeDiff, ↓reduceIte, reduceCtorEq, qqa, qqb, qqc, qqd, qqe, qqf, qqg, qqh, qqi, qqj, qqk, qql, qqm, qqn, qqo, qqp, qqq, qqr, qqs, qqt, qqu, qqv, qqw, qqx, qqy, hwl, hlt, hxi, hld, Fin.enc, e4, List.replicate_succ, List.replicate_zero, fills, and_self, Nat.zero_lt_one, List.set_cons_zero, b1, hld3, b3, hws]
        exact ⟨_, ⟨_, _, rfl, by simpa [Fin.enc] using b4⟩, rfl⟩
      · simp only [decide_eq_false hb] at e4
        simp only [hb]
        simp only [run0, run1, run2, run3, run4, noSlot, ownS, ownK, memN, RO.dst, lk, drop, forget, number, Nat.reduceBEq, cut?, splice?, builds, Nat.reduceAdd, Nat.reduceLeDiff, ↓reduceIte, reduceCtorEq, qqa, qqb, qqc, qqd, qqe, qqf, qqg, qqh, qqi, qqj, qqk, qql, qqm, qqn, qqo, qqp, qqq, qqr, qqs, qqt, qqu, qqv, qqw, qqx, qqy, hwl, hlt, hxi, hld, Fin.enc, e4, List.replicate_succ, List.replicate_zero, fills, and_self, Nat.zero_lt_one, List.set_cons_zero, a1, hws]
        exact ⟨_, ⟨_, _, rfl, by simpa [Fin.enc] using a2⟩, rfl⟩) (s := ⟨[(0, .c x), (5, .c (.sl 9 h.next 0 0)), (6, .c (.bool (decide (f ∈ xs)))), (7, .c (.int .i64 (0 : Nat)))], [(3, 3, 0)], [(3, f.enc)], h.push []⟩) ⟨_, _, rfl, Acc.lit0 (On.refl h)⟩
  subst hs
  rw [List.take_length] at a
  have hlt : ¬ (xs.length : Int) < xs.length := by omega
  have hlen := addStep_len f true xs ([], decide (f ∈ xs))
  simp only [show ((0 : Nat) : Int) = 0 from rfl, Fin.enc, List.take_length] at lp
  rw [lp, loop_run]
  conv in (codeF _ _ r374L0 _) => unfold r374L0
  simp only [List.length_nil, Nat.zero_add] at hlen
  cases hp : (xs.foldl (addStep f) ([], decide (f ∈ xs))).2 with
  | true =>
    have hr : addFin xs f = (xs.foldl (addStep f) ([], decide (f ∈ xs))).1 := by simp [addFin, hp]
    rw [hr]
    obtain ⟨o1, fy, wy, fyr⟩ := a.flat (enc := Fin.enc)
    simp only [run0, run1, run2, run3, run4, noSlot, ownS, ownK, memN, RO.dst, lk, drop, forget, number, Nat.reduceBEq, cut?, splice?, builds, Nat.reduceAdd, Nat.reduceLeDiff, ↓reduceIte, reduceCtorEq, qqa, qqb, qqc, qqd, qqe, qqf, qqg, qqh, qqi, qqj, qqk, qql, qqm, qqn, qqo, qqp, qqq, qqr, qqs, qqt, qqu, qqv, qqw, qqx, qqy, hwl, hlt]
    exact ⟨_, _, _, rfl, o1, wy, fyr⟩
  | false =>
    have hr : addFin xs f = (xs.foldl (addStep f) ([], decide (f ∈ xs))).1 ++ [f] := by simp [addFin, hp]
    rw [hr]
    have b1 := a.one_eq hf (bytes := 16) (by rw [List.length_map]; omega) f.enc
    have b2 := a.one hf (by rw [List.length_map]; omega) f.enc
    rw [show (xs.foldl (addStep f) ([], decide (f ∈ xs))).1.map Fin.enc ++ [f.enc] = ((xs.foldl (addStep f) ([], decide (f ∈ xs))).1 ++ [f]).map Fin.enc from by simp] at b2
    obtain ⟨o1, fy, wy, fyr⟩ := b2.flat (enc := Fin.enc)
    simp only [Fin.enc] at b1 o1 wy
    simp only [run0, run1, run2, run3, run4, noSlot, ownS, ownK, memN, RO.dst, lk, drop, forget, number, Nat.reduceBEq, cut?, splice?, builds, Nat.reduceAdd, Nat.reduceLeDiff, ↓reduceIte, reduceCtorEq, qqa, qqb, qqc, qqd, qqe, qqf, qqg, qqh, qqi, qqj, qqk, qql, qqm, qqn, qqo, qqp, qqq, qqr, qqs, qqt, qqu, qqv, qqw, qqx, qqy, hwl, hlt, List.replicate_succ, List.replicate_zero, fills, and_self, Nat.zero_lt_one, List.set_cons_zero, b1]
    exact ⟨_, _, _, rfl, o1, wy, fyr⟩
theorem l13AddFin_q (hS13 : Has F tS13) (w : SlR 9 (Fl Fin.enc) h x xs fp) (hl : xs.length ≤ 1048576) (f : Fin) :
    ∃ y h' g fq, call F Z 374 [.c x, .agg f.enc] ⟨h.next, h.next, h.get⟩ = some (.c y, h') ∧ Heap.mk h'.next h.floor h'.get = g ∧ On h g ∧ SlR 9 (Fl Fin.enc) g y (addFin xs f) fq ∧ Fre h fq := by
  obtain ⟨y, h', fq, e1, o, u, f⟩ := l13AddFin_c (Z := Z) (h := ⟨h.next, h.next, h.get⟩) hS13 (Nat.le_refl _) (w.up (Fl.ok _) h.next) hl f
  exact ⟨y, h', _, fq, e1, rfl, ⟨⟨o.ext.1, o.ext.2⟩, rfl⟩, u.up (Fl.ok _) h.floor, ⟨f.lo, f.nd⟩⟩
end
end Go.Proofs.Ytgfclcpnefinoaa.A
namespace Go.Proofs.Ytgfclcpnefinoaa.A
open Go
set_option linter.unusedSimpArgs false
set_option linter.unusedVariables false
section
variable {F : Nat → Option RF} {Z : CallF} {h : Heap} {c : Cell} {xs : List Shard} {fp fq fr : List Nat} {cs ds : List Cell} {s : Store} {x t : Shard}
end
end Go.Proofs.Ytgfclcpnefinoaa.A
namespace Go.Proofs.Ytgfclcpnefinoaa.A
open Go
set_option linter.unusedSimpArgs false
set_option linter.unusedVariables false
section
variable {F : Nat → Option RF} {Z : CallF} {h h1 : Heap} {c : Cell} {xs : List Shard} {fp fq fr : List Nat} {cs ds : List Cell} {s : Store} {x t : Shard}
theorem AccM.base {α : Type} {R : Rel α} {tag : Nat} {h0 h1 g : Heap} {y : Cell} {xs : List α} {fp : List Nat} (a : AccM R tag h1 g y xs fp) (o : On h0 h1) : AccM R tag h0 g y xs fp :=
  ⟨o.trans a.on, a.sh, ⟨fun id hid => Nat.le_trans o.ext.1 (a.fr.lo id hid), a.fr.nd⟩⟩
theorem AccM.old {α : Type} {R : Rel α} {tag : Nat} {h0 h1 g : Heap} {y : Cell} {xs : List α} {fp : List Nat} (a : AccM R tag h1 g y xs fp) (h : On h0 h1) {fy : List Nat} (hy : ∀ id, id ∈ fy → id < h1.next) : ∀ id, id ∈ fy → id ∉ fp := fun id h1 h2 => by
  have := hy id h1; have := a.fr.lo id h2; omega
end
end Go.Proofs.Ytgfclcpnefinoaa.A
namespace Go.Proofs.Ytgfclcpnefinoaa.A
open Go
set_option linter.unusedSimpArgs false
set_option linter.unusedVariables false
section
variable {F : Nat → Option RF} {Z : CallF} {h : Heap} {cs : List Cell} {fp : List Nat} {t : Shard}
end
end Go.Proofs.Ytgfclcpnefinoaa.A
namespace Go.Proofs.Ytgfclcpnefinoaa.A
open Go
set_option linter.unusedSimpArgs false
set_option linter.unusedVariables false
theorem Store.next_len {s : Store} {e : Int} (h : s.next e = true) : s.shards.length ≤ 8 := by
  simp only [Store.next, Store.good, Bool.and_eq_true, decide_eq_true_eq] at h
  omega
section
variable {F : Nat → Option RF} {Z : CallF} {h : Heap} {cs : List Cell} {fp : List Nat} {s : Store}
end
end Go.Proofs.Ytgfclcpnefinoaa.A
namespace Go.Proofs.Ytgfclcpnefinoaa.A
open Go
set_option linter.unusedSimpArgs false
set_option linter.unusedVariables false
section
variable {F : Nat → Option RF} {Z : CallF} {h : Heap} {cs : List Cell} {fp : List Nat} {s : Store}
theorem Store.side_wrap {s : Store} {a : Int} {j : Nat} (g : s.good = true) (ok : s.Ok) (hj : j + 1 < s.shards.length) (hl : (Shard.at_ s.shards (j + 1)).lo = a) (ha : 0 ≤ a ∧ a ≤ 18446744073709551615) : 1 ≤ a ∧ IntKind.u64.wrap (a - 1) = a - 1 := by
  have h1 := (Store.side g hj).2.2
  have h2 := (ok.shards _ (List.getElem_mem (show j < s.shards.length by omega)))
  rw [← Shard.at_get (show j < s.shards.length by omega)] at h2
  have h3 := h2.hi
  have : 1 ≤ a := by omega
  exact ⟨this, wrapU _ (by omega) (by omega)⟩
set_option maxHeartbeats 4000000 in
theorem sJoinShard_c (k : KS F) (hf : h.floor ≤ h.next) (v : Store.RI h cs s fp) (a e : Int) (ha : 0 ≤ a ∧ a ≤ 18446744073709551615) (ok : s.Ok) (sm : s.Small) :
    ∃ cs' h' fq, call F Z 364 [.agg cs, .c (.int .u64 a), .c (.int .i64 e)] h = some (.tup [.agg cs', .c (.bool (joinShard s a e).2)], h') ∧ On h h' ∧ Store.RI h' cs' (joinShard s a e).1 fq ∧ Fre h fq := by
  obtain ⟨l1, l2, l3⟩ := Store.lenI v
  obtain ⟨cs1, h1, fr, e1, o1, v1, f1⟩ := l13Copy_c (Z := Z) k hf v sm
  obtain ⟨m1, m2, m3⟩ := Store.lenI v1
  have e2 := l13Next_run (Z := Z) k v ok e
  have e3 := l13At_run (Z := Z) k.s13 v a 0
  rw [call_run F Z (k.s13.lk (g := 364) rfl) _ _ rfl]
  cases hn : s.next e with
  | false =>
    rw [hn] at e2
    rw [join_no hn]
    simp only [run0, run1, run2, run3, run4, noSlot, ownS, ownK, memN, RO.dst, lk, drop, forget, number, Nat.reduceBEq, cut?, splice?, builds, Nat.reduceAdd, Nat.reduceLeDiff, ↓reduceIte, reduceCtorEq, qqa, qqb, qqc, qqd, qqe, qqf, qqg, qqh, qqi, qqj, qqk, qql, qqm, qqn, qqo, qqp, qqq, qqr, qqs, qqt, qqu, qqv, qqw, qqx, qqy, l1, l2, l3, m1, m2, m3, e1, e2, e3]
    exact ⟨_, _, _, rfl, o1, v1, f1⟩
  | true =>
    rw [hn] at e2
    obtain ⟨x, p, rfl, hp, w⟩ := v
    subst hp
    rcases w.found (fun t => (t.lo == a) && (t.state == 0)) with q | ⟨j, q, hj, hpj, hx, _, _, hld⟩
    · change findAt s.shards a 0 = -1 at q
      rw [join_away (by omega)]
      rw [q] at e3
      simp only [run0, run1, run2, run3, run4, noSlot, ownS, ownK, memN, RO.dst, lk, drop, forget, number, Nat.reduceBEq, cut?, splice?, builds, Nat.reduceAdd, Nat.reduceLeDiff, ↓reduceIte, reduceCtorEq, qqa, qqb, qqc, qqd, qqe, qqf, qqg, qqh, qqi, qqj, qqk, qql, qqm, qqn, qqo, qqp, qqq, qqr, qqs, qqt, qqu, qqv, qqw, qqx, qqy, l1, l2, l3, m1, m2, m3, e1, e2, e3, Int.reduceLT, Int.reduceNeg]
      exact ⟨_, _, _, rfl, o1, v1, f1⟩
    change findAt s.shards a 0 = (j : Int) at q
    rw [q] at e3
    cases j with
    | zero =>
      rw [join_away (by omega)]
      have g0 : ((0 : Nat) : Int) < 1 := by omega
      simp only [run0, run1, run2, run3, run4, noSlot, ownS, ownK, memN, RO.dst, lk, drop, forget, number, Nat.reduceBEq, cut?, splice?, builds, Nat.reduceAdd, Nat.reduceLeDiff, ↓reduceIte, reduceCtorEq, qqa, qqb, qqc, qqd, qqe, qqf, qqg, qqh, qqi, qqj, qqk, qql, qqm, qqn, qqo, qqp, qqq, qqr, qqs, qqt, qqu, qqv, qqw, qqx, qqy, l1, l2, l3, m1, m2, m3, e1, e2, e3, g0]
      exact ⟨_, _, _, rfl, o1, v1, f1⟩
    | succ j =>
    rw [join_if hn q]
    have g0 : ¬ ((j + 1 : Nat) : Int) < 1 := by omega
    have hwl := w.len
    have hwe := w.le2
    have hgood : s.good = true := by
      simp only [Store.next, Bool.and_eq_true] at hn
      exact hn.1
    have hs := Store.side hgood hj
    have hpj' := hpj
    simp only [Bool.and_eq_true, beq_iff_eq] at hpj'
    obtain ⟨ha1, hw⟩ := Store.side_wrap hgood ok hj hpj'.1 ha
    have hw1 : IntKind.i64.wrap (((j + 1 : Nat) : Int) - 1) = (j : Int) := by
      rw [wrapI _ (by omega) (by omega)]; omega
    have hxj := w.idx (show j < s.shards.length by omega)
    obtain ⟨r0, f0, hld0, hR0, _⟩ := w.atR (show j < s.shards.length by omega)
    obtain ⟨r2, f2, hld2, hR2, _⟩ := w.atR hj
    have hR0' := hR0
    have hR2' := hR2
    obtain ⟨xb, pb, xf, pf, rfl, hfe, wb, wf⟩ := hR0
    obtain ⟨yb, qb, yf, qf, rfl, hge, ub, uf⟩ := hR2
    by_cases c1 : (Shard.at_ s.shards j).state = 0
    case neg =>
      have c1' : ((Shard.at_ s.shards j).state == 0) = false := by simpa using c1
      have c1n : ((Shard.at_ s.shards j).state != 0) = true := by simpa using c1
      rw [c1']
      simp only [Bool.false_and, cond_false]
      simp only [run0, run1, run2, run3, run4, noSlot, ownS, ownK, memN, RO.dst, lk, drop, forget, number, Nat.reduceBEq, cut?, splice?, builds, Nat.reduceAdd, Nat.reduceLeDiff, ↓reduceIte, reduceCtorEq, qqa, qqb, qqc, qqd, qqe, qqf, qqg, qqh, qqi, qqj, qqk, qql, qqm, qqn, qqo, qqp, qqq, qqr, qqs, qqt, qqu, qqv, qqw, qqx, qqy, l1, l2, l3, m1, m2, m3, e1, e2, e3, g0, hw1, hxj, hld0, c1n]
      exact ⟨_, _, _, rfl, o1, v1, f1⟩
    have c1' : ((Shard.at_ s.shards j).state == 0) = true := by simpa using c1
    have c1n : ((Shard.at_ s.shards j).state != 0) = false := by simpa using c1
    by_cases c2 : (Shard.at_ s.shards j).hi = a - 1
    case neg =>
      have c2' : ((Shard.at_ s.shards j).hi == a - 1) = false := by simpa using c2
      have c2n : ((Shard.at_ s.shards j).hi != a - 1) = true := by simpa using c2
      rw [c2', c1']
      simp only [Bool.and_false, cond_false]
      simp only [run0, run1, run2, run3, run4, noSlot, ownS, ownK, memN, RO.dst, lk, drop, forget, number, Nat.reduceBEq, cut?, splice?, builds, Nat.reduceAdd, Nat.reduceLeDiff, ↓reduceIte, reduceCtorEq, qqa, qqb, qqc, qqd, qqe, qqf, qqg, qqh, qqi, qqj, qqk, qql, qqm, qqn, qqo, qqp, qqq, qqr, qqs, qqt, qqu, qqv, qqw, qqx, qqy, l1, l2, l3, m1, m2, m3, e1, e2, e3, g0, hw1, hxj, hld0, c1n, hw, c2n]
      exact ⟨_, _, _, rfl, o1, v1, f1⟩
    have c2' : ((Shard.at_ s.shards j).hi == a - 1) = true := by simpa using c2
    have c2n : ((Shard.at_ s.shards j).hi != a - 1) = false := by simpa using c2
    rw [c1', c2']
    simp only [Bool.and_true, cond_true]
    have smp := Store.at_small sm (show j < s.shards.length by omega)
    have smq := Store.at_small sm hj
    have hbl := wb.len; have hfl := wf.len; have gbl := ub.len; have gfl := uf.len
    have hx1 := w.idx hj
    simp only [run0, run1, run2, run3, run4, noSlot, ownS, ownK, memN, RO.dst, lk, drop, forget, number, Nat.reduceBEq, cut?, splice?, builds, Nat.reduceAdd, Nat.reduceLeDiff, ↓reduceIte, reduceCtorEq, qqa, qqb, qqc, qqd, qqe, qqf, qqg, qqh, qqi, qqj, qqk, qql, qqm, qqn, qqo, qqp, qqq, qqr, qqs, qqt, qqu, qqv, qqw, qqx, qqy, l1, l2, l3, e2, e3, g0, hw1, hxj, hld0, c1n, hw, c2n, hx1, hld2, hbl, hfl, gbl, gfl]
    have sp1 : (Shard.at_ s.shards j).book.list.length ≤ 1048576 := smp.1
    have sp2 : (Shard.at_ s.shards j).finished.length ≤ 1048576 := smp.2
    have sq1 : (Shard.at_ s.shards (j + 1)).book.list.length ≤ 1048576 := smq.1
    have sq2 : (Shard.at_ s.shards (j + 1)).finished.length ≤ 1048576 := smq.2
    have w1 : IntKind.i64.wrap (((Shard.at_ s.shards j).book.list.length : Int) + ((Shard.at_ s.shards (j + 1)).book.list.length : Int)) = ((Shard.at_ s.shards j).book.list.length : Int) + ((Shard.at_ s.shards (j + 1)).book.list.length : Int) := wrapI _ (by omega) (by omega)
    have w2 : IntKind.i64.wrap (((Shard.at_ s.shards j).finished.length : Int) + ((Shard.at_ s.shards (j + 1)).finished.length : Int)) = ((Shard.at_ s.shards j).finished.length : Int) + ((Shard.at_ s.shards (j + 1)).finished.length : Int) := wrapI _ (by omega) (by omega)
    by_cases c3 : ((Shard.at_ s.shards j).book.list.length : Int) + ((Shard.at_ s.shards (j + 1)).book.list.length : Int) > 40
    · have hj0 : Shard.joins (Shard.at_ s.shards j) (Shard.at_ s.shards (j + 1)) = false := by
        simp only [Shard.joins, List.length_append, Bool.and_eq_false_iff, decide_eq_false_iff_not]; left; omega
      rw [hj0]
      simp only [cond_false]
      simp only [run0, run1, run2, run3, run4, noSlot, ownS, ownK, memN, RO.dst, lk, drop, forget, number, Nat.reduceBEq, cut?, splice?, builds, Nat.reduceAdd, Nat.reduceLeDiff, ↓reduceIte, reduceCtorEq, qqa, qqb, qqc, qqd, qqe, qqf, qqg, qqh, qqi, qqj, qqk, qql, qqm, qqn, qqo, qqp, qqq, qqr, qqs, qqt, qqu, qqv, qqw, qqx, qqy, w1, c3, l1, l2, l3, e1, m1, m2, m3]
      exact ⟨_, _, _, rfl, o1, v1, f1⟩
    by_cases c4 : ((Shard.at_ s.shards j).finished.length : Int) + ((Shard.at_ s.shards (j + 1)).finished.length : Int) > 60
    · have hj0 : Shard.joins (Shard.at_ s.shards j) (Shard.at_ s.shards (j + 1)) = false := by
        simp only [Shard.joins, List.length_append, Bool.and_eq_false_iff, decide_eq_false_iff_not]; right; omega
      rw [hj0]
      simp only [cond_false]
      simp only [run0, run1, run2, run3, run4, noSlot, ownS, ownK, memN, RO.dst, lk, drop, forget, number, Nat.reduceBEq, cut?, splice?, builds, Nat.reduceAdd, Nat.reduceLeDiff, ↓reduceIte, reduceCtorEq, qqa, qqb, qqc, qqd, qqe, qqf, qqg, qqh, qqi, qqj, qqk, qql, qqm, qqn, qqo, qqp, qqq, qqr, qqs, qqt, qqu, qqv, qqw, qqx, qqy, w1, w2, c3, c4, hfl, gfl, l1, l2, l3, e1, m1, m2, m3]
      exact ⟨_, _, _, rfl, o1, v1, f1⟩
    have hj1 : Shard.joins (Shard.at_ s.shards j) (Shard.at_ s.shards (j + 1)) = true := by
      simp only [Shard.joins, List.length_append, Bool.and_eq_true, decide_eq_true_eq]; omega
    rw [hj1]
    simp only [cond_true]
    obtain ⟨cs4, h4, ft, e4, o4, u4, f4⟩ := l13CopyShard_c (Z := Z) k.s10 k.s13 hf hR0' smp
    obtain ⟨b4, pb4, f4c, pf4, rfl, hq4, wb4, wf4⟩ := u4
    subst hq4
    clear e1 o1 v1 f1 m1 m2 m3 e2 e3
    simp only [run0, run1, run2, run3, run4, noSlot, ownS, ownK, memN, RO.dst, lk, drop, forget, number, Nat.reduceBEq, cut?, splice?, builds, Nat.reduceAdd, Nat.reduceLeDiff, ↓reduceIte, reduceCtorEq, qqa, qqb, qqc, qqd, qqe, qqf, qqg, qqh, qqi, qqj, qqk, qql, qqm, qqn, qqo, qqp, qqq, qqr, qqs, qqt, qqu, qqv, qqw, qqx, qqy, w1, w2, c3, c4, hfl, gfl, e4]
    obtain ⟨n4a, n4b, n4c⟩ := List.nodup_append.1 f4.nd
    obtain ⟨s', ⟨y, g, fy, hs', ay, wz, dz⟩, lp⟩ := loop_goes (F := F) (Z := Z) (live := [2, 3, 6, 8, 10, 11, 12]) (b := r364L2) (Shard.at_ s.shards (j + 1)).book.list.length (fun i st => ∃ y g fy, st = ⟨[(2, .c (.int .i64 e)), (8, .c (.int .i64 ((j + 1 : Nat) : Int))), (12, .c (.int .i64 (i : Nat)))], [(3, 3, 0), (6, 6, 0), (10, 10, 0), (11, 11, 0)],
        [(3, [.int .i64 s.group, .int .i64 s.seen, x]), (6, [.int .i64 0, .int .i64 0, .nil]), (10, [.int .u64 (Shard.at_ s.shards (j + 1)).lo, .int .u64 (Shard.at_ s.shards (j + 1)).hi, .int .i64 (Shard.at_ s.shards (j + 1)).state, .int .i64 (Shard.at_ s.shards (j + 1)).epoch, yb, yf]), (11, [.int .u64 (Shard.at_ s.shards j).lo, .int .u64 (Shard.at_ s.shards (j + 1)).hi, .int .i64 (Shard.at_ s.shards j).state, .int .i64 e, y, f4c])], g⟩ ∧
        AccM (Fl Account.enc) 11 h g y ((Shard.at_ s.shards j).book.list ++ (Shard.at_ s.shards (j + 1)).book.list.take i) fy ∧ SlR 9 (Fl Fin.enc) g f4c (Shard.at_ s.shards j).finished pf4 ∧ ∀ id, id ∈ pf4 → id ∉ fy) (fun i st hi ⟨y, g, fy, hs', ay, wz, dz⟩ => by
      subst hs'
      have hlt : (i : Int) < (Shard.at_ s.shards (j + 1)).book.list.length := by omega
      have hws := wrapS i (by omega)
      have hxi := ub.idx hi
      have hld := (ub.on (Fl.ok _) ay.on).load hi
      have hln : ((Shard.at_ s.shards j).book.list ++ (Shard.at_ s.shards (j + 1)).book.list.take i).length ≤ 2097152 := by
        rw [List.length_append, List.length_take]; omega
      have htk : (Shard.at_ s.shards (j + 1)).book.list.take (i + 1) = (Shard.at_ s.shards (j + 1)).book.list.take i ++ [(Shard.at_ s.shards (j + 1)).book.list[i]] := by
        rw [List.take_add_one, List.getElem?_eq_getElem hi]; rfl
      rw [htk, ← List.append_assoc]
      generalize (Shard.at_ s.shards (j + 1)).book.list[i] = b at *
      obtain ⟨y', g', f', e5, a5, n1, n2, n3⟩ := ay.one (Fl.ok _) hf (bytes := 40) (by omega) (by omega) (On.refl g) (cs := b.enc) (t := b) (fq := []) ⟨rfl, rfl⟩ (Fre.nil _) (fun _ h => nomatch h)
      have wlt := wz.lt (Fl.ok _)
      simp only [Account.enc] at hld e5
      rw [loop_run]
      conv in (codeF _ _ r364L2 _) => unfold r364L2
      simp only [run0, run1, run2, run3, run4, noSlot, ownS, ownK, memN, RO.dst, lk, drop, forget, number, Nat.reduceBEq, cut?, splice?, builds, Nat.reduceAdd, Nat.reduceLeDiff, ↓reduceIte, reduceCtorEq, qqa, qqb, qqc, qqd, qqe, qqf, qqg, qqh, qqi, qqj, qqk, qql, qqm, qqn, qqo, qqp, qqq, qqr, qqs, qqt, qqu, qqv, qqw, qqx, qqy, gbl, hlt, hxi, hld, List.replicate_succ, List.replicate_zero, fills, and_self, Nat.zero_lt_one, List.set_cons_zero, e5, hws]
      exact ⟨_, ⟨_, _, _, rfl, a5, wz.mv (Fl.ok _) n1 fun id hid => n3 id (wlt id hid) (dz id hid), fun id h1 h2 => by
        rcases n2 id h2 with h3 | h3 | h3
        · exact dz id h1 h3
        · cases h3
        · have := wlt id h1; omega⟩, rfl⟩) (s := ⟨[(2, .c (.int .i64 e)), (8, .c (.int .i64 ((j + 1 : Nat) : Int))), (12, .c (.int .i64 (0 : Nat)))], [(3, 3, 0), (6, 6, 0), (10, 10, 0), (11, 11, 0)],
        [(3, [.int .i64 s.group, .int .i64 s.seen, x]), (6, [.int .i64 0, .int .i64 0, .nil]), (10, [.int .u64 (Shard.at_ s.shards (j + 1)).lo, .int .u64 (Shard.at_ s.shards (j + 1)).hi, .int .i64 (Shard.at_ s.shards (j + 1)).state, .int .i64 (Shard.at_ s.shards (j + 1)).epoch, yb, yf]), (11, [.int .u64 (Shard.at_ s.shards j).lo, .int .u64 (Shard.at_ s.shards (j + 1)).hi, .int .i64 (Shard.at_ s.shards j).state, .int .i64 e, b4, f4c])], h4⟩)
        ⟨_, _, _, rfl, ⟨o4, by simpa using wb4, ⟨fun id hid => f4.lo id (List.mem_append_left _ hid), n4a⟩⟩, wf4, fun id h1 h2 => n4c id h2 id h1 rfl⟩
    subst hs'
    simp only [show ((0 : Nat) : Int) = 0 from rfl] at lp
    have hlt : ¬ ((Shard.at_ s.shards (j + 1)).book.list.length : Int) < (Shard.at_ s.shards (j + 1)).book.list.length := by omega
    rw [lp, loop_run]
    conv in (codeF _ _ r364L2 _) => unfold r364L2
    simp only [run0, run1, run2, run3, run4, noSlot, ownS, ownK, memN, RO.dst, lk, drop, forget, number, Nat.reduceBEq, cut?, splice?, builds, Nat.reduceAdd, Nat.reduceLeDiff, ↓reduceIte, reduceCtorEq, qqa, qqb, qqc, qqd, qqe, qqf, qqg, qqh, qqi, qqj, qqk, qql, qqm, qqn, qqo, qqp, qqq, qqr, qqs, qqt, qqu, qqv, qqw, qqx, qqy, gbl, hlt]
    clear lp
    rw [List.take_length] at ay
    have hng := ay.on.ext.1
    have hfg := ay.on.le hf
    have uf2 := uf.on (Fl.ok _) ay.on
    have nodA := Shard.apart_fins hs.1 hs.2.1 hs.2.2
    have hfold : ∀ i, i ≤ (Shard.at_ s.shards (j + 1)).finished.length → ((Shard.at_ s.shards (j + 1)).finished.take i).foldl addFin (Shard.at_ s.shards j).finished = sortFins ((Shard.at_ s.shards j).finished ++ (Shard.at_ s.shards (j + 1)).finished.take i) := fun i _ => by
      refine addFins (Shard.good_sorted hs.1) ?_
      exact nodA.sublist ((List.take_sublist _ _).append_left _)
    obtain ⟨s', ⟨z, g2, fz, hs', og, wz2, fz2, dz2⟩, lp⟩ := loop_goes (F := F) (Z := Z) (live := [2, 3, 6, 8, 10, 11, 13]) (b := r364L1) (Shard.at_ s.shards (j + 1)).finished.length (fun i st => ∃ z g2 fz, st = ⟨[(2, .c (.int .i64 e)), (8, .c (.int .i64 ((j + 1 : Nat) : Int))), (13, .c (.int .i64 (i : Nat)))], [(3, 3, 0), (6, 6, 0), (10, 10, 0), (11, 11, 0)], [(3, [.int .i64 s.group, .int .i64 s.seen, x]), (6, [.int .i64 0, .int .i64 0, .nil]), (10, [.int .u64 (Shard.at_ s.shards (j + 1)).lo, .int .u64 (Shard.at_ s.shards (j + 1)).hi, .int .i64 (Shard.at_ s.shards (j + 1)).state, .int .i64 (Shard.at_ s.shards (j + 1)).epoch, yb, yf]), (11, [.int .u64 (Shard.at_ s.shards j).lo, .int .u64 (Shard.at_ s.shards (j + 1)).hi, .int .i64 (Shard.at_ s.shards j).state, .int .i64 e, y, z])], g2⟩ ∧
        On g g2 ∧ SlR 9 (Fl Fin.enc) g2 z (((Shard.at_ s.shards (j + 1)).finished.take i).foldl addFin (Shard.at_ s.shards j).finished) fz ∧ Fre h fz ∧ ∀ id, id ∈ fz → id ∉ fy) (fun i st hi ⟨z, g2, fz, hs', og, wz2, fz2, dz2⟩ => by
      subst hs'
      have hlt : (i : Int) < (Shard.at_ s.shards (j + 1)).finished.length := by omega
      have hws := wrapS i (by omega)
      have hxi := uf.idx hi
      have hld := (uf2.on (Fl.ok _) og).load hi
      have hnx := foldl_next (f := addFin) (b := (Shard.at_ s.shards j).finished) hi
      have hlen : (((Shard.at_ s.shards (j + 1)).finished.take i).foldl addFin (Shard.at_ s.shards j).finished).length ≤ 1048576 := by
        rw [hfold i (by omega), sortFins_len, List.length_append, List.length_take]; omega
      obtain ⟨z', h', g', fq', e5, hg5, o5, w5, f5⟩ := l13AddFin_q (Z := Z) k.s13 wz2 hlen (Shard.at_ s.shards (j + 1)).finished[i]
      rw [← hnx] at w5
      generalize (Shard.at_ s.shards (j + 1)).finished[i] = b at *
      have hylt := ay.sh.lt (Fl.ok _)
      have hn2 := og.ext.1
      simp only [Fin.enc] at hld e5
      rw [loop_run]
      conv in (codeF _ _ r364L1 _) => unfold r364L1
      simp only [run0, run1, run2, run3, run4, noSlot, ownS, ownK, memN, RO.dst, lk, drop, forget, number, Nat.reduceBEq, cut?, splice?, builds, Nat.reduceAdd, Nat.reduceLeDiff, ↓reduceIte, reduceCtorEq, qqa, qqb, qqc, qqd, qqe, qqf, qqg, qqh, qqi, qqj, qqk, qql, qqm, qqn, qqo, qqp, qqq, qqr, qqs, qqt, qqu, qqv, qqw, qqx, qqy, gfl, hlt, hxi, hld, e5, hg5, hws]
      exact ⟨_, ⟨_, _, _, rfl, og.trans o5, w5, ⟨fun id hid => by have := f5.lo id hid; have := ay.on.ext.1; omega, f5.nd⟩, fun id h1 h2 => by
        have := f5.lo id h1; have := hylt id h2; omega⟩, rfl⟩) (s := ⟨[(2, .c (.int .i64 e)), (8, .c (.int .i64 ((j + 1 : Nat) : Int))), (13, .c (.int .i64 (0 : Nat)))], [(3, 3, 0), (6, 6, 0), (10, 10, 0), (11, 11, 0)], [(3, [.int .i64 s.group, .int .i64 s.seen, x]), (6, [.int .i64 0, .int .i64 0, .nil]), (10, [.int .u64 (Shard.at_ s.shards (j + 1)).lo, .int .u64 (Shard.at_ s.shards (j + 1)).hi, .int .i64 (Shard.at_ s.shards (j + 1)).state, .int .i64 (Shard.at_ s.shards (j + 1)).epoch, yb, yf]), (11, [.int .u64 (Shard.at_ s.shards j).lo, .int .u64 (Shard.at_ s.shards (j + 1)).hi, .int .i64 (Shard.at_ s.shards j).state, .int .i64 e, y, f4c])], g⟩) ⟨_, _, _, rfl, On.refl g, by simpa using wz, ⟨fun id hid => f4.lo id (List.mem_append_right _ hid), n4b⟩, dz⟩
    subst hs'
    simp only [show ((0 : Nat) : Int) = 0 from rfl] at lp
    have hlt : ¬ ((Shard.at_ s.shards (j + 1)).finished.length : Int) < (Shard.at_ s.shards (j + 1)).finished.length := by omega
    rw [lp, loop_run]
    conv in (codeF _ _ r364L1 _) => unfold r364L1
    simp only [run0, run1, run2, run3, run4, noSlot, ownS, ownK, memN, RO.dst, lk, drop, forget, number, Nat.reduceBEq, cut?, splice?, builds, Nat.reduceAdd, Nat.reduceLeDiff, ↓reduceIte, reduceCtorEq, qqa, qqb, qqc, qqd, qqe, qqf, qqg, qqh, qqi, qqj, qqk, qql, qqm, qqn, qqo, qqp, qqq, qqr, qqs, qqt, qqu, qqv, qqw, qqx, qqy, gfl, hlt]
    clear lp
    rw [hfold _ (Nat.le_refl _), List.take_length] at wz2
    have hY : Shard.RI g2 [.int .u64 (Shard.at_ s.shards j).lo, .int .u64 (Shard.at_ s.shards (j + 1)).hi, .int .i64 (Shard.at_ s.shards j).state, .int .i64 e, y, z] { Shard.join (Shard.at_ s.shards j) (Shard.at_ s.shards (j + 1)) with epoch := e } (fy ++ fz) :=
      ⟨y, fy, z, fz, rfl, rfl, ay.sh.on (Fl.ok _) og, wz2⟩
    have hYf : Fre h (fy ++ fz) := ⟨fun id hid => by
      rcases List.mem_append.1 hid with h1 | h1
      · exact ay.fr.lo id h1
      · exact fz2.lo id h1, List.nodup_append.2 ⟨ay.fr.nd, fz2.nd, fun a1 h1 b1 h2 e => by subst e; exact dz2 a1 h2 h1⟩⟩
    have og2 := ay.on.trans og
    have hYlt := Shard.okI.lt hY
    have w2' := w.on Shard.okI og2
    generalize hYd : ({ Shard.join (Shard.at_ s.shards j) (Shard.at_ s.shards (j + 1)) with epoch := e } : Shard) = Y at hY
    clear wz2 wz wf4 wb4 uf2 ub uf wb wf ay hld0 hld2 hR0' hR2' hld
    have h8 : s.shards.length ≤ 8 := Store.next_len hn
    have hslen : ∀ i, (((s.shards.set j Y).take i).eraseIdx (j + 1)).length ≤ 8 := fun i => by
      refine Nat.le_trans (List.length_eraseIdx_le _ _) ?_
      rw [List.length_take, List.length_set]; omega
    obtain ⟨s', ⟨y3, g3, f3, hs', a3, ap3⟩, lp⟩ := loop_goes (F := F) (Z := Z) (live := [2, 3, 6, 8, 11, 14, 15]) (b := r364L0) s.shards.length (fun i st => ∃ y3 g3 f3, st = ⟨[(2, .c (.int .i64 e)), (8, .c (.int .i64 ((j + 1 : Nat) : Int))), (15, .c (.int .i64 (i : Nat)))], [(3, 3, 0), (6, 6, 0), (11, 11, 0), (14, 14, 0)], [(3, [.int .i64 s.group, .int .i64 s.seen, x]), (6, [.int .i64 0, .int .i64 0, .nil]), (11, [.int .u64 (Shard.at_ s.shards j).lo, .int .u64 (Shard.at_ s.shards (j + 1)).hi, .int .i64 (Shard.at_ s.shards j).state, .int .i64 e, y, z]), (14, [.int .i64 s.group, .int .i64 e, y3])], g3⟩ ∧
        AccM Shard.RI 16 h g3 y3 (((s.shards.set j Y).take i).eraseIdx (j + 1)) f3 ∧ (i ≤ j → AccM Shard.RI 16 g2 g3 y3 (((s.shards.set j Y).take i).eraseIdx (j + 1)) f3)) (fun i st hi ⟨y3, g3, f3, hs', a3, ap3⟩ => by
      subst hs'
      have hl3 : (i : Int) < s.shards.length := by omega
      have hws := wrapS i (by omega)
      have hxi := w.idx hi
      have hsl := hslen i
      have hi' : i < (s.shards.set j Y).length := by rw [List.length_set]; exact hi
      rw [loop_run]
      conv in (codeF _ _ r364L0 _) => unfold r364L0
      by_cases hij : i = j
      · subst hij
        have ap := ap3 (Nat.le_refl _)
        obtain ⟨y', g', fp', e5, a5, _⟩ := a3.one (g := g3) Shard.okI hf (bytes := 80) (by omega) (by omega) (On.refl g3) (Shard.okI.on hY ap.on) ⟨hYf.lo, hYf.nd⟩ (ap.old (On.refl g2) hYlt)
        have hnx := erase_next (xs := s.shards.set i Y) (i := i) (k := i + 1) hi' (by omega)
        rw [List.getElem_set_self] at hnx
        rw [← hnx] at a5
        have hself : ((i : Int) == (i : Int)) = true := by simp
        simp only [run0, run1, run2, run3, run4, noSlot, ownS, ownK, memN, RO.dst, lk, drop, forget, number, Nat.reduceBEq, cut?, splice?, builds, Nat.reduceAdd, Nat.reduceLeDiff, ↓reduceIte, reduceCtorEq, qqa, qqb, qqc, qqd, qqe, qqf, qqg, qqh, qqi, qqj, qqk, qql, qqm, qqn, qqo, qqp, qqq, qqr, qqs, qqt, qqu, qqv, qqw, qqx, qqy, hwl, hl3, hw1, hself, List.replicate_succ, List.replicate_zero, fills, and_self, Nat.zero_lt_one, List.set_cons_zero, e5, hws]
        exact ⟨_, ⟨_, _, _, rfl, a5, fun hc => by omega⟩, rfl⟩
      have hne : ((i : Int) == (j : Int)) = false := by
        have : ¬ (i : Int) = (j : Int) := by omega
        simpa using this
      by_cases hij2 : i = j + 1
      · subst hij2
        have hsk := erase_skip hi'
        rw [← hsk] at a3
        have hself : (((j + 1 : Nat) : Int) != ((j + 1 : Nat) : Int)) = false := by simp
        simp only [run0, run1, run2, run3, run4, noSlot, ownS, ownK, memN, RO.dst, lk, drop, forget, number, Nat.reduceBEq, cut?, splice?, builds, Nat.reduceAdd, Nat.reduceLeDiff, ↓reduceIte, reduceCtorEq, qqa, qqb, qqc, qqd, qqe, qqf, qqg, qqh, qqi, qqj, qqk, qql, qqm, qqn, qqo, qqp, qqq, qqr, qqs, qqt, qqu, qqv, qqw, qqx, qqy, hwl, hl3, hw1, hne, hself, hws]
        exact ⟨_, ⟨_, _, _, rfl, a3, fun hc => by omega⟩, rfl⟩
      · have hne2 : ((i : Int) != ((j + 1 : Nat) : Int)) = true := by
          have : ¬ (i : Int) = ((j + 1 : Nat) : Int) := by omega
          simpa using this
        have hnx := erase_next (xs := s.shards.set j Y) (i := i) (k := j + 1) hi' hij2
        rw [List.getElem_set_ne (fun e => hij e.symm)] at hnx
        obtain ⟨r, f, hld, hR, _⟩ := (w.on Shard.okI a3.on).one hi
        obtain ⟨r1, r2, r3⟩ := Shard.lenI hR
        obtain ⟨cs', h', g1, fr, e1, hg1, o1, u1, f1, c1⟩ := l13CopyShard_q (Z := Z) k.s10 k.s13 hR (sm.2 _ (List.getElem_mem hi))
        by_cases hle : i ≤ j
        · obtain ⟨y', g', fp', e2, a2⟩ := (ap3 hle).next (og2.le hf) (by omega) o1 u1 f1
          rw [← hnx] at a2
          simp only [run0, run1, run2, run3, run4, noSlot, ownS, ownK, memN, RO.dst, lk, drop, forget, number, Nat.reduceBEq, cut?, splice?, builds, Nat.reduceAdd, Nat.reduceLeDiff, ↓reduceIte, reduceCtorEq, qqa, qqb, qqc, qqd, qqe, qqf, qqg, qqh, qqi, qqj, qqk, qql, qqm, qqn, qqo, qqp, qqq, qqr, qqs, qqt, qqu, qqv, qqw, qqx, qqy, hwl, hl3, hxi, hw1, hne, hne2, hld, r1, r2, r3, e1, hg1, List.replicate_succ, List.replicate_zero, fills, and_self, Nat.zero_lt_one, c1, List.set_cons_zero, e2, hws]
          exact ⟨_, ⟨_, _, _, rfl, a2.base og2, fun _ => a2⟩, rfl⟩
        · obtain ⟨y', g', fp', e2, a2⟩ := a3.next hf (by omega) o1 u1 f1
          rw [← hnx] at a2
          simp only [run0, run1, run2, run3, run4, noSlot, ownS, ownK, memN, RO.dst, lk, drop, forget, number, Nat.reduceBEq, cut?, splice?, builds, Nat.reduceAdd, Nat.reduceLeDiff, ↓reduceIte, reduceCtorEq, qqa, qqb, qqc, qqd, qqe, qqf, qqg, qqh, qqi, qqj, qqk, qql, qqm, qqn, qqo, qqp, qqq, qqr, qqs, qqt, qqu, qqv, qqw, qqx, qqy, hwl, hl3, hxi, hw1, hne, hne2, hld, r1, r2, r3, e1, hg1, List.replicate_succ, List.replicate_zero, fills, and_self, Nat.zero_lt_one, c1, List.set_cons_zero, e2, hws]
          exact ⟨_, ⟨_, _, _, rfl, a2, fun hc => by omega⟩, rfl⟩) (s := ⟨[(2, .c (.int .i64 e)), (8, .c (.int .i64 ((j + 1 : Nat) : Int))), (15, .c (.int .i64 (0 : Nat)))], [(3, 3, 0), (6, 6, 0), (11, 11, 0), (14, 14, 0)], [(3, [.int .i64 s.group, .int .i64 s.seen, x]), (6, [.int .i64 0, .int .i64 0, .nil]), (11, [.int .u64 (Shard.at_ s.shards j).lo, .int .u64 (Shard.at_ s.shards (j + 1)).hi, .int .i64 (Shard.at_ s.shards j).state, .int .i64 e, y, z]), (14, [.int .i64 s.group, .int .i64 e, .nil])], g2⟩) ⟨_, _, _, rfl, by simpa using AccM.none Shard.RI 16 og2, fun _ => by simpa using AccM.nil Shard.RI 16 g2⟩
    subst hs'
    simp only [show ((0 : Nat) : Int) = 0 from rfl] at lp
    have hlt : ¬ (s.shards.length : Int) < s.shards.length := by omega
    have htl : (s.shards.set j Y).take s.shards.length = s.shards.set j Y := by
      rw [List.take_of_length_le (by rw [List.length_set]; exact Nat.le_refl _)]
    rw [htl] at a3
    have smY : Y.Small := by rw [← hYd]; exact Shard.join_small hj1
    obtain ⟨cs5, h5, f5, e5, o5, v5, r5⟩ := l13Renew_c (Z := Z) k (s := ⟨s.group, e, (s.joinWith j Y).shards⟩) (a3.on.le hf) ⟨y3, _, rfl, rfl, a3.sh⟩ (Store.joinWith_small sm j smY) e
    have hre : (⟨s.group, e, (s.joinWith j Y).shards⟩ : Store).renew e = (s.joinWith j (Shard.join (Shard.at_ s.shards j) (Shard.at_ s.shards (j + 1)))).renew e := by
      refine Eq.trans (rfl : _ = (s.joinWith j Y).renew e) (Store.join_renew ?_)
      rw [← hYd]
      simp only [Shard.renew, Shard.join, c1', cond_true]
    rw [hre] at v5
    obtain ⟨n1, n2, n3⟩ := Store.lenI v5
    rw [lp, loop_run]
    conv in (codeF _ _ r364L0 _) => unfold r364L0
    simp only [run0, run1, run2, run3, run4, noSlot, ownS, ownK, memN, RO.dst, lk, drop, forget, number, Nat.reduceBEq, cut?, splice?, builds, Nat.reduceAdd, Nat.reduceLeDiff, ↓reduceIte, reduceCtorEq, qqa, qqb, qqc, qqd, qqe, qqf, qqg, qqh, qqi, qqj, qqk, qql, qqm, qqn, qqo, qqp, qqq, qqr, qqs, qqt, qqu, qqv, qqw, qqx, qqy, hwl, hlt, e5, n1, n2, n3]
    exact ⟨_, _, _, rfl, a3.on.trans o5, v5, ⟨fun id hid => Nat.le_trans a3.on.ext.1 (r5.lo id hid), r5.nd⟩⟩
end
end Go.Proofs.Ytgfclcpnefinoaa.A
namespace Go.Proofs.Ytgfclcpnefinoaa.A
open Go
set_option linter.unusedSimpArgs false
set_option linter.unusedVariables false
section
variable {α : Type} {R : Rel α} {tag : Nat} {h0 h g : Heap} {x y : Cell} {xs ys : List α} {fp fq : List Nat}
theorem AllR.turnF (ok : RelOk R) {h' : Heap} (hn : h.next ≤ h'.next) {r' : List Cell} {t' : α} {f' : List Nat} : ∀ {rows : List (List Cell)} {xs : List α} {fps : List (List Nat)}, AllR R h rows xs fps → ∀ (i : Nat) (f : List Nat), fps[i]? = some f → fps.flatten.Nodup →
    (∀ id, id ∈ fps.flatten → id ∉ f → h'.get id = h.get id) → R h' r' t' f' → AllR R h' (rows.set i r') (xs.set i t') (fps.set i f')
  | [], [], [], _, i, f, e, _, _, _ => by simp at e
  | r :: rs, a :: bs, g :: gs, ⟨w0, w⟩, 0, f, e, nd, hg, v => by
    simp only [List.getElem?_cons_zero, Option.some.injEq] at e
    subst e
    rw [List.flatten_cons] at nd
    obtain ⟨n1, n2, n3⟩ := List.nodup_append.1 nd
    exact ⟨v, w.mv ok hn fun id hid => hg id (by rw [List.flatten_cons, List.mem_append]; exact .inr hid) fun hf => n3 id hf id hid rfl⟩
  | r :: rs, a :: bs, g :: gs, ⟨w0, w⟩, i + 1, f, e, nd, hg, v => by
    simp only [List.getElem?_cons_succ] at e
    rw [List.flatten_cons] at nd
    obtain ⟨n1, n2, n3⟩ := List.nodup_append.1 nd
    exact ⟨ok.mv w0 hn fun id hid => hg id (by rw [List.flatten_cons, List.mem_append]; exact .inl hid) fun hf => n3 id hid id (List.mem_flatten.2 ⟨f, List.mem_of_getElem? e, hf⟩) rfl,
      AllR.turnF ok hn w i f e n2 (fun id hid hf => hg id (by rw [List.flatten_cons, List.mem_append]; exact .inr hid) hf) v⟩
  | [], [], _ :: _, w, _, _, _, _, _, _ => w.elim
  | [], _ :: _, _, w, _, _, _, _, _, _ => w.elim
  | _ :: _, [], _, w, _, _, _, _, _, _ => w.elim
  | _ :: _, _ :: _, [], w, _, _, _, _, _, _ => w.elim
theorem flat_apart {f f2 : List Nat} : ∀ (fps : List (List Nat)) (i k : Nat), fps[i]? = some f → fps[k]? = some f2 → k ≠ i → fps.flatten.Nodup → ∀ id, id ∈ f2 → id ∉ f
  | [], i, k, h, _, _, _, _, _, _ => by simp at h
  | g :: r, 0, 0, _, _, hne, _, _, _, _ => absurd rfl hne
  | g :: r, 0, k + 1, h, h2, _, nd, id, h3, h4 => by
    simp only [List.getElem?_cons_zero, Option.some.injEq] at h
    subst h
    rw [List.flatten_cons] at nd
    exact (List.nodup_append.1 nd).2.2 id h4 id (List.mem_flatten.2 ⟨f2, List.mem_of_getElem? (by simpa using h2), h3⟩) rfl
  | g :: r, i + 1, 0, h, h2, _, nd, id, h3, h4 => by
    simp only [List.getElem?_cons_zero, Option.some.injEq] at h2
    subst h2
    rw [List.flatten_cons] at nd
    exact (List.nodup_append.1 nd).2.2 id h3 id (List.mem_flatten.2 ⟨f, List.mem_of_getElem? (by simpa using h), h4⟩) rfl
  | g :: r, i + 1, k + 1, h, h2, hne, nd, id, h3, h4 => by
    rw [List.flatten_cons] at nd
    exact flat_apart r i k (by simpa using h) (by simpa using h2) (by omega) (List.nodup_append.1 nd).2.1 id h3 h4
theorem SlR.turnF (ok : RelOk R) (w : SlR tag R h x xs fp) (nd : fp.Nodup) {i : Nat} (hi : i < xs.length) :
    ∃ r f, ∃ rows : List (List Cell), R h r xs[i] f ∧ (∀ id, id ∈ f → id ∈ fp) ∧ f.Nodup ∧ x.sid ∈ fp ∧ x.sid ∉ f ∧ x.sid < h.next ∧ h.get x.sid = some rows ∧ rows[i]? = some r ∧ i < rows.length ∧
      (∀ k (hk : k < xs.length), k ≠ i → ∃ r2 f2, R h r2 xs[k] f2 ∧ rows[k]? = some r2 ∧ ∀ id, id ∈ f2 → id ∈ fp ∧ id ∉ f ∧ id ≠ x.sid) ∧
      ∀ h' r' t' f', h.next ≤ h'.next → (∀ id, id ∈ fp → id ≠ x.sid → id ∉ f → h'.get id = h.get id) → h'.get x.sid = some (rows.set i r') → R h' r' t' f' → f'.Nodup → (∀ id, id ∈ f' → id ∈ f ∨ id ∉ fp) →
        ∃ fp', SlR tag R h' x (xs.set i t') fp' ∧ fp'.Nodup ∧ ∀ id, id ∈ fp' → id ∈ fp ∨ id ∈ f' := by
  rcases w with ⟨hl, ⟨rfl, rfl, rfl⟩ | ⟨id, rows, fps, rfl, q1, q2, rfl, q3⟩⟩
  · exact absurd hi (Nat.not_lt_zero _)
  obtain ⟨r, f, e1, e2, v⟩ := q3.at i hi
  have hn := List.nodup_cons.1 nd
  have hin : ∀ j, j ∈ f → j ∈ fps.flatten := fun j hj => List.mem_flatten.2 ⟨f, List.mem_of_getElem? e2, hj⟩
  refine ⟨r, f, rows, v, fun j hj => List.mem_cons_of_mem _ (hin j hj), flat_at_nodup fps i e2 hn.2, by simp [Cell.sid], fun hc => hn.1 (hin _ hc), q2, q1, e1, by rw [q3.len]; exact hi, fun k hk hne => ?_, fun h' r' t' f' hn' hg hg' v' nf hd => ?_⟩
  · obtain ⟨r2, f2, e3, e4, v2⟩ := q3.at k hk
    have h2 : ∀ j, j ∈ f2 → j ∈ fps.flatten := fun j hj => List.mem_flatten.2 ⟨f2, List.mem_of_getElem? e4, hj⟩
    exact ⟨r2, f2, v2, e3, fun j hj => ⟨List.mem_cons_of_mem _ (h2 j hj), flat_apart fps i k e2 e4 hne hn.2 j hj, fun e => hn.1 (by simp only [Cell.sid] at e; exact e ▸ h2 j hj)⟩⟩
  · have hne : ∀ j, j ∈ f' → j ≠ id := fun j hj e => by
      rcases hd j hj with h1 | h1
      · exact hn.1 (e ▸ hin j h1)
      · exact h1 (by rw [e]; simp)
    refine ⟨id :: (fps.set i f').flatten, ⟨by simpa using hl, .inr ⟨id, rows.set i r', fps.set i f', by simp, hg', Nat.lt_of_lt_of_le q2 hn', rfl, ?_⟩⟩, ?_, ?_⟩
    · exact q3.turnF ok hn' i f e2 hn.2 (fun j hj hf => hg j (List.mem_cons_of_mem _ hj) (fun e => hn.1 (by simp only [Cell.sid] at e; exact e ▸ hj)) hf) v'
    · rw [List.nodup_cons]
      refine ⟨fun hc => ?_, flat_set_nodup nf fps i f e2 hn.2 fun j hj => ?_⟩
      · rcases flat_set_mem _ _ hc with hc | hc
        · exact hn.1 hc
        · exact hne _ hc rfl
      · rcases hd j hj with h1 | h1
        · exact .inl h1
        · exact .inr fun hc => h1 (List.mem_cons_of_mem _ hc)
    · intro j hj
      rcases List.mem_cons.1 hj with rfl | hj
      · exact .inl (by simp)
      · rcases flat_set_mem _ _ hj with hj | hj
        · exact .inl (List.mem_cons_of_mem _ hj)
        · exact .inr hj
theorem SlR.cat {enc : α → List Cell} (w : SlR tag (Fl enc) h x xs fp) (u : SlR tag (Fl enc) h y ys fq) (own : ∀ id, id ∈ fp → h.floor ≤ id) {bytes : Nat} (hb : (xs.length + ys.length) * bytes ≤ 140737488355328) (hl : xs.length + ys.length ≤ maxLen) :
    ∃ x' g f', appF h tag bytes x y = some (x', g) ∧ SlR tag (Fl enc) g x' (xs ++ ys) f' ∧ Re h g fp f' := by
  have hy := u.rows
  have ht : A.isTag tag y = true := by
    rcases u.flat with ⟨rfl, _⟩ | ⟨q, _⟩
    · rfl
    · rw [q]; simp [A.isTag]
  have hp : h.get h.next ≠ none → True := fun _ => trivial
  rcases w.flat with ⟨rfl, rfl, rfl⟩ | ⟨hx, hg, hn, rfl⟩
  · by_cases h0 : ys = []
    · subst h0
      refine ⟨.nil, h, [], ?_, SlR.nil _ _ _, ⟨Nat.le_refl _, rfl, fun _ _ _ => rfl, List.nodup_nil, fun _ h => nomatch h⟩⟩
      simp [appF, ht, hy]
    · have hl0 : ys.length ≠ 0 := fun hc => h0 (List.eq_nil_of_length_eq_zero hc)
      refine ⟨.sl tag h.next 0 ys.length, h.push (ys.map enc), [h.next], ?_, SlR.ofFlat (by simpa using hl) (push_get _ _) (Nat.lt_succ_self _), ⟨Nat.le_succ _, rfl, fun id h1 _ => push_ne _ (by omega), by simp, fun id hid => by simp at hid; exact .inr (by omega)⟩⟩
      simp only [List.length_nil, Nat.zero_add] at hb
      simp only [appF, ht, hy, if_true, Option.bind_some, List.length_map]
      rw [if_neg hl0, if_pos hb]
  · have hf := own _ (List.mem_singleton_self _)
    generalize x.sid = k at *
    subst hx
    refine ⟨.sl tag h.next 0 (xs.length + ys.length), (h.kill k).push ((xs ++ ys).map enc), [h.next], ?_, ?_, ⟨Nat.le_succ _, rfl, fun id h1 h2 => ?_, by simp, fun id hid => by simp at hid; exact .inr (by omega)⟩⟩
    · simp only [appF, ht, hy, if_true, Option.bind_some, hg, List.length_map, List.map_append]
      rw [if_pos ⟨trivial, trivial, trivial, hf, hb⟩]
    · have := SlR.ofFlat (tag := tag) (enc := enc) (h := (h.kill k).push ((xs ++ ys).map enc)) (xs := xs ++ ys) (by simpa using hl) (id := h.next) (by simp [Heap.push, Heap.kill]) (Nat.lt_succ_self _)
      simpa using this
    · simp only [List.mem_singleton] at h2
      show (if id = h.next then some _ else (if id = k then none else h.get id)) = h.get id
      rw [if_neg (by omega), if_neg h2]
end
end Go.Proofs.Ytgfclcpnefinoaa.A
namespace Go.Proofs.Ytgfclcpnefinoaa.A
open Go
set_option linter.unusedSimpArgs false
set_option linter.unusedVariables false
section
variable {F : Nat → Option RF} {Z : CallF} {h : Heap} {cs : List Cell} {fp : List Nat} {s : Store}
theorem SlR.sort {x : Cell} {xs : List Fin} (w : SlR 9 (Fl Fin.enc) h x xs fp) (own : ∀ id, id ∈ fp → h.floor ≤ id) (hl : xs.length < 4611686018427387904) :
    ∃ g, sortF 9 267 [.c x, .c (.fn 267 [])] h = some (.tup [], g) ∧ SlR 9 (Fl Fin.enc) g x (sortFins xs) fp ∧ Mk h g fp := by
  rcases w.flat with ⟨rfl, rfl, rfl⟩ | ⟨hx, hg, hn, rfl⟩
  · refine ⟨h, ?_, by simpa [sortFins, sort2] using SlR.nil 9 (Fl Fin.enc) h, ⟨rfl, rfl, fun _ _ => rfl⟩⟩
    simp [sortF]
  · have hf := own _ (List.mem_singleton_self _)
    generalize x.sid = k at *
    subst hx
    refine ⟨h.put k ((sortFins xs).map Fin.enc), ?_, ?_, Mk.put _ _ _⟩
    · simp only [sortF, and_self, if_true, hg, Option.bind_some, List.length_map]
      rw [if_pos ⟨trivial, hf, hl⟩, decs_fins, Option.bind_some, sortFins_cells]
    · have := SlR.ofFlat (tag := 9) (enc := Fin.enc) (h := h.put k ((sortFins xs).map Fin.enc)) (xs := sortFins xs) (by rw [sortFins_len]; exact w.le) (id := k) (by simp [Heap.put]) hn
      rwa [sortFins_len] at this
theorem join_zero {s : Store} {e : Int} (ok : s.Ok) : joinShard s 0 e = (s, false) := by
  cases hn : s.next e with
  | false => exact join_no hn
  | true =>
    by_cases h1 : findAt s.shards 0 0 < 1
    · exact join_away h1
    · obtain ⟨k, e', hk, hp⟩ := findI_at (p := fun t : Shard => (t.lo == 0) && (t.state == 0)) (xs := s.shards) (by unfold findAt at h1; omega)
      exfalso
      have e2 : findAt s.shards 0 0 = (k : Int) := e'
      obtain ⟨j, rfl⟩ : ∃ j, k = j + 1 := ⟨k - 1, by omega⟩
      have hgood : s.good = true := by
        simp only [Store.next, Bool.and_eq_true] at hn
        exact hn.1
      have h3 := (Store.side hgood hk).2.2
      simp only [Bool.and_eq_true, beq_iff_eq] at hp
      have h4 := ok.shards _ (List.getElem_mem (show j < s.shards.length by omega))
      have h5 := h4.hi
      have h6 := h4.lo
      rw [Shard.at_get hk, Shard.at_get (show j < s.shards.length by omega), hp.1] at h3
      have h7 := Store.lo_hi hgood (show j < s.shards.length by omega)
      omega
theorem join_rows {h3 : Heap} {y : Cell} {fr : List Nat} {j : Nat} (o : On h h3) (hf : h.floor ≤ h.next) (w : SlR 16 Shard.RI h3 y s.shards fr) (f : Fre h fr) (hj : j + 1 < s.shards.length)
    (smp : (Shard.at_ s.shards j).Small) (smq : (Shard.at_ s.shards (j + 1)).Small) :
    ∃ xb xf yb yf g1 g2 g3 xb' xf' bl fl, (∀ i n, loadP h3 y.sid j i n = cut? [.int .u64 (Shard.at_ s.shards j).lo, .int .u64 (Shard.at_ s.shards j).hi, .int .i64 (Shard.at_ s.shards j).state, .int .i64 (Shard.at_ s.shards j).epoch, xb, xf] i n) ∧
      (∀ i n, loadP h3 y.sid (j + 1) i n = cut? [.int .u64 (Shard.at_ s.shards (j + 1)).lo, .int .u64 (Shard.at_ s.shards (j + 1)).hi, .int .i64 (Shard.at_ s.shards (j + 1)).state, .int .i64 (Shard.at_ s.shards (j + 1)).epoch, yb, yf] i n) ∧
      appF h3 11 40 xb yb = some (xb', g1) ∧ appF g1 9 16 xf yf = some (xf', g2) ∧ sortF 9 267 [.c xf', .c (.fn 267 [])] g2 = some (.tup [], g3) ∧ On h g3 ∧
      lenR (some xb') = some (.int .i64 bl) ∧ lenR (some xf') = some (.int .i64 fl) ∧ bl = (((Shard.at_ s.shards j).book.list ++ (Shard.at_ s.shards (j + 1)).book.list).length : Nat) ∧ fl = (((Shard.at_ s.shards j).finished ++ (Shard.at_ s.shards (j + 1)).finished).length : Nat) ∧
      ∃ g4 fq, storeP g3 y.sid j 0 [.int .u64 (Shard.at_ s.shards j).lo, .int .u64 (Shard.at_ s.shards (j + 1)).hi, .int .i64 (Shard.at_ s.shards j).state, .int .i64 (Shard.at_ s.shards j).epoch, xb', xf'] = some g4 ∧ On h g4 ∧ Fre h fq ∧
        SlR 16 Shard.RI g4 y (s.shards.set j (Shard.join (Shard.at_ s.shards j) (Shard.at_ s.shards (j + 1)))) fq := by
  have own := f.own o hf
  obtain ⟨r, f1, rows, hR, hin, nf1, hs, hns, hsl, hg, hr, hjl, others, fin⟩ := w.turnF Shard.okI f.nd (show j < s.shards.length by omega)
  obtain ⟨r2, f2, hR2, hr2, dis⟩ := others (j + 1) hj (by omega)
  rw [← Shard.at_get (show j < s.shards.length by omega)] at hR
  rw [← Shard.at_get hj] at hR2
  have sp1 : (Shard.at_ s.shards j).book.list.length ≤ 1048576 := smp.1
  have sp2 : (Shard.at_ s.shards j).finished.length ≤ 1048576 := smp.2
  have sq1 : (Shard.at_ s.shards (j + 1)).book.list.length ≤ 1048576 := smq.1
  have sq2 : (Shard.at_ s.shards (j + 1)).finished.length ≤ 1048576 := smq.2
  obtain ⟨xb, pb, xf, pf, rfl, rfl, wb, wf⟩ := hR
  obtain ⟨yb, qb, yf, qf, rfl, rfl, ub, uf⟩ := hR2
  obtain ⟨n1, n2, n3⟩ := List.nodup_append.1 nf1
  have ltw := w.lt Shard.okI
  have inb : ∀ id, id ∈ pb → id ∈ fr := fun id hid => hin id (List.mem_append_left _ hid)
  have inf : ∀ id, id ∈ pf → id ∈ fr := fun id hid => hin id (List.mem_append_right _ hid)
  obtain ⟨xb', g1, pb', e1, w1, re1⟩ := wb.cat ub (fun id hid => own id (inb id hid)) (bytes := 40) (by omega) (by unfold maxLen; omega)
  have wf1 := wf.mv (Fl.ok _) re1.le fun id hid => re1.get id (ltw id (inf id hid)) fun hc => n3 id hc id hid rfl
  have uf1 := uf.mv (Fl.ok _) re1.le fun id hid => by
    have := dis id (List.mem_append_right _ hid)
    exact re1.get id (ltw id this.1) fun hc => this.2.1 (List.mem_append_left _ hc)
  obtain ⟨xf', g2, pf', e2, w2, re2⟩ := wf1.cat uf1 (fun id hid => by rw [re1.fl]; exact own id (inf id hid)) (bytes := 16) (by omega) (by unfold maxLen; omega)
  have fb : Fre h pb := ⟨fun id hid => f.lo id (inb id hid), n1⟩
  have ff : Fre h pf := ⟨fun id hid => f.lo id (inf id hid), n2⟩
  have o1 := re1.on o fb
  have o2 := re2.on o1 ff
  have fb' := re1.fre o fb
  have ff' := re2.fre o1 ff
  have lt1 := w1.lt (Fl.ok _)
  have nb' : ∀ id, id ∈ pb' → id ∉ pf := fun id h1 h2 => by
    rcases re1.of id h1 with h3 | h3
    · exact n3 id h3 id h2 rfl
    · have := ltw id (inf id h2); omega
  have w1b := w1.mv (Fl.ok _) re2.le fun id hid => re2.get id (lt1 id hid) (nb' id hid)
  have own2 : ∀ id, id ∈ pf' → g2.floor ≤ id := ff'.own o2 hf
  obtain ⟨g3, e3, w3, m3⟩ := w2.sort own2 (by rw [List.length_append]; omega)
  have o3 := o2.turned m3 ff'
  have nbf : ∀ id, id ∈ pb' → id ∉ pf' := fun id h1 h2 => by
    rcases re2.of id h2 with h3 | h3
    · exact nb' id h1 h3
    · have := lt1 id h1; omega
  have w1c := w1b.mv (Fl.ok _) (by rw [m3.next]; exact Nat.le_refl _) fun id hid => m3.get id (nbf id hid)
  have hle3 : h3.next ≤ g3.next := by rw [m3.next]; exact Nat.le_trans re1.le re2.le
  have far : ∀ id, id < h3.next → id ∉ pb ++ pf → g3.get id = h3.get id := fun id h1 h2 => by
    rw [List.mem_append, not_or] at h2
    have h4 : id ∉ pf' := fun hc => by
      rcases re2.of id hc with h5 | h5
      · exact h2.2 h5
      · have := re1.le; omega
    rw [m3.get id h4, re2.get id (Nat.lt_of_lt_of_le h1 re1.le) h2.2, re1.get id h1 h2.1]
  have hg3 : g3.get y.sid = some rows := (far _ hsl hns).trans hg
  have hfl3 : g3.floor ≤ y.sid := by rw [o3.fl]; exact Nat.le_trans hf (f.lo _ hs)
  have hnb : ∀ id, id ∈ pb' ++ pf' → id ≠ y.sid := fun id hid e => by
    subst e
    rcases List.mem_append.1 hid with h1 | h1
    · rcases re1.of _ h1 with h2 | h2
      · exact hns (List.mem_append_left _ h2)
      · omega
    · rcases re2.of _ h1 with h2 | h2
      · exact hns (List.mem_append_right _ h2)
      · have := re1.le; omega
  refine ⟨xb, xf, yb, yf, g1, g2, g3, xb', xf', _, _, fun i n => loadP_row hg hr i n, fun i n => loadP_row hg hr2 i n, e1, e2, e3, o3, w1c.len, w3.len, rfl, congrArg (fun n : Nat => (n : Int)) (sortFins_len _), ?_⟩
  have hst := storeP_at (h := g3) (id := y.sid) (i := j) (j := 0) (new := [.int .u64 (Shard.at_ s.shards j).lo, .int .u64 (Shard.at_ s.shards (j + 1)).hi, .int .i64 (Shard.at_ s.shards j).state, .int .i64 (Shard.at_ s.shards j).epoch, xb', xf']) hfl3 hg3 hr rfl
  obtain ⟨fq, w4, nq, sub⟩ := fin (g3.put y.sid (rows.set j [.int .u64 (Shard.at_ s.shards j).lo, .int .u64 (Shard.at_ s.shards (j + 1)).hi, .int .i64 (Shard.at_ s.shards j).state, .int .i64 (Shard.at_ s.shards j).epoch, xb', xf'])) _ (Shard.join (Shard.at_ s.shards j) (Shard.at_ s.shards (j + 1))) (pb' ++ pf') hle3
    (fun id h1 h2 h4 => by rw [put_ne _ h2]; exact far id (ltw id h1) h4) (by simp [Heap.put, Shard.join])
    ⟨xb', pb', xf', pf', rfl, rfl, w1c.mv (Fl.ok _) (Nat.le_refl _) fun id hid => put_ne _ (hnb id (List.mem_append_left _ hid)), w3.mv (Fl.ok _) (Nat.le_refl _) fun id hid => put_ne _ (hnb id (List.mem_append_right _ hid))⟩
    (List.nodup_append.2 ⟨fb'.nd, ff'.nd, fun a ha b hb e => by subst e; exact nbf a ha hb⟩)
    (fun id hid => by
      rcases List.mem_append.1 hid with h1 | h1
      · rcases re1.of _ h1 with h2 | h2
        · exact .inl (List.mem_append_left _ h2)
        · exact .inr fun hc => by have := ltw id hc; omega
      · rcases re2.of _ h1 with h2 | h2
        · exact .inl (List.mem_append_right _ h2)
        · exact .inr fun hc => by have := ltw id hc; have := re1.le; omega)
  refine ⟨_, fq, hst, o3.turned (Mk.put _ _ _) ⟨fun id hid => by simp only [List.mem_singleton] at hid; subst hid; exact f.lo _ hs, by simp⟩, ⟨fun id hid => ?_, nq⟩, w4⟩
  rcases sub id hid with h1 | h1
  · exact f.lo id h1
  · rcases List.mem_append.1 h1 with h1 | h1
    · exact fb'.lo id h1
    · exact ff'.lo id h1
set_option maxHeartbeats 4000000 in
theorem JoinShard_c (k : KI F) (hL : Has F tLibslicesIndexFuncimplShardimplShard) (prd : PrimAt F Z 330 (delF 16)) (prs : PrimAt F Z 375 (sortF 9 267)) (hf : h.floor ≤ h.next) (v : Store.RI h cs s fp) (a e : Int) (ha : 0 ≤ a ∧ a ≤ 18446744073709551615) (ok : s.Ok) (sm : s.Small) :
    ∃ cs' h' fq, call F Z 365 [.agg cs, .c (.int .u64 a), .c (.int .i64 e)] h = some (.tup [.agg cs', .c (.bool (joinShard s a e).2)], h') ∧ On h h' ∧ Store.RI h' cs' (joinShard s a e).1 fq ∧ Fre h fq := by
  obtain ⟨l1, l2, l3⟩ := Store.lenI v
  obtain ⟨cs1, h1, fr, e1, o1, v1, f1⟩ := copyStore_c (Z := Z) k hf v sm
  obtain ⟨h2, e2, o2⟩ := shardAt_on (Z := Z) k.i13 hL (Store.okI.on v o1) a 0
  obtain ⟨h3, e3, o3⟩ := isNewEpoch_run (Z := Z) k (Store.okI.on (Store.okI.on v o1) o2) ok e
  have o13 := (o1.trans o2).trans o3
  obtain ⟨y, p, rfl, hp, w⟩ := Store.okI.on (Store.okI.on v1 o2) o3
  subst hp
  have v3 := Store.okI.on v o13
  rw [call_run F Z (k.i13.lk (g := 365) rfl) _ _ rfl]
  cases hn : s.next e with
  | false =>
    rw [hn] at e3
    rw [join_no hn]
    simp only [run0, run1, run2, run3, run4, noSlot, ownS, ownK, memN, RO.dst, lk, drop, forget, number, Nat.reduceBEq, cut?, splice?, builds, Nat.reduceAdd, Nat.reduceLeDiff, ↓reduceIte, reduceCtorEq, qqa, qqb, qqc, qqd, qqe, qqf, qqg, qqh, qqi, qqj, qqk, qql, qqm, qqn, qqo, qqp, qqq, qqr, qqs, qqt, qqu, qqv, qqw, qqx, qqy, l1, l2, l3, e1, e2, e3]
    exact ⟨_, _, _, rfl, o13, ⟨y, _, rfl, rfl, w⟩, f1⟩
  | true =>
    rw [hn] at e3
    by_cases hz : a = 0
    · subst hz
      rw [join_zero ok]
      simp only [run0, run1, run2, run3, run4, noSlot, ownS, ownK, memN, RO.dst, lk, drop, forget, number, Nat.reduceBEq, cut?, splice?, builds, Nat.reduceAdd, Nat.reduceLeDiff, ↓reduceIte, reduceCtorEq, qqa, qqb, qqc, qqd, qqe, qqf, qqg, qqh, qqi, qqj, qqk, qql, qqm, qqn, qqo, qqp, qqq, qqr, qqs, qqt, qqu, qqv, qqw, qqx, qqy, l1, l2, l3, e1, e2, e3, beq_self_eq_true]
      exact ⟨_, _, _, rfl, o13, ⟨y, _, rfl, rfl, w⟩, f1⟩
    have hz' : (a == 0) = false := by simpa using hz
    obtain ⟨x, p, rfl, hp, wx⟩ := v3
    subst hp
    rcases wx.found (fun t => (t.lo == a) && (t.state == 0)) with q | ⟨j, q, hj, hpj, hx, _, _, hld⟩
    · change findAt s.shards a 0 = -1 at q
      rw [join_away (by omega)]
      rw [q] at e2
      simp only [run0, run1, run2, run3, run4, noSlot, ownS, ownK, memN, RO.dst, lk, drop, forget, number, Nat.reduceBEq, cut?, splice?, builds, Nat.reduceAdd, Nat.reduceLeDiff, ↓reduceIte, reduceCtorEq, qqa, qqb, qqc, qqd, qqe, qqf, qqg, qqh, qqi, qqj, qqk, qql, qqm, qqn, qqo, qqp, qqq, qqr, qqs, qqt, qqu, qqv, qqw, qqx, qqy, l1, l2, l3, e1, e2, e3, hz', Int.reduceLT, Int.reduceNeg]
      exact ⟨_, _, _, rfl, o13, ⟨y, _, rfl, rfl, w⟩, f1⟩
    change findAt s.shards a 0 = (j : Int) at q
    rw [q] at e2
    cases j with
    | zero =>
      rw [join_away (by omega)]
      have g0 : ((0 : Nat) : Int) < 1 := by omega
      simp only [run0, run1, run2, run3, run4, noSlot, ownS, ownK, memN, RO.dst, lk, drop, forget, number, Nat.reduceBEq, cut?, splice?, builds, Nat.reduceAdd, Nat.reduceLeDiff, ↓reduceIte, reduceCtorEq, qqa, qqb, qqc, qqd, qqe, qqf, qqg, qqh, qqi, qqj, qqk, qql, qqm, qqn, qqo, qqp, qqq, qqr, qqs, qqt, qqu, qqv, qqw, qqx, qqy, l1, l2, l3, e1, e2, e3, hz', g0]
      exact ⟨_, _, _, rfl, o13, ⟨y, _, rfl, rfl, w⟩, f1⟩
    | succ j =>
    rw [join_if hn q]
    have g0 : ¬ ((j + 1 : Nat) : Int) < 1 := by omega
    have hwe := wx.le2
    have hgood : s.good = true := by
      simp only [Store.next, Bool.and_eq_true] at hn
      exact hn.1
    have hpj' := hpj
    simp only [Bool.and_eq_true, beq_iff_eq] at hpj'
    have hs := Store.side hgood hj
    have hw : IntKind.u64.wrap (a - 1) = a - 1 := wrapU _ (by omega) (by omega)
    have hw1 : IntKind.i64.wrap (((j + 1 : Nat) : Int) - 1) = (j : Int) := by
      rw [wrapI _ (by omega) (by omega)]; omega
    have hxj := wx.idx (show j < s.shards.length by omega)
    have hyj := w.idx (show j < s.shards.length by omega)
    have hyk := w.idx hj
    obtain ⟨r0, f0, hld0, hR0, _⟩ := wx.atR (show j < s.shards.length by omega)
    obtain ⟨x1, _, x2, _, rfl, _⟩ := hR0
    by_cases c1 : (Shard.at_ s.shards j).state = 0
    case neg =>
      have c1' : ((Shard.at_ s.shards j).state == 0) = false := by simpa using c1
      have c1n : ((Shard.at_ s.shards j).state != 0) = true := by simpa using c1
      rw [c1']
      simp only [Bool.false_and, cond_false]
      simp only [run0, run1, run2, run3, run4, noSlot, ownS, ownK, memN, RO.dst, lk, drop, forget, number, Nat.reduceBEq, cut?, splice?, builds, Nat.reduceAdd, Nat.reduceLeDiff, ↓reduceIte, reduceCtorEq, qqa, qqb, qqc, qqd, qqe, qqf, qqg, qqh, qqi, qqj, qqk, qql, qqm, qqn, qqo, qqp, qqq, qqr, qqs, qqt, qqu, qqv, qqw, qqx, qqy, l1, l2, l3, e1, e2, e3, hz', g0, hw1, hxj, hld0, c1n]
      exact ⟨_, _, _, rfl, o13, ⟨y, _, rfl, rfl, w⟩, f1⟩
    have c1' : ((Shard.at_ s.shards j).state == 0) = true := by simpa using c1
    have c1n : ((Shard.at_ s.shards j).state != 0) = false := by simpa using c1
    by_cases c2 : (Shard.at_ s.shards j).hi = a - 1
    case neg =>
      have c2' : ((Shard.at_ s.shards j).hi == a - 1) = false := by simpa using c2
      have c2n : ((Shard.at_ s.shards j).hi != a - 1) = true := by simpa using c2
      rw [c2', c1']
      simp only [Bool.and_false, cond_false]
      simp only [run0, run1, run2, run3, run4, noSlot, ownS, ownK, memN, RO.dst, lk, drop, forget, number, Nat.reduceBEq, cut?, splice?, builds, Nat.reduceAdd, Nat.reduceLeDiff, ↓reduceIte, reduceCtorEq, qqa, qqb, qqc, qqd, qqe, qqf, qqg, qqh, qqi, qqj, qqk, qql, qqm, qqn, qqo, qqp, qqq, qqr, qqs, qqt, qqu, qqv, qqw, qqx, qqy, l1, l2, l3, e1, e2, e3, hz', g0, hw1, hxj, hld0, c1n, hw, c2n]
      exact ⟨_, _, _, rfl, o13, ⟨y, _, rfl, rfl, w⟩, f1⟩
    have c2' : ((Shard.at_ s.shards j).hi == a - 1) = true := by simpa using c2
    have c2n : ((Shard.at_ s.shards j).hi != a - 1) = false := by simpa using c2
    rw [c1', c2']
    simp only [Bool.and_true, cond_true]
    obtain ⟨xb, xf, yb, yf, g1, g2, g3, xb', xf', bl, fl, hlj, hlk, a1, a2, a3, og3, lb, lf, hbl, hfl, g4, fq, st, og4, fq4, w4⟩ := join_rows o13 hf w f1 hj (Store.at_small sm (show j < s.shards.length by omega)) (Store.at_small sm hj)
    have hjs : Shard.joins (Shard.at_ s.shards j) (Shard.at_ s.shards (j + 1)) = (decide (bl ≤ 40) && decide (fl ≤ 60)) := by rw [hbl, hfl]; rfl
    rw [hjs]
    obtain ⟨cs5, h5, fr5, e5, o5, v5, f5⟩ := copyStore_c (Z := Z) k (og3.le hf) (Store.okI.on v og3) sm
    simp only [run0, run1, run2, run3, run4, noSlot, ownS, ownK, memN, RO.dst, lk, drop, forget, number, Nat.reduceBEq, cut?, splice?, builds, Nat.reduceAdd, Nat.reduceLeDiff, ↓reduceIte, reduceCtorEq, qqa, qqb, qqc, qqd, qqe, qqf, qqg, qqh, qqi, qqj, qqk, qql, qqm, qqn, qqo, qqp, qqq, qqr, qqs, qqt, qqu, qqv, qqw, qqx, qqy, l1, l2, l3, e1, e2, e3, hz', g0, hw1, hxj, hld0, c1n, hw, c2n, hyj, hyk, hlj, hlk, a1, a2, prs _ _, a3, lb, lf]
    obtain ⟨m1, m2, m3⟩ := Store.lenI v5
    have o05 := og3.trans o5
    have f05 : Fre h fr5 := ⟨fun id hid => Nat.le_trans og3.ext.1 (f5.lo id hid), f5.nd⟩
    by_cases c3 : bl ≤ 40
    case neg =>
      have c3' : 40 < bl := by omega
      have hd : (decide (bl ≤ 40) && decide (fl ≤ 60)) = false := by simp [c3]
      rw [hd]
      simp only [cond_false]
      simp only [run0, run1, run2, run3, run4, noSlot, ownS, ownK, memN, RO.dst, lk, drop, forget, number, Nat.reduceBEq, cut?, splice?, builds, Nat.reduceAdd, Nat.reduceLeDiff, ↓reduceIte, reduceCtorEq, qqa, qqb, qqc, qqd, qqe, qqf, qqg, qqh, qqi, qqj, qqk, qql, qqm, qqn, qqo, qqp, qqq, qqr, qqs, qqt, qqu, qqv, qqw, qqx, qqy, c3', l1, l2, l3, e5, m1, m2, m3, gt_iff_lt]
      exact ⟨_, _, _, rfl, o05, v5, f05⟩
    have c3' : ¬ 40 < bl := by omega
    by_cases c4 : fl ≤ 60
    case neg =>
      have c4' : 60 < fl := by omega
      have hd : (decide (bl ≤ 40) && decide (fl ≤ 60)) = false := by simp [c4]
      rw [hd]
      simp only [cond_false]
      simp only [run0, run1, run2, run3, run4, noSlot, ownS, ownK, memN, RO.dst, lk, drop, forget, number, Nat.reduceBEq, cut?, splice?, builds, Nat.reduceAdd, Nat.reduceLeDiff, ↓reduceIte, reduceCtorEq, qqa, qqb, qqc, qqd, qqe, qqf, qqg, qqh, qqi, qqj, qqk, qql, qqm, qqn, qqo, qqp, qqq, qqr, qqs, qqt, qqu, qqv, qqw, qqx, qqy, c3', c4', lb, lf, l1, l2, l3, e5, m1, m2, m3, gt_iff_lt]
      exact ⟨_, _, _, rfl, o05, v5, f05⟩
    have c4' : ¬ 60 < fl := by omega
    have hd : (decide (bl ≤ 40) && decide (fl ≤ 60)) = true := by simp [c3, c4]
    rw [hd]
    simp only [cond_true]
    have hw2 : IntKind.i64.wrap (((j + 1 : Nat) : Int) + 1) = ((j + 1 + 1 : Nat) : Int) := by
      rw [wrapI _ (by omega) (by omega)]; omega
    obtain ⟨z, g5, fz, e6, w5, re⟩ := w4.del Shard.okI fq4.nd (fq4.own og4 hf) (i := j + 1) (by rw [List.length_set]; exact hj)
    have o6 := re.on og4 fq4
    have f6 := re.fre og4 fq4
    obtain ⟨cs7, h7, e7, m7, v7⟩ := renewed_c (Z := Z) k (s := s.joinWith j (Shard.join (Shard.at_ s.shards j) (Shard.at_ s.shards (j + 1)))) ⟨z, _, rfl, rfl, w5⟩ f6.nd (f6.own o6 hf) e
    obtain ⟨n1, n2, n3⟩ := Store.lenI v7
    change call F Z 321 [.agg [.int .i64 s.group, .int .i64 s.seen, z], _] g5 = _ at e7
    simp only [run0, run1, run2, run3, run4, noSlot, ownS, ownK, memN, RO.dst, lk, drop, forget, number, Nat.reduceBEq, cut?, splice?, builds, Nat.reduceAdd, Nat.reduceLeDiff, ↓reduceIte, reduceCtorEq, qqa, qqb, qqc, qqd, qqe, qqf, qqg, qqh, qqi, qqj, qqk, qql, qqm, qqn, qqo, qqp, qqq, qqr, qqs, qqt, qqu, qqv, qqw, qqx, qqy, c3', c4', lb, lf, hw1, hw2, hyj, st, prd _ _, e6, e7, n1, n2, n3, gt_iff_lt]
    exact ⟨_, _, _, rfl, o6.turned m7 f6, v7, f6⟩
end
end Go.Proofs.Ytgfclcpnefinoaa.A
namespace Go.Proofs.Ytgfclcpnefinoaa.A
open Go
set_option linter.unusedSimpArgs false
set_option linter.unusedVariables false
def sumI {α : Type} (f : α → Int) : List α → Int
  | [] => 0
  | a :: r => f a + sumI f r
section
variable {α : Type} (f : α → Int)
theorem sumI_app : ∀ (xs ys : List α), sumI f (xs ++ ys) = sumI f xs + sumI f ys
  | [], ys => by simp [sumI]
  | a :: r, ys => by
    simp only [List.cons_append, sumI, sumI_app r ys]; omega
theorem sumI_take (xs : List α) {i : Nat} (hi : i < xs.length) : sumI f (xs.take (i + 1)) = sumI f (xs.take i) + f xs[i] := by
  rw [List.take_add_one, List.getElem?_eq_getElem hi, sumI_app]
  simp [sumI]
theorem sumI_le {m : Int} : ∀ (xs : List α), (∀ a, a ∈ xs → 0 ≤ f a ∧ f a ≤ m) → 0 ≤ sumI f xs ∧ sumI f xs ≤ m * xs.length
  | [], _ => by simp [sumI]
  | a :: r, h => by
    have h1 := h a (by simp)
    have h2 := sumI_le r fun b hb => h b (by simp [hb])
    simp only [sumI, List.length_cons]
    constructor
    · omega
    · rw [Int.natCast_add, Int.mul_add]
      simp only [Int.natCast_one, Int.mul_one]
      omega
end
section
variable {F : Nat → Option RF} {Z : CallF} {h : Heap} {x : Cell} {xs : List Account} {fp : List Nat}
end
end Go.Proofs.Ytgfclcpnefinoaa.A
namespace Go.Proofs.Ytgfclcpnefinoaa.A
open Go
set_option linter.unusedSimpArgs false
set_option linter.unusedVariables false
def Shard.mark1 (t : Shard) (k : Int) : Shard := ⟨k, k + 1, k + 2, k + 3, ⟨Account.marks t.book.list.length (k + 4)⟩, Fin.marks t.finished.length (k + 4 + 5 * (t.book.list.length : Nat))⟩
def Shard.wt1 (t : Shard) : Int := 4 + 5 * ((t.book.list.length : Nat) : Int) + 2 * ((t.finished.length : Nat) : Int)
def Shard.marksS : List Shard → Int → List Shard
  | [], _ => []
  | t :: r, k => t.mark1 k :: Shard.marksS r (k + t.wt1)
theorem Shard.wt1_nn (t : Shard) : 0 ≤ t.wt1 := by simp only [wt1]; omega
theorem Shard.marksS_len : ∀ (xs : List Shard) (k : Int), (Shard.marksS xs k).length = xs.length
  | [], _ => rfl
  | t :: r, k => by simp only [Shard.marksS, List.length_cons, Shard.marksS_len r]
theorem Shard.marksS_app : ∀ (xs ys : List Shard) (k : Int), Shard.marksS (xs ++ ys) k = Shard.marksS xs k ++ Shard.marksS ys (k + sumI Shard.wt1 xs)
  | [], ys, k => by simp [Shard.marksS, sumI]
  | t :: r, ys, k => by
    simp only [List.cons_append, Shard.marksS, Shard.marksS_app r ys, sumI, Int.add_assoc]
theorem Shard.mark_step {xs : List Shard} {i : Nat} (hi : i < xs.length) (k : Int) :
    (Shard.marksS (xs.take i) k ++ xs.drop i).set i (xs[i].mark1 (k + sumI Shard.wt1 (xs.take i))) = Shard.marksS (xs.take (i + 1)) k ++ xs.drop (i + 1) := by
  have hl : (Shard.marksS (xs.take i) k).length = i := by rw [Shard.marksS_len, List.length_take]; omega
  rw [List.set_append_right _ _ (by omega), hl, Nat.sub_self, List.drop_eq_getElem_cons hi, List.set_cons_zero, List.take_add_one, List.getElem?_eq_getElem hi, Shard.marksS_app]
  simp [Shard.marksS]
theorem Shard.mark_at {xs : List Shard} {i : Nat} (hi : i < xs.length) (k : Int) (h : i < (Shard.marksS (xs.take i) k ++ xs.drop i).length) : (Shard.marksS (xs.take i) k ++ xs.drop i)[i] = xs[i] := by
  have hl : (Shard.marksS (xs.take i) k).length = i := by rw [Shard.marksS_len, List.length_take]; omega
  rw [List.getElem_append_right (by omega)]
  simp [hl]
section
variable {F : Nat → Option RF} {Z : CallF} {h : Heap} {x : Cell} {xs : List Shard} {fp : List Nat}
set_option maxHeartbeats 2000000 in
theorem markShardS_turn (hLShard : Has F tLShard) (hLAccount : Has F tLAccount) (hLFin : Has F tLFin) {ys : List Shard} {g : Heap} (w : SlR 16 Shard.RI g x ys fp) (nd : fp.Nodup) (hlo : ∀ id, id ∈ fp → g.floor ≤ id) {i : Nat} (hi : i < ys.length) (k : Int) (h1 : 0 ≤ k) (h2 : k + ys[i].wt1 ≤ 9200000000000000000) :
    ∃ g', loop F Z [0, 1, 5] r230L0 ⟨[(0, .c x), (1, .c (.int .i64 k)), (5, .c (.int .i64 (i : Nat)))], [], [], g⟩ = loop F Z [0, 1, 5] r230L0 ⟨[(0, .c x), (1, .c (.int .i64 (k + ys[i].wt1))), (5, .c (.int .i64 ((i + 1 : Nat) : Int)))], [], [], g'⟩ ∧
      Mk g g' fp ∧ SlR 16 Shard.RI g' x (ys.set i (ys[i].mark1 k)) fp := by
  have hle := w.le2
  have hlt : (i : Int) < ys.length := by omega
  have hws := wrapS i (by omega)
  have hwl := w.len
  have hxi := w.idx hi
  obtain ⟨r, f, rows, hR, hin, nf, hs, hns, hsl, hg, hr, hir, fin⟩ := w.turn Shard.okI nd hi
  have hput := storeP_put (h := g) (hlo _ hs) hir
  have he := put_row hg hr
  simp only [Shard.wt1] at h2 ⊢
  clear w
  generalize ys[i] = a at *
  obtain ⟨x1, p1, x2, p2, rfl, rfl, w1, w2⟩ := hR
  obtain ⟨nd1, nd2, nd3⟩ := List.nodup_append.1 nf
  generalize hg4 : g.put x.sid (rows.set i [.int .u64 k, .int .u64 (k + 1), .int .i64 (k + 2), .int .i64 (k + 3), x1, x2]) = g4
  have m4 : Mk g g4 [x.sid] := by rw [← hg4]; exact Mk.put _ _ _
  have l4 : ∀ j n, loadP g4 x.sid i j n = cut? [.int .u64 k, .int .u64 (k + 1), .int .i64 (k + 2), .int .i64 (k + 3), x1, x2] j n := by rw [← hg4]; exact loadP_put hir _
  have s1 : ∀ id, id ∈ p1 → id ∉ [x.sid] := fun id hid hc => hns (by rw [List.mem_singleton] at hc; rw [← hc]; simp [hid])
  have s2 : ∀ id, id ∈ p2 → id ∉ [x.sid] := fun id hid hc => hns (by rw [List.mem_singleton] at hc; rw [← hc]; simp [hid])
  have w1' := w1.mk (Fl.ok _) m4 s1
  have w2' := w2.mk (Fl.ok _) m4 s2
  obtain ⟨g5, e5, m5, u1⟩ := markAccountS_run (Z := Z) hLAccount w1' (fun id hid => by rw [m4.fl]; exact hlo id (hin id (by simp [hid]))) (k + 4) (by omega) (by omega)
  have w2'' := w2'.mk (Fl.ok _) m5 (fun id h1 h2 => nd3 id h2 id h1 rfl)
  have get5 : g5.get x.sid = g4.get x.sid := m5.get _ fun hc => hns (by simp [hc])
  have l5 : ∀ j n, loadP g5 x.sid i j n = cut? [.int .u64 k, .int .u64 (k + 1), .int .i64 (k + 2), .int .i64 (k + 3), x1, x2] j n := fun j n => by rw [← l4]; simp only [loadP, rowOf, get5]
  obtain ⟨g6, e6, m6, u2⟩ := markFinS_run (Z := Z) hLFin w2'' (fun id hid => by rw [m5.fl, m4.fl]; exact hlo id (hin id (by simp [hid]))) (k + 4 + 5 * (a.book.list.length : Nat)) (by omega) (by omega)
  have u1' := u1.mk (Fl.ok _) m6 (fun id h1 h2 => nd3 id h1 id h2 rfl)
  have get6 : g6.get x.sid = g4.get x.sid := (m6.get _ fun hc => hns (by simp [hc])).trans get5
  refine ⟨g6, ?_, ⟨by rw [m6.next, m5.next, m4.next], by rw [m6.fl, m5.fl, m4.fl], fun id hid => ?_⟩, ?_⟩
  · rw [loop_run]
    conv in (codeF _ _ r230L0 _) => unfold r230L0
    rw [← he]
    have hw1 := wrapI1 k (by omega) (by omega)
    have hw2 : IntKind.i64.wrap (k + 1 + 1) = k + 2 := by rw [wrapI _ (by omega) (by omega)]; omega
    have hw3 : IntKind.i64.wrap (k + 2 + 1) = k + 3 := by rw [wrapI _ (by omega) (by omega)]; omega
    have hw4 : IntKind.i64.wrap (k + 3 + 1) = k + 4 := by rw [wrapI _ (by omega) (by omega)]; omega
    have hu1 := wrapU1 k (by omega) (by omega)
    have hu2 := wrapU1 (k + 1) (by omega) (by omega)
    simp only [run0, run1, run2, run3, run4, noSlot, ownS, ownK, memN, RO.dst, lk, drop, forget, number, Nat.reduceBEq, cut?, splice?, builds, Nat.reduceAdd, Nat.reduceLeDiff, ↓reduceIte, reduceCtorEq, qqa, qqb, qqc, qqd, qqe, qqf, qqg, qqh, qqi, qqj, qqk, qql, qqm, qqn, qqo, qqp, qqq, qqr, qqs, qqt, qqu, qqv, qqw, qqx, qqy, hwl, hlt, hxi, hput, putM_s, hw1, hw2, hw3, hw4, hu1, hu2, hg4, l4, e5, l5, e6, hws]
    rw [show k + (4 + 5 * ((a.book.list.length : Nat) : Int) + 2 * ((a.finished.length : Nat) : Int)) = k + 4 + 5 * (a.book.list.length : Nat) + 2 * (a.finished.length : Nat) from by omega]
  · rw [m6.get id (fun hc => hid (hin id (by simp [hc]))), m5.get id (fun hc => hid (hin id (by simp [hc]))), m4.get id (fun hc => hid (by rw [List.mem_singleton] at hc; rw [hc]; exact hs))]
  · refine fin g6 [.int .u64 k, .int .u64 (k + 1), .int .i64 (k + 2), .int .i64 (k + 3), x1, x2] _ (by rw [m6.next, m5.next, m4.next]; exact Nat.le_refl _) (fun id hid h3 h4 => ?_) (by rw [get6, ← hg4]; simp [Heap.put]) ⟨x1, p1, x2, p2, rfl, rfl, u1', u2⟩
    rw [m6.get id (fun hc => h4 (by simp [hc])), m5.get id (fun hc => h4 (by simp [hc])), m4.get id (by simpa using h3)]
theorem markShardS_r (hLShard : Has F tLShard) (hLAccount : Has F tLAccount) (hLFin : Has F tLFin) (w : SlR 16 Shard.RI h x xs fp) (nd : fp.Nodup) (hlo : ∀ id, id ∈ fp → h.floor ≤ id) (k : Int) (h1 : 0 ≤ k) (h2 : k + sumI Shard.wt1 xs ≤ 9200000000000000000) :
    ∃ h', call F Z 230 [.c x, .c (.int .i64 k)] h = some (.c (.int .i64 (k + sumI Shard.wt1 xs)), h') ∧ Mk h h' fp ∧ SlR 16 Shard.RI h' x (Shard.marksS xs k) fp := by
  have hle := w.le2
  have hnn : ∀ i, 0 ≤ sumI Shard.wt1 (xs.take i) := fun i => by
    have : ∀ ys : List Shard, 0 ≤ sumI Shard.wt1 ys := fun ys => by
      induction ys with
      | nil => simp [sumI]
      | cons a r ih => have := a.wt1_nn; simp only [sumI]; omega
    exact this _
  have hpre : ∀ i, sumI Shard.wt1 (xs.take i) ≤ sumI Shard.wt1 xs := fun i => by
    have e := sumI_app Shard.wt1 (xs.take i) (xs.drop i)
    rw [List.take_append_drop] at e
    have : ∀ ys : List Shard, 0 ≤ sumI Shard.wt1 ys := fun ys => by
      induction ys with
      | nil => simp [sumI]
      | cons a r ih => have := a.wt1_nn; simp only [sumI]; omega
    have := this (xs.drop i)
    omega
  rw [call_run F Z (hLShard.lk (g := 230) rfl) _ _ rfl]
  simp only [run0, run1, run2, run3, run4, noSlot, ownS, ownK, memN, RO.dst, lk, drop, forget, number, Nat.reduceBEq, cut?, splice?, builds, Nat.reduceAdd, Nat.reduceLeDiff, ↓reduceIte, reduceCtorEq, qqa, qqb, qqc, qqd, qqe, qqf, qqg, qqh, qqi, qqj, qqk, qql, qqm, qqn, qqo, qqp, qqq, qqr, qqs, qqt, qqu, qqv, qqw, qqx, qqy]
  obtain ⟨s', ⟨g, hs, m, u⟩, l1⟩ := loop_goes (F := F) (Z := Z) (live := [0, 1, 5]) (b := r230L0) xs.length (fun i s => ∃ g, s = ⟨[(0, .c x), (1, .c (.int .i64 (k + sumI Shard.wt1 (xs.take i)))), (5, .c (.int .i64 (i : Nat)))], [], [], g⟩ ∧ Mk h g fp ∧ SlR 16 Shard.RI g x (Shard.marksS (xs.take i) k ++ xs.drop i) fp) (fun i s hi ⟨g, hs, m, u⟩ => by
    subst hs
    have hi' : i < (Shard.marksS (xs.take i) k ++ xs.drop i).length := by rw [List.length_append, Shard.marksS_len, List.length_take, List.length_drop]; omega
    have e := Shard.mark_at hi k hi'
    have hst := sumI_take Shard.wt1 xs hi
    have hp := hpre (i + 1)
    have h0 := hnn i
    obtain ⟨g', e1, m1, u1⟩ := markShardS_turn (Z := Z) hLShard hLAccount hLFin u nd (fun id hid => by rw [m.fl]; exact hlo id hid) hi' (k + sumI Shard.wt1 (xs.take i)) (by omega) (by rw [e]; omega)
    rw [e, Shard.mark_step hi] at u1
    rw [e] at e1
    refine ⟨_, ⟨g', rfl, ⟨m1.next.trans m.next, m1.fl.trans m.fl, fun id hid => (m1.get id hid).trans (m.get id hid)⟩, u1⟩, ?_⟩
    rw [e1, hst, Int.add_assoc]) (s := ⟨[(0, .c x), (1, .c (.int .i64 k)), (5, .c (.int .i64 (0 : Nat)))], [], [], h⟩) ⟨h, by simp [sumI], Mk.refl _ _, by simpa [Shard.marksS] using w⟩
  subst hs
  simp only [show ((0 : Nat) : Int) = 0 from rfl, List.take_length] at l1
  simp only [List.take_length, List.drop_length, List.append_nil] at u
  rw [l1, loop_run]
  conv in (codeF _ _ r230L0 _) => unfold r230L0
  have hlt : ¬ (xs.length : Int) < xs.length := by omega
  have hl := u.len
  rw [Shard.marksS_len] at hl
  simp only [run0, run1, run2, run3, run4, noSlot, ownS, ownK, memN, RO.dst, lk, drop, forget, number, Nat.reduceBEq, cut?, splice?, builds, Nat.reduceAdd, Nat.reduceLeDiff, ↓reduceIte, reduceCtorEq, qqa, qqb, qqc, qqd, qqe, qqf, qqg, qqh, qqi, qqj, qqk, qql, qqm, qqn, qqo, qqp, qqq, qqr, qqs, qqt, qqu, qqv, qqw, qqx, qqy, hl, hlt]
  exact ⟨g, rfl, m, u⟩
end
namespace Store
def wt (s : Store) : Int := sumI Shard.wt1 s.shards
def marked (s : Store) (k : Int) : Store := { s with shards := Shard.marksS s.shards k }
end Store
theorem Store.wt_nn (s : Store) : 0 ≤ s.wt := by
  have : ∀ ys : List Shard, 0 ≤ sumI Shard.wt1 ys := fun ys => by
    induction ys with
    | nil => simp [sumI]
    | cons a r ih => have := a.wt1_nn; simp only [sumI]; omega
  exact this _
theorem Store.wt_le {s : Store} (sm : s.Small) : s.wt ≤ 8000000000000 := by
  obtain ⟨h1, h2⟩ := sm
  have h3 := sumI_le Shard.wt1 (m := 7340036) s.shards fun a ha => by
    obtain ⟨b1, b2⟩ := h2 a ha
    have b1' : a.book.list.length ≤ 1048576 := b1
    have := a.wt1_nn
    refine ⟨this, ?_⟩
    simp only [Shard.wt1]; omega
  have : s.wt = sumI Shard.wt1 s.shards := rfl
  omega
section
variable {F : Nat → Option RF} {Z : CallF} {h : Heap} {cs : List Cell} {t : Store} {fp : List Nat}
theorem markStore_r (hLStore : Has F tLStore) (hLShard : Has F tLShard) (hLBook : Has F tLBook) (hLAccount : Has F tLAccount) (hLFin : Has F tLFin) (v : Store.RI h cs t fp) (nd : fp.Nodup) (hlo : ∀ id, id ∈ fp → h.floor ≤ id) (k : Int) (h1 : 0 ≤ k) (h2 : k + t.wt ≤ 9200000000000000000) :
    ∃ h', call F Z 191 [.agg cs, .c (.int .i64 k)] h = some (.c (.int .i64 (k + t.wt)), h') ∧ Mk h h' fp ∧ Store.RI h' cs (t.marked k) fp := by
  obtain ⟨x, p, rfl, rfl, w⟩ := v
  obtain ⟨g, e, m, u⟩ := markShardS_r (Z := Z) hLShard hLAccount hLFin w nd hlo k h1 h2
  rw [call_run F Z (hLStore.lk (g := 191) rfl) _ _ rfl]
  simp only [run0, run1, run2, run3, run4, noSlot, ownS, ownK, memN, RO.dst, lk, drop, forget, number, Nat.reduceBEq, cut?, splice?, builds, Nat.reduceAdd, Nat.reduceLeDiff, ↓reduceIte, reduceCtorEq, qqa, qqb, qqc, qqd, qqe, qqf, qqg, qqh, qqi, qqj, qqk, qql, qqm, qqn, qqo, qqp, qqq, qqr, qqs, qqt, qqu, qqv, qqw, qqx, qqy, e]
  exact ⟨g, rfl, m, ⟨x, _, rfl, rfl, u⟩⟩
end
end Go.Proofs.Ytgfclcpnefinoaa.A
namespace Go.Proofs.Ytgfclcpnefinoaa.A
open Go
set_option linter.unusedSimpArgs false
set_option linter.unusedVariables false
def Store.zeroC : List Cell := [.int .i64 0, .int .i64 0, .nil]
section
variable {F : Nat → Option RF} {Z : CallF} {h : Heap} {x y : Cell} {xs ys : List Store} {fp fq : List Nat}
end
end Go.Proofs.Ytgfclcpnefinoaa.A
namespace Go.Proofs.Ytgfclcpnefinoaa.A
open Go
set_option linter.unusedSimpArgs false
set_option linter.unusedVariables false
theorem Shard.marksS_at : ∀ (xs : List Shard) (k : Int) (i : Nat) (hi : i < xs.length) (h : i < (Shard.marksS xs k).length), (Shard.marksS xs k)[i] = xs[i].mark1 (k + sumI Shard.wt1 (xs.take i))
  | [], k, i, hi, h => by simp at hi
  | t :: r, k, 0, hi, h => by simp [Shard.marksS, sumI]
  | t :: r, k, i + 1, hi, h => by
    simp only [Shard.marksS, List.getElem_cons_succ, List.take_succ_cons, sumI]
    rw [Shard.marksS_at r _ i (by simpa using hi)]
    simp [Int.add_assoc]
theorem Shard.sum_nn : ∀ xs : List Shard, 0 ≤ sumI Shard.wt1 xs
  | [] => by simp [sumI]
  | a :: r => by have := a.wt1_nn; have := Shard.sum_nn r; simp only [sumI]; omega
theorem Shard.sum_pre (xs : List Shard) (i : Nat) : sumI Shard.wt1 (xs.take i) ≤ sumI Shard.wt1 xs := by
  have e := sumI_app Shard.wt1 (xs.take i) (xs.drop i)
  rw [List.take_append_drop] at e
  have := Shard.sum_nn (xs.drop i)
  omega
section
variable {F : Nat → Option RF} {Z : CallF} {h : Heap} {x : Cell} {xs : List Shard} {fp : List Nat}
set_option maxHeartbeats 2000000 in
theorem heldShardS_r (hLShard : Has F tLShard) (hLAccount : Has F tLAccount) (hLFin : Has F tLFin) {k : Int} (w : SlR 16 Shard.RI h x (Shard.marksS xs k) fp) (h1 : 0 ≤ k) (h2 : k + sumI Shard.wt1 xs ≤ 9200000000000000000) :
    call F Z 322 [.c x, .c (.int .i64 k)] h = some (.c (.int .i64 (k + sumI Shard.wt1 xs)), h) := by
  have hle := w.le2
  have hl := w.len
  rw [Shard.marksS_len] at hl hle
  rw [call_run F Z (hLShard.lk (g := 322) rfl) _ _ rfl]
  simp only [run0, run1, run2, run3, run4, noSlot, ownS, ownK, memN, RO.dst, lk, drop, forget, number, Nat.reduceBEq, cut?, splice?, builds, Nat.reduceAdd, Nat.reduceLeDiff, ↓reduceIte, reduceCtorEq, qqa, qqb, qqc, qqd, qqe, qqf, qqg, qqh, qqi, qqj, qqk, qql, qqm, qqn, qqo, qqp, qqq, qqr, qqs, qqt, qqu, qqv, qqw, qqx, qqy]
  obtain ⟨s', hs, l1⟩ := loop_goes (F := F) (Z := Z) (live := [0, 1, 5]) (b := r322L0) xs.length (fun i s => s = ⟨[(0, .c x), (1, .c (.int .i64 (k + sumI Shard.wt1 (xs.take i)))), (5, .c (.int .i64 (i : Nat)))], [], [], h⟩) (fun i s hi hs => by
    subst hs
    refine ⟨_, rfl, ?_⟩
    have hi' : i < (Shard.marksS xs k).length := by rw [Shard.marksS_len]; exact hi
    have hst := sumI_take Shard.wt1 xs hi
    have hp := Shard.sum_pre xs (i + 1)
    have h0 := Shard.sum_nn (xs.take i)
    have hlt : (i : Int) < xs.length := by omega
    have hws := wrapS i (by omega)
    have hxi := w.idx hi'
    obtain ⟨r, f, l4, hR, _⟩ := w.one hi'
    rw [Shard.marksS_at xs k i hi] at hR
    rw [hst]
    generalize xs[i] = a at *
    generalize hkk : k + sumI Shard.wt1 (xs.take i) = q at *
    rw [show k + (sumI Shard.wt1 (xs.take i) + a.wt1) = q + a.wt1 from by omega]
    have hq0 : 0 ≤ q := by omega
    have hq1 : q + a.wt1 ≤ 9200000000000000000 := by omega
    simp only [Shard.wt1] at hq1 ⊢
    obtain ⟨x1, p1, x2, p2, rfl, rfl, w1, w2⟩ := hR
    have e5 := heldAccountS_run (Z := Z) hLAccount (n := a.book.list.length) (k := q + 4) w1 (by omega) (by omega)
    have e6 := heldFinS_run (Z := Z) hLFin (n := a.finished.length) (k := q + 4 + 5 * (a.book.list.length : Nat)) w2 (by omega) (by omega)
    have hw1 := wrapI1 q (by omega) (by omega)
    have hw2 : IntKind.i64.wrap (q + 1 + 1) = q + 2 := by rw [wrapI _ (by omega) (by omega)]; omega
    have hw3 : IntKind.i64.wrap (q + 2 + 1) = q + 3 := by rw [wrapI _ (by omega) (by omega)]; omega
    have hw4 : IntKind.i64.wrap (q + 3 + 1) = q + 4 := by rw [wrapI _ (by omega) (by omega)]; omega
    have hu1 := wrapU1 q (by omega) (by omega)
    have hu2 := wrapU1 (q + 1) (by omega) (by omega)
    have n0 : ¬ q + 4 + 5 * ((a.book.list.length : Nat) : Int) < 0 := by omega
    have n1 : ¬ q + 4 + 5 * ((a.book.list.length : Nat) : Int) + 2 * ((a.finished.length : Nat) : Int) < 0 := by omega
    rw [loop_run]
    conv in (codeF _ _ r322L0 _) => unfold r322L0
    simp only [Shard.mark1] at l4
    simp only [run0, run1, run2, run3, run4, noSlot, ownS, ownK, memN, RO.dst, lk, drop, forget, number, Nat.reduceBEq, cut?, splice?, builds, Nat.reduceAdd, Nat.reduceLeDiff, ↓reduceIte, reduceCtorEq, qqa, qqb, qqc, qqd, qqe, qqf, qqg, qqh, qqi, qqj, qqk, qql, qqm, qqn, qqo, qqp, qqq, qqr, qqs, qqt, qqu, qqv, qqw, qqx, qqy, hl, hlt, hxi, l4, hw1, hw2, hw3, hw4, hu1, hu2, e5, e6, n0, n1, hws]
    rw [show q + (4 + 5 * ((a.book.list.length : Nat) : Int) + 2 * ((a.finished.length : Nat) : Int)) = q + 4 + 5 * (a.book.list.length : Nat) + 2 * (a.finished.length : Nat) from by omega]) (s := ⟨[(0, .c x), (1, .c (.int .i64 k)), (5, .c (.int .i64 (0 : Nat)))], [], [], h⟩) (by simp [sumI])
  subst hs
  simp only [show ((0 : Nat) : Int) = 0 from rfl, List.take_length] at l1
  rw [l1, loop_run]
  conv in (codeF _ _ r322L0 _) => unfold r322L0
  have hlt : ¬ (xs.length : Int) < xs.length := by omega
  simp only [run0, run1, run2, run3, run4, noSlot, ownS, ownK, memN, RO.dst, lk, drop, forget, number, Nat.reduceBEq, cut?, splice?, builds, Nat.reduceAdd, Nat.reduceLeDiff, ↓reduceIte, reduceCtorEq, qqa, qqb, qqc, qqd, qqe, qqf, qqg, qqh, qqi, qqj, qqk, qql, qqm, qqn, qqo, qqp, qqq, qqr, qqs, qqt, qqu, qqv, qqw, qqx, qqy, hl, hlt]
end
section
variable {F : Nat → Option RF} {Z : CallF} {h : Heap} {cs : List Cell} {t : Store} {fp : List Nat}
theorem heldStore_r (hLStore : Has F tLStore) (hLShard : Has F tLShard) (hLBook : Has F tLBook) (hLAccount : Has F tLAccount) (hLFin : Has F tLFin) {k : Int} (v : Store.RI h cs (t.marked k) fp) (h1 : 0 ≤ k) (h2 : k + t.wt ≤ 9200000000000000000) :
    call F Z 292 [.agg cs, .c (.int .i64 k)] h = some (.c (.int .i64 (k + t.wt)), h) := by
  obtain ⟨x, p, rfl, rfl, w⟩ := v
  have e := heldShardS_r (Z := Z) hLShard hLAccount hLFin (xs := t.shards) w h1 h2
  have hn := t.wt_nn
  rw [call_run F Z (hLStore.lk (g := 292) rfl) _ _ rfl]
  have he : sumI Shard.wt1 t.shards = t.wt := rfl
  rw [he] at e
  have hk : ¬ k + t.wt < 0 := by omega
  simp only [run0, run1, run2, run3, run4, noSlot, ownS, ownK, memN, RO.dst, lk, drop, forget, number, Nat.reduceBEq, cut?, splice?, builds, Nat.reduceAdd, Nat.reduceLeDiff, ↓reduceIte, reduceCtorEq, qqa, qqb, qqc, qqd, qqe, qqf, qqg, qqh, qqi, qqj, qqk, qql, qqm, qqn, qqo, qqp, qqq, qqr, qqs, qqt, qqu, qqv, qqw, qqx, qqy, e, hk]
end
def Store.mark1 (t : Store) (k : Int) : Store := ⟨k, k + 1, Shard.marksS t.shards (k + 2)⟩
def Store.wt1 (t : Store) : Int := 2 + sumI Shard.wt1 t.shards
def Store.marksS : List Store → Int → List Store
  | [], _ => []
  | t :: r, k => t.mark1 k :: Store.marksS r (k + t.wt1)
theorem Store.wt1_nn (t : Store) : 0 ≤ t.wt1 := by have := Shard.sum_nn t.shards; simp only [wt1]; omega
theorem Store.sum_nn : ∀ xs : List Store, 0 ≤ sumI Store.wt1 xs
  | [] => by simp [sumI]
  | a :: r => by have := a.wt1_nn; have := Store.sum_nn r; simp only [sumI]; omega
theorem Store.sum_pre (xs : List Store) (i : Nat) : sumI Store.wt1 (xs.take i) ≤ sumI Store.wt1 xs := by
  have e := sumI_app Store.wt1 (xs.take i) (xs.drop i)
  rw [List.take_append_drop] at e
  have := Store.sum_nn (xs.drop i)
  omega
theorem Store.marksS_len : ∀ (xs : List Store) (k : Int), (Store.marksS xs k).length = xs.length
  | [], _ => rfl
  | t :: r, k => by simp only [Store.marksS, List.length_cons, Store.marksS_len r]
theorem Store.marksS_app : ∀ (xs ys : List Store) (k : Int), Store.marksS (xs ++ ys) k = Store.marksS xs k ++ Store.marksS ys (k + sumI Store.wt1 xs)
  | [], ys, k => by simp [Store.marksS, sumI]
  | t :: r, ys, k => by
    simp only [List.cons_append, Store.marksS, Store.marksS_app r ys, sumI, Int.add_assoc]
theorem Store.mark_step {xs : List Store} {i : Nat} (hi : i < xs.length) (k : Int) :
    (Store.marksS (xs.take i) k ++ xs.drop i).set i (xs[i].mark1 (k + sumI Store.wt1 (xs.take i))) = Store.marksS (xs.take (i + 1)) k ++ xs.drop (i + 1) := by
  have hl : (Store.marksS (xs.take i) k).length = i := by rw [Store.marksS_len, List.length_take]; omega
  rw [List.set_append_right _ _ (by omega), hl, Nat.sub_self, List.drop_eq_getElem_cons hi, List.set_cons_zero, List.take_add_one, List.getElem?_eq_getElem hi, Store.marksS_app]
  simp [Store.marksS]
theorem Store.mark_at {xs : List Store} {i : Nat} (hi : i < xs.length) (k : Int) (h : i < (Store.marksS (xs.take i) k ++ xs.drop i).length) : (Store.marksS (xs.take i) k ++ xs.drop i)[i] = xs[i] := by
  have hl : (Store.marksS (xs.take i) k).length = i := by rw [Store.marksS_len, List.length_take]; omega
  rw [List.getElem_append_right (by omega)]
  simp [hl]
section
variable {F : Nat → Option RF} {Z : CallF} {h : Heap} {x : Cell} {xs : List Store} {fp : List Nat}
end
end Go.Proofs.Ytgfclcpnefinoaa.A
