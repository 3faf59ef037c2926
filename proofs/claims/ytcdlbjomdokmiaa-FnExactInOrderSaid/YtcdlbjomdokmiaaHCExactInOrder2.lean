/- The functions that the statement reaches, part 2: bodies and what they compute. No condition. -/
import Derived.Test.YtcdlbjomdokmiaaHCExactInOrder1
import Derived.Test.YtcdlbjomdokmiaaZ6
import Derived.Test.YtcdlbjomdokmiaaB9
import Derived.Test.YtcdlbjomdokmiaaD
/- Rows of data with memory of their own: read, and filled one by one. -/
namespace Go.Proofs.Ytcdlbjomdokmiaa.A
open Go
set_option linter.unusedSimpArgs false
set_option linter.unusedVariables false
section
variable {α : Type} {R : Rel α} {tag : Nat} {h : Heap} {x : Cell} {xs : List α} {fp : List Nat}
/-- One row of a slice. -/
theorem SlR.one (w : SlR tag R h x xs fp) {i : Nat} (hi : i < xs.length) : ∃ r f, (∀ j n, loadP h x.sid i j n = cut? r j n) ∧ R h r xs[i] f ∧ ∀ id, id ∈ f → id ∈ fp := by
  obtain ⟨r, f, h1, h2, h3⟩ := w.row hi
  exact ⟨r, f, fun j n => by simp [loadP, h1], h2, h3⟩
/-- Rows of which the first are filled. -/
structure Filled (R : Rel α) (h0 g : Heap) (o : Nat) (z : List Cell) (xs : List α) (i : Nat) (rows : List (List Cell)) (fps : List (List Nat)) : Prop where
  on : On h0 g
  ge : h0.next ≤ o
  lt : o < g.next
  get : g.get o = some rows
  len : rows.length = xs.length
  rel : AllR R g (rows.take i) (xs.take i) fps
  rest : ∀ j, i ≤ j → j < xs.length → rows[j]? = some z
  nd : fps.flatten.Nodup
  out : ∀ id, id ∈ fps.flatten → o < id
theorem AllR.snoc {h : Heap} : ∀ {rows : List (List Cell)} {xs : List α} {fps : List (List Nat)}, AllR R h rows xs fps → ∀ {r a f}, R h r a f → AllR R h (rows ++ [r]) (xs ++ [a]) (fps ++ [f])
  | [], [], [], _ => fun w => ⟨w, trivial⟩
  | _ :: _, _ :: _, _ :: _, ⟨w1, w⟩ => fun w2 => ⟨w1, w.snoc w2⟩
  | [], [], _ :: _, w => w.elim
  | [], _ :: _, _, w => w.elim
  | _ :: _, [], _, w => w.elim
  | _ :: _, _ :: _, [], w => w.elim
theorem Filled.start (h : Heap) (z : List Cell) (xs : List α) : Filled R h (h.push (List.replicate xs.length z)) h.next z xs 0 (List.replicate xs.length z) [] where
  on := On.push _ _
  ge := Nat.le_refl _
  lt := by rw [push_next]; omega
  get := push_get _ _
  len := by simp
  rel := trivial
  rest := fun j _ hj => by rw [List.getElem?_replicate, if_pos hj]
  nd := List.nodup_nil
  out := fun id hid => by simp at hid
/-- One more row. -/
theorem Filled.step (ok : RelOk R) {h0 g g' : Heap} {o : Nat} {z : List Cell} {i : Nat} {rows : List (List Cell)} {fps : List (List Nat)} (w : Filled R h0 g o z xs i rows fps) (hf : h0.floor ≤ h0.next) (hi : i < xs.length)
    {cs : List Cell} {fq : List Nat} (hz : cs.length = z.length) (o' : On g g') (v : R g' cs xs[i] fq) (f : Fre g fq) :
    storeP g' o i 0 cs = some (g'.put o (rows.set i cs)) ∧ Filled R h0 (g'.put o (rows.set i cs)) o z xs (i + 1) (rows.set i cs) (fps ++ [fq]) := by
  have hget : g'.get o = some rows := by rw [o'.ext.2 o w.lt]; exact w.get
  have hri : rows[i]? = some z := w.rest i (Nat.le_refl _) hi
  have hfl : g'.floor ≤ o := by rw [o'.fl, w.on.fl]; exact Nat.le_trans hf w.ge
  have hlen : i < rows.length := by rw [w.len]; exact hi
  have hput : ∀ id, id ≠ o → (g'.put o (rows.set i cs)).get id = g'.get id := fun id hid => by simp only [Heap.put]; rw [if_neg hid]
  have hin : ∀ id, id ∈ fps.flatten → id < g.next := by
    intro id hid
    exact w.rel.lt ok id hid
  refine ⟨?_, ?_⟩
  · refine storeP_at hfl hget hri ?_
    rw [splice?, if_pos (by omega)]
    simp [← hz]
  · refine ⟨⟨⟨Nat.le_trans w.on.ext.1 o'.ext.1, fun id hid => ?_⟩, o'.fl.trans w.on.fl⟩, w.ge, Nat.lt_of_lt_of_le w.lt o'.ext.1, by simp [Heap.put], by simp [w.len], ?_, fun j h1 h2 => ?_, ?_, fun id hid => ?_⟩
    · have := w.ge
      rw [hput id (by omega), o'.ext.2 id (Nat.lt_of_lt_of_le hid w.on.ext.1)]
      exact w.on.ext.2 id hid
    · have e1 : (rows.set i cs).take (i + 1) = rows.take i ++ [cs] := by
        rw [List.take_add_one, List.getElem?_set_self hlen]
        rw [List.take_set, List.set_eq_of_length_le (by simp; omega)]
        rfl
      have e2 : xs.take (i + 1) = xs.take i ++ [xs[i]] := by rw [List.take_add_one, List.getElem?_eq_getElem hi]; rfl
      rw [e1, e2]
      have v' : R (g'.put o (rows.set i cs)) cs xs[i] fq := ok.mv v (Nat.le_refl _) fun id hid => hput id (by have := f.lo id hid; have := w.lt; omega)
      refine AllR.snoc (w.rel.mv (h' := g'.put o (rows.set i cs)) ok o'.ext.1 fun id hid => ?_) v'
      rw [hput id (by have := w.out id hid; omega)]
      exact o'.ext.2 id (hin id hid)
    · rw [List.getElem?_set_ne (by omega)]
      exact w.rest j (by omega) h2
    · rw [List.flatten_append]
      simp only [List.flatten_cons, List.flatten_nil, List.append_nil]
      exact List.nodup_append.2 ⟨w.nd, f.nd, fun a ha b hb => by have := hin a ha; have := f.lo b hb; omega⟩
    · rw [List.flatten_append] at hid
      simp only [List.flatten_cons, List.flatten_nil, List.append_nil] at hid
      rcases List.mem_append.1 hid with hid | hid
      · exact w.out id hid
      · have := f.lo id hid
        have := w.lt
        omega
theorem Filled.all {h0 g : Heap} {o : Nat} {z : List Cell} {rows : List (List Cell)} {fps : List (List Nat)} (w : Filled R h0 g o z xs xs.length rows fps) (hl : xs.length ≤ 1048576) (tag : Nat) :
    On h0 g ∧ SlR tag R g (.sl tag o 0 xs.length) xs (o :: fps.flatten) ∧ Fre h0 (o :: fps.flatten) := by
  have hr := w.rel
  rw [List.take_length, ← w.len, List.take_length] at hr
  refine ⟨w.on, ⟨by unfold maxLen; omega, .inr ⟨o, rows, fps, rfl, w.get, w.lt, rfl, hr⟩⟩, ⟨fun id hid => ?_, ?_⟩⟩
  · have := w.ge
    rcases List.mem_cons.1 hid with rfl | hid
    · omega
    · have := w.out id hid; omega
  · exact List.nodup_cons.2 ⟨fun hc => by have := w.out o hc; omega, w.nd⟩
end
end Go.Proofs.Ytcdlbjomdokmiaa.A
/- Loops behind which the heap goes on. -/
namespace Go.Proofs.Ytcdlbjomdokmiaa.A
open Go
set_option linter.unusedSimpArgs false
set_option linter.unusedVariables false
/-- One turn goes on with a heap that goes on, or returns. -/
def TurnO (r : Option (Ex × St)) (next : Heap → Option (Ex × St)) (g : Heap) (p : Bool) (Q : St → Prop) : Prop :=
  (p = true ∧ ∃ g', On g g' ∧ r = next g') ∨ (p = false ∧ ∃ s', r = some (.ret, s') ∧ On g s'.hp ∧ Q s')
section
variable {F : Nat → Option RF} {Z : CallF} {live : List Nat} {b : RC}
theorem loop_on (n : Nat) (st : Nat → Heap → St) (h : Heap) (P : Nat → Bool) (Q : St → Prop)
    (hs : ∀ i g, i < n → On h g → TurnO (loop F Z live b (st i g)) (fun g' => loop F Z live b (st (i + 1) g')) g (P i) Q) :
    TurnO (loop F Z live b (st 0 h)) (fun g' => loop F Z live b (st n g')) h ((List.range n).all P) Q := by
  induction n with
  | zero => exact .inl ⟨rfl, h, On.refl h, rfl⟩
  | succ n ih =>
    have hl : (List.range (n + 1)).all P = ((List.range n).all P && P n) := by rw [List.range_succ, List.all_append]; simp
    rcases ih fun i g hi => hs i g (by omega) with ⟨h1, g1, o1, e1⟩ | ⟨h1, s', e1, o1, q1⟩
    · rcases hs n g1 (by omega) o1 with ⟨h3, g2, o2, e2⟩ | ⟨h3, s', e2, o2, q2⟩
      · exact .inl ⟨by rw [hl, h1, h3]; rfl, g2, o1.trans o2, e1.trans e2⟩
      · exact .inr ⟨by rw [hl, h1, h3]; rfl, s', e1.trans e2, o1.trans o2, q2⟩
    · exact .inr ⟨by rw [hl, h1]; rfl, s', e1, o1, q1⟩
end
theorem On.mkup {h h' : Heap} (o : On ⟨h.next, h.next, h.get⟩ h') : On h ⟨h'.next, h.floor, h'.get⟩ := ⟨⟨o.ext.1, o.ext.2⟩, rfl⟩
end Go.Proofs.Ytcdlbjomdokmiaa.A
/- Slices of data with memory: built by appending, and with one row turned. -/
namespace Go.Proofs.Ytcdlbjomdokmiaa.A
open Go
set_option linter.unusedSimpArgs false
set_option linter.unusedVariables false
theorem push_ne {h : Heap} (r : List (List Cell)) {id : Nat} (hid : id ≠ h.next) : (h.push r).get id = h.get id := by simp only [Heap.push]; rw [if_neg hid]
theorem kill_ne {h : Heap} {k id : Nat} (hid : id ≠ k) : (h.kill k).get id = h.get id := by simp only [Heap.kill]; rw [if_neg hid]
theorem put_ne {h : Heap} {k id : Nat} (r : List (List Cell)) (hid : id ≠ k) : (h.put k r).get id = h.get id := by simp only [Heap.put]; rw [if_neg hid]
theorem kill_next (h : Heap) (k : Nat) : (h.kill k).next = h.next := rfl
/-- A cell shows data that was made behind h0. -/
structure AccM {α : Type} (R : Rel α) (tag : Nat) (h0 h : Heap) (x : Cell) (xs : List α) (fp : List Nat) : Prop where
  on : On h0 h
  sh : SlR tag R h x xs fp
  fr : Fre h0 fp
section
variable {α : Type} {R : Rel α} {tag : Nat} {h0 h g : Heap} {x : Cell} {xs : List α} {fp fq : List Nat}
theorem AccM.nil (R : Rel α) (tag : Nat) (h : Heap) : AccM R tag h h .nil [] [] := ⟨On.refl h, SlR.nil _ _ _, Fre.nil h⟩
theorem AccM.none (R : Rel α) (tag : Nat) (o : On h0 h) : AccM R tag h0 h .nil [] [] := ⟨o, SlR.nil _ _ _, Fre.nil h0⟩
theorem AccM.lit0 (R : Rel α) (tag : Nat) (o : On h0 h) : AccM R tag h0 (h.push []) (.sl tag h.next 0 0) [] [h.next] :=
  ⟨o.trans (On.push h []), ⟨by simp, .inr ⟨h.next, [], [], rfl, push_get _ _, by rw [push_next]; omega, rfl, trivial⟩⟩, Fre.at o.ext.1⟩
theorem AccM.go (a : AccM R tag h0 h x xs fp) (ok : RelOk R) (o : On h g) : AccM R tag h0 g x xs fp := ⟨a.on.trans o, a.sh.on ok o, a.fr⟩
theorem Fre.gt (f : Fre h0 fp) : ∀ id, id < h0.next → id ∉ fp := fun id h1 h2 => by have := f.lo id h2; omega
theorem Fre.sep {p q : List Nat} (f : Fre h0 p) (hp : ∀ id, id ∈ p → id < h.next) (g : Fre h q) : ∀ id, id ∈ q → id ∉ p := fun id h1 h2 => by
  have := hp id h2
  have := g.lo id h1
  omega
theorem flat_snoc {fps : List (List Nat)} {fq : List Nat} : (fps ++ [fq]).flatten = fps.flatten ++ fq := by simp
/-- One more element. -/
theorem AccM.one (ok : RelOk R) (a : AccM R tag h0 h x xs fp) (hf : h0.floor ≤ h0.next) {bytes : Nat} (hb : (xs.length + 1) * bytes ≤ 140737488355328) (hl : xs.length + 1 ≤ 140737488355328)
    (o : On h g) {cs : List Cell} {t : α} (v : R g cs t fq) (f : Fre h0 fq) (d : ∀ id, id ∈ fq → id ∉ fp) :
    ∃ y' g' fp', appF (g.push [cs]) tag bytes x (.sl tag g.next 0 1) = some (y', g') ∧ AccM R tag h0 g' y' (xs ++ [t]) fp' ∧ h.next ≤ g'.next ∧ (∀ id, id ∈ fp' → id ∈ fp ∨ id ∈ fq ∨ g.next ≤ id) ∧ (∀ id, id < g.next → id ∉ fp → g'.get id = g.get id) := by
  have on' := a.on.trans o
  have hlt : ∀ id, id ∈ fq → id < g.next := ok.lt v
  have hp1 : ∀ id, id < g.next → (g.push [cs]).get id = g.get id := fun id hid => by simp only [Heap.push]; rw [if_neg (by omega)]
  have hn := o.ext.1
  rcases a.sh with ⟨_, ⟨rfl, rfl, rfl⟩ | ⟨id, rows, fps, rfl, q1, q2, rfl, q3⟩⟩
  · refine ⟨.sl tag (g.next + 1) 0 1, (g.push [cs]).push [cs], (g.next + 1) :: ([fq] : List (List Nat)).flatten, ?_, ⟨on'.trans ((On.push _ _).trans (On.push _ _)), ⟨by simp [maxLen], .inr ⟨g.next + 1, [cs], [fq], rfl, ?_, ?_, rfl, ?_⟩⟩, ⟨?_, ?_⟩⟩, ?_, ?_, ?_⟩
    · simp only [List.length_nil, Nat.zero_add] at hb
      simp only [appF, isTag, beq_self_eq_true, ↓reduceIte, rowsOf, push_get, Option.bind_some, List.length_singleton, Nat.zero_add, Nat.le_refl, List.drop_zero, List.take_one, List.head?_cons, Option.toList_some]
      rw [if_neg (by omega), if_pos (by omega)]; rfl
    · exact push_get _ _
    · simp only [push_next]; omega
    · refine ⟨ok.mv v (by simp only [push_next]; omega) fun id hid => ?_, trivial⟩
      have := hlt id hid
      rw [push_ne _ (by rw [push_next]; omega), push_ne _ (by omega)]
    · intro id hid
      simp only [List.flatten_cons, List.flatten_nil, List.append_nil, List.mem_cons] at hid
      rcases hid with rfl | hid
      · have := on'.ext.1; omega
      · exact f.lo id hid
    · simp only [List.flatten_cons, List.flatten_nil, List.append_nil, List.nodup_cons]
      exact ⟨fun hc => by have := hlt _ hc; omega, f.nd⟩
    · simp only [push_next]; omega
    · intro id hid
      simp only [List.flatten_cons, List.flatten_nil, List.append_nil, List.mem_cons] at hid
      rcases hid with rfl | hid
      · exact .inr (.inr (by omega))
      · exact .inr (.inl hid)
    · intro id h1 _
      rw [push_ne _ (by rw [push_next]; omega), push_ne _ (by omega)]
  · have hlo : h0.next ≤ id := a.fr.lo id (by simp)
    have hnd := List.nodup_cons.1 a.fr.nd
    have hrl := q3.len
    have hg : (g.push [cs]).get id = some rows := by rw [hp1 id (by omega), o.ext.2 id q2, q1]
    have hfl : g.floor ≤ id := by rw [on'.fl]; omega
    have hin : ∀ j, j ∈ fps.flatten → j < h.next := q3.lt ok
    have hgt : ∀ j, j < g.next → j ≠ id → (((g.push [cs]).kill id).push (rows ++ [cs])).get j = g.get j := fun j h1 h2 => by
      rw [push_ne _ (by rw [kill_next, push_next]; omega), kill_ne h2, push_ne _ (by omega)]
    refine ⟨.sl tag (g.next + 1) 0 (xs.length + 1), ((g.push [cs]).kill id).push (rows ++ [cs]), (g.next + 1) :: (fps ++ [fq]).flatten, ?_, ⟨⟨⟨?_, ?_⟩, ?_⟩, ⟨by simp [maxLen]; omega, .inr ⟨g.next + 1, rows ++ [cs], fps ++ [fq], by simp, ?_, ?_, rfl, ?_⟩⟩, ⟨?_, ?_⟩⟩, ?_, ?_, ?_⟩
    · simp only [appF, isTag, beq_self_eq_true, ↓reduceIte, rowsOf, push_get, Option.bind_some, List.length_singleton, Nat.zero_add, Nat.le_refl, List.drop_zero, List.take_one, List.head?_cons, Option.toList_some, hg]
      simp only [hrl, push_floor, hfl, hb, and_self, ↓reduceIte]; rfl
    · have := on'.ext.1
      simp only [Heap.push, Heap.kill]; omega
    · intro j hj
      have := on'.ext.1
      rw [hgt j (by omega) (by omega)]
      exact on'.ext.2 j hj
    · exact on'.fl
    · simp [Heap.push, Heap.kill]
    · simp only [Heap.push, Heap.kill]; omega
    · refine AllR.snoc (q3.mv (h' := ((g.push [cs]).kill id).push (rows ++ [cs])) ok (by simp only [Heap.push, Heap.kill]; omega) fun j hj => ?_) (ok.mv v (by simp only [Heap.push, Heap.kill]; omega) fun j hj => ?_)
      · have h1 := hin j hj
        rw [hgt j (by omega) (fun e => hnd.1 (e ▸ hj))]
        exact o.ext.2 j h1
      · exact hgt j (hlt j hj) fun e => d j hj (by rw [e]; simp)
    · intro j hj
      rw [flat_snoc] at hj
      rcases List.mem_cons.1 hj with rfl | hj
      · have := on'.ext.1; omega
      · rcases List.mem_append.1 hj with hj | hj
        · exact a.fr.lo j (by simp [hj])
        · exact f.lo j hj
    · rw [flat_snoc, List.nodup_cons]
      refine ⟨fun hc => ?_, List.nodup_append.2 ⟨hnd.2, f.nd, fun p hp q hq e => d q hq (by rw [← e]; simp [hp])⟩⟩
      rcases List.mem_append.1 hc with hc | hc
      · have := hin _ hc; omega
      · have := hlt _ hc; omega
    · simp only [Heap.push, Heap.kill]; omega
    · intro j hj
      rw [flat_snoc] at hj
      rcases List.mem_cons.1 hj with rfl | hj
      · exact .inr (.inr (by omega))
      · rcases List.mem_append.1 hj with hj | hj
        · exact .inl (by simp [hj])
        · exact .inr (.inl hj)
    · intro j h1 h2
      exact hgt j h1 fun e => h2 (by rw [e]; simp)
end
end Go.Proofs.Ytcdlbjomdokmiaa.A
/- One row of data with memory is turned in place. -/
namespace Go.Proofs.Ytcdlbjomdokmiaa.A
open Go
set_option linter.unusedSimpArgs false
set_option linter.unusedVariables false
theorem flat_set_mem {fq : List Nat} {id : Nat} : ∀ (fps : List (List Nat)) (i : Nat), id ∈ (fps.set i fq).flatten → id ∈ fps.flatten ∨ id ∈ fq
  | [], i, h => by simp at h
  | f :: r, 0, h => by
    simp only [List.set_cons_zero, List.flatten_cons, List.mem_append] at h ⊢
    rcases h with h | h
    · exact .inr h
    · exact .inl (.inr h)
  | f :: r, i + 1, h => by
    simp only [List.set_cons_succ, List.flatten_cons, List.mem_append] at h ⊢
    rcases h with h | h
    · exact .inl (.inl h)
    · rcases flat_set_mem r i h with h | h
      · exact .inl (.inr h)
      · exact .inr h
theorem flat_set_nodup {fq : List Nat} (nq : fq.Nodup) : ∀ (fps : List (List Nat)) (i : Nat) (f : List Nat), fps[i]? = some f → fps.flatten.Nodup → (∀ id, id ∈ fq → id ∈ f ∨ id ∉ fps.flatten) → (fps.set i fq).flatten.Nodup
  | [], i, f, h, _, _ => by simp at h
  | g :: r, 0, f, h, nd, hd => by
    simp only [List.getElem?_cons_zero, Option.some.injEq] at h
    subst h
    simp only [List.set_cons_zero, List.flatten_cons] at nd ⊢
    obtain ⟨n1, n2, n3⟩ := List.nodup_append.1 nd
    refine List.nodup_append.2 ⟨nq, n2, fun a ha b hb e => ?_⟩
    subst e
    rcases hd a ha with h | h
    · exact n3 a h a hb rfl
    · exact h (by rw [List.flatten_cons, List.mem_append]; exact .inr hb)
  | g :: r, i + 1, f, h, nd, hd => by
    simp only [List.getElem?_cons_succ] at h
    simp only [List.set_cons_succ, List.flatten_cons] at nd ⊢
    obtain ⟨n1, n2, n3⟩ := List.nodup_append.1 nd
    refine List.nodup_append.2 ⟨n1, flat_set_nodup nq r i f h n2 fun id hid => ?_, fun a ha b hb e => ?_⟩
    · rcases hd id hid with h | h
      · exact .inl h
      · exact .inr fun hc => h (by rw [List.flatten_cons, List.mem_append]; exact .inr hc)
    · subst e
      rcases flat_set_mem r i hb with hb | hb
      · exact n3 a ha a hb rfl
      · rcases hd a hb with h' | h'
        · exact n3 a ha a (List.mem_flatten.2 ⟨f, List.mem_of_getElem? h, h'⟩) rfl
        · exact h' (by rw [List.flatten_cons, List.mem_append]; exact .inl ha)
section
variable {α : Type} {R : Rel α} {tag : Nat} {h0 h g : Heap} {x : Cell} {xs : List α} {fp fq : List Nat}
theorem AllR.set {r : List Cell} {t : α} (w1 : R h r t fq) : ∀ {rows : List (List Cell)} {xs : List α} {fps : List (List Nat)}, AllR R h rows xs fps → ∀ (i : Nat), AllR R h (rows.set i r) (xs.set i t) (fps.set i fq)
  | [], [], [], _, _ => trivial
  | _ :: _, _ :: _, _ :: _, ⟨_, w⟩, 0 => ⟨w1, w⟩
  | _ :: _, _ :: _, _ :: _, ⟨w0, w⟩, i + 1 => ⟨w0, AllR.set w1 w i⟩
  | [], [], _ :: _, w, _ => w.elim
  | [], _ :: _, _, w, _ => w.elim
  | _ :: _, [], _, w, _ => w.elim
  | _ :: _, _ :: _, [], w, _ => w.elim
/-- One row, and what a store into it leaves. -/
theorem SlR.setRow (ok : RelOk R) (w : SlR tag R h x xs fp) (nd : fp.Nodup) (hfl : ∀ id, id ∈ fp → h.floor ≤ id) {i : Nat} (hi : i < xs.length) :
    ∃ r f, ∃ rows : List (List Cell), R h r xs[i] f ∧ (∀ id, id ∈ f → id ∈ fp) ∧ f.Nodup ∧ x.sid ∈ fp ∧ x.sid ∉ f ∧ (∀ j n, loadP h x.sid i j n = cut? r j n) ∧ (∀ j new r', splice? r j new = some r' → storeP h x.sid i j new = some (h.put x.sid (rows.set i r'))) ∧
      ∀ r' t' fq, R h r' t' fq → fq.Nodup → (∀ id, id ∈ fq → id ∈ f ∨ id ∉ fp) → ∃ fp', SlR tag R (h.put x.sid (rows.set i r')) x (xs.set i t') fp' ∧ fp'.Nodup ∧ ∀ id, id ∈ fp' → id ∈ fp ∨ id ∈ fq := by
  rcases w with ⟨hl, ⟨rfl, rfl, rfl⟩ | ⟨id, rows, fps, rfl, q1, q2, rfl, q3⟩⟩
  · exact absurd hi (Nat.not_lt_zero _)
  obtain ⟨r, f, e1, e2, v⟩ := q3.at i hi
  have hn := List.nodup_cons.1 nd
  have hin : ∀ j, j ∈ f → j ∈ fps.flatten := fun j hj => List.mem_flatten.2 ⟨f, List.mem_of_getElem? e2, hj⟩
  have hfn : f.Nodup := by
    have : ∀ (fps : List (List Nat)) (i : Nat), fps[i]? = some f → fps.flatten.Nodup → f.Nodup := by
      intro fps
      induction fps with
      | nil => intro i h _; simp at h
      | cons g r ih =>
        intro i h nd
        rw [List.flatten_cons] at nd
        obtain ⟨n1, n2, _⟩ := List.nodup_append.1 nd
        cases i with
        | zero => simp only [List.getElem?_cons_zero, Option.some.injEq] at h; exact h ▸ n1
        | succ i => exact ih i (by simpa using h) n2
    exact this fps i e2 hn.2
  refine ⟨r, f, rows, v, fun j hj => List.mem_cons_of_mem _ (hin j hj), hfn, by simp [Cell.sid], fun hc => hn.1 (hin _ hc), fun j n => by simp [loadP, rowOf, Cell.sid, q1, e1], fun j new r' hs => ?_, fun r' t' fq v' nq hd => ?_⟩
  · exact storeP_at (hfl _ (by simp [Cell.sid])) q1 e1 hs
  · have hne : ∀ j, j ∈ fq → j ≠ id := fun j hj e => by
      rcases hd j hj with h1 | h1
      · exact hn.1 (e ▸ hin j h1)
      · exact h1 (by rw [e]; simp)
    refine ⟨id :: (fps.set i fq).flatten, ⟨by simpa using hl, .inr ⟨id, rows.set i r', fps.set i fq, by simp, by simp [Heap.put, Cell.sid], q2, rfl, ?_⟩⟩, ?_, ?_⟩
    · have v'' : R (h.put id (rows.set i r')) r' t' fq := ok.mv v' (Nat.le_refl _) fun j hj => put_ne _ (hne j hj)
      exact AllR.set v'' (q3.mv (h' := h.put id (rows.set i r')) ok (Nat.le_refl _) fun j hj => put_ne _ fun e => hn.1 (e ▸ hj)) i
    · rw [List.nodup_cons]
      refine ⟨fun hc => ?_, flat_set_nodup nq fps i f e2 hn.2 fun j hj => ?_⟩
      · rcases flat_set_mem _ _ hc with hc | hc
        · exact hn.1 hc
        · exact hne _ hc rfl
      · rcases hd j hj with h1 | h1
        · exact .inl h1
        · exact .inr fun hc => h1 (List.mem_cons_of_mem _ hc)
    · intro j hj
      rcases List.mem_cons.1 hj with rfl | hj
      · exact .inl (by simp)
      · rcases flat_set_mem _ _ hj with hj | hj
        · exact .inl (List.mem_cons_of_mem _ hj)
        · exact .inr hj
theorem AllR.turn (ok : RelOk R) {h' : Heap} (hn : h.next ≤ h'.next) {r' : List Cell} {t' : α} : ∀ {rows : List (List Cell)} {xs : List α} {fps : List (List Nat)}, AllR R h rows xs fps → ∀ (i : Nat) (f : List Nat), fps[i]? = some f → fps.flatten.Nodup →
    (∀ id, id ∈ fps.flatten → id ∉ f → h'.get id = h.get id) → R h' r' t' f → AllR R h' (rows.set i r') (xs.set i t') fps
  | [], [], [], _, i, f, e, _, _, _ => by simp at e
  | r :: rs, a :: bs, g :: gs, ⟨w0, w⟩, 0, f, e, nd, hg, v => by
    simp only [List.getElem?_cons_zero, Option.some.injEq] at e
    subst e
    rw [List.flatten_cons] at nd
    obtain ⟨n1, n2, n3⟩ := List.nodup_append.1 nd
    exact ⟨v, w.mv ok hn fun id hid => hg id (by rw [List.flatten_cons, List.mem_append]; exact .inr hid) fun hf => n3 id hf id hid rfl⟩
  | r :: rs, a :: bs, g :: gs, ⟨w0, w⟩, i + 1, f, e, nd, hg, v => by
    simp only [List.getElem?_cons_succ] at e
    rw [List.flatten_cons] at nd
    obtain ⟨n1, n2, n3⟩ := List.nodup_append.1 nd
    exact ⟨ok.mv w0 hn fun id hid => hg id (by rw [List.flatten_cons, List.mem_append]; exact .inl hid) fun hf => n3 id hid id (List.mem_flatten.2 ⟨f, List.mem_of_getElem? e, hf⟩) rfl,
      AllR.turn ok hn w i f e n2 (fun id hid hf => hg id (by rw [List.flatten_cons, List.mem_append]; exact .inr hid) hf) v⟩
  | [], [], _ :: _, w, _, _, _, _, _, _ => w.elim
  | [], _ :: _, _, w, _, _, _, _, _, _ => w.elim
  | _ :: _, [], _, w, _, _, _, _, _, _ => w.elim
  | _ :: _, _ :: _, [], w, _, _, _, _, _, _ => w.elim
theorem flat_at_nodup {f : List Nat} : ∀ (fps : List (List Nat)) (i : Nat), fps[i]? = some f → fps.flatten.Nodup → f.Nodup
  | [], i, h, _ => by simp at h
  | g :: r, i, h, nd => by
    rw [List.flatten_cons] at nd
    obtain ⟨n1, n2, _⟩ := List.nodup_append.1 nd
    cases i with
    | zero => simp only [List.getElem?_cons_zero, Option.some.injEq] at h; exact h ▸ n1
    | succ i => exact flat_at_nodup r i (by simpa using h) n2
/-- One element with its own memory is turned. -/
theorem SlR.turn (ok : RelOk R) (w : SlR tag R h x xs fp) (nd : fp.Nodup) {i : Nat} (hi : i < xs.length) :
    ∃ r f, ∃ rows : List (List Cell), R h r xs[i] f ∧ (∀ id, id ∈ f → id ∈ fp) ∧ f.Nodup ∧ x.sid ∈ fp ∧ x.sid ∉ f ∧ x.sid < h.next ∧ h.get x.sid = some rows ∧ rows[i]? = some r ∧ i < rows.length ∧
      ∀ h' r' t', h.next ≤ h'.next → (∀ id, id ∈ fp → id ≠ x.sid → id ∉ f → h'.get id = h.get id) → h'.get x.sid = some (rows.set i r') → R h' r' t' f → SlR tag R h' x (xs.set i t') fp := by
  rcases w with ⟨hl, ⟨rfl, rfl, rfl⟩ | ⟨id, rows, fps, rfl, q1, q2, rfl, q3⟩⟩
  · exact absurd hi (Nat.not_lt_zero _)
  obtain ⟨r, f, e1, e2, v⟩ := q3.at i hi
  have hn := List.nodup_cons.1 nd
  have hin : ∀ j, j ∈ f → j ∈ fps.flatten := fun j hj => List.mem_flatten.2 ⟨f, List.mem_of_getElem? e2, hj⟩
  refine ⟨r, f, rows, v, fun j hj => List.mem_cons_of_mem _ (hin j hj), flat_at_nodup fps i e2 hn.2, by simp [Cell.sid], fun hc => hn.1 (hin _ hc), q2, q1, e1, by rw [q3.len]; exact hi, fun h' r' t' hn' hg hg' v' => ?_⟩
  refine ⟨by simpa using hl, .inr ⟨id, rows.set i r', fps, by simp, hg', Nat.lt_of_lt_of_le q2 hn', rfl, ?_⟩⟩
  exact q3.turn ok hn' i f e2 hn.2 (fun j hj hf => hg j (List.mem_cons_of_mem _ hj) (fun e => hn.1 (by simp only [Cell.sid] at e; exact e ▸ hj)) hf) v'
theorem loadP_row {h : Heap} {id i : Nat} {rows : List (List Cell)} {r : List Cell} (hg : h.get id = some rows) (hi : rows[i]? = some r) (j n : Nat) : loadP h id i j n = cut? r j n := by simp [loadP, rowOf, hg, hi]
theorem loadP_put {h : Heap} {id i : Nat} {rows : List (List Cell)} (hi : i < rows.length) (r : List Cell) (j n : Nat) : loadP (h.put id (rows.set i r)) id i j n = cut? r j n := loadP_row (rows := rows.set i r) (by simp [Heap.put]) (List.getElem?_set_self hi) j n
theorem put_row {h : Heap} {id i : Nat} {rows : List (List Cell)} {r : List Cell} (hg : h.get id = some rows) (hi : rows[i]? = some r) : h.put id (rows.set i r) = h := by
  have : rows.set i r = rows := by
    apply List.ext_getElem?
    intro j
    by_cases e : i = j
    · subst e
      have hlt : i < rows.length := by
        rcases Nat.lt_or_ge i rows.length with hlt | hge
        · exact hlt
        · rw [List.getElem?_eq_none hge] at hi; cases hi
      rw [List.getElem?_set_self hlt, hi]
    · rw [List.getElem?_set_ne e]
  rw [this]; exact put_same hg
end
end Go.Proofs.Ytcdlbjomdokmiaa.A
/- Loops that look for one, behind which the heap goes on; rows that are shown twice. -/
namespace Go.Proofs.Ytcdlbjomdokmiaa.A
open Go
set_option linter.unusedSimpArgs false
set_option linter.unusedVariables false
section
variable {F : Nat → Option RF} {Z : CallF} {live : List Nat} {b : RC}
theorem loop_findO {α : Type} (xs : List α) (p : α → Bool) (st : Nat → Heap → St) (h : Heap) (Q : Nat → St → Prop)
    (hs : ∀ i (hi : i < xs.length) g, On h g → TurnO (loop F Z live b (st i g)) (fun g' => loop F Z live b (st (i + 1) g')) g (!p xs[i]) (Q i)) :
    (xs.findIdx? p = none ∧ ∃ g, On h g ∧ loop F Z live b (st 0 h) = loop F Z live b (st xs.length g)) ∨ ∃ i, xs.findIdx? p = some i ∧ i < xs.length ∧ ∃ s, loop F Z live b (st 0 h) = some (.ret, s) ∧ On h s.hp ∧ Q i s := by
  have key : ∀ n, n ≤ xs.length → ((∀ i (hi : i < xs.length), i < n → p xs[i] = false) ∧ ∃ g, On h g ∧ loop F Z live b (st 0 h) = loop F Z live b (st n g)) ∨ ∃ i, xs.findIdx? p = some i ∧ i < xs.length ∧ ∃ s, loop F Z live b (st 0 h) = some (.ret, s) ∧ On h s.hp ∧ Q i s := by
    intro n
    induction n with
    | zero => intro _; exact .inl ⟨fun i hi h => absurd h (Nat.not_lt_zero _), h, On.refl h, rfl⟩
    | succ n ih =>
      intro hn
      rcases ih (by omega) with ⟨h1, g, og, h2⟩ | h
      · rcases hs n (by omega) g og with ⟨h3, g', og', h4⟩ | ⟨h3, s, h4, os, h5⟩
        · refine .inl ⟨fun i hi hl => ?_, g', og.trans og', h2.trans h4⟩
          by_cases he : i = n
          · subst he; simpa using h3
          · exact h1 i hi (by omega)
        · refine .inr ⟨n, ?_, by omega, s, h2.trans h4, og.trans os, h5⟩
          rw [List.findIdx?_eq_some_iff_getElem]
          refine ⟨by omega, by simpa using h3, fun j hj => ?_⟩
          simpa using h1 j (by omega) (by omega)
      · exact .inr h
  rcases key xs.length (Nat.le_refl _) with ⟨h1, g, og, h2⟩ | h
  · refine .inl ⟨?_, g, og, h2⟩
    rw [List.findIdx?_eq_none_iff]
    intro a ha
    obtain ⟨i, hi, rfl⟩ := List.mem_iff_getElem.1 ha
    exact h1 i hi hi
  · exact .inr h
end
theorem findI_any {α : Type} (p : α → Bool) (xs : List α) : decide (findI p xs ≥ 0) = xs.any p := by
  unfold findI
  cases hf : xs.findIdx? p with
  | none =>
    rw [List.findIdx?_eq_none_iff] at hf
    have : xs.any p = false := by rw [List.any_eq_false]; intro a ha; simp [hf a ha]
    rw [this]; rfl
  | some i =>
    rw [List.findIdx?_eq_some_iff_getElem] at hf
    obtain ⟨h1, h2, _⟩ := hf
    have : xs.any p = true := List.any_eq_true.2 ⟨_, List.getElem_mem h1, h2⟩
    rw [this]; simp
section
variable {α : Type} {R : Rel α} {tag : Nat} {h0 h g : Heap} {x : Cell} {xs ys : List α} {fp fq : List Nat}
theorem SlR.rowsM (w : SlR tag R h x xs fp) : ∃ rows fps, rowsOf h x = some rows ∧ AllR R h rows xs fps := by
  rcases w with ⟨_, ⟨rfl, rfl, rfl⟩ | ⟨id, rows, fps, rfl, q1, q2, rfl, q3⟩⟩
  · exact ⟨[], [], rfl, trivial⟩
  · refine ⟨rows, fps, ?_, q3⟩
    have := q3.len
    simp only [rowsOf, q1, Option.bind_some, Nat.zero_add]
    rw [if_pos (by omega), List.drop_zero, List.take_of_length_le (by omega)]
theorem AllR.app : ∀ {r1 r2 : List (List Cell)} {xs ys : List α} {f1 f2 : List (List Nat)}, AllR R h r1 xs f1 → AllR R h r2 ys f2 → AllR R h (r1 ++ r2) (xs ++ ys) (f1 ++ f2)
  | [], _, [], _, [], _, _, w => w
  | _ :: _, _, _ :: _, _, _ :: _, _, ⟨w1, w⟩, u => ⟨w1, AllR.app w u⟩
  | [], _, [], _, _ :: _, _, w, _ => w.elim
  | [], _, _ :: _, _, _, _, w, _ => w.elim
  | _ :: _, _, [], _, _, _, w, _ => w.elim
  | _ :: _, _, _ :: _, _, [], _, w, _ => w.elim
/-- Raw rows that were laid together show what they show. -/
theorem Acc.shows (ok : RelOk R) {rows : List (List Cell)} {fps : List (List Nat)} (a : Acc tag h0 h x rows) (w : AllR R h0 rows xs fps) : ∃ fp, SlR tag R h x xs fp := by
  obtain ⟨o, fp, v, f⟩ := a
  have w' : AllR R h rows xs fps := w.mv ok o.ext.1 fun id hid => o.ext.2 id (w.lt ok id hid)
  have hl := w.len
  have hle := v.le
  rcases v.flat with ⟨rfl, h2, rfl⟩ | ⟨hx, hg, hn, rfl⟩
  · have : xs = [] := List.eq_nil_of_length_eq_zero (by rw [← hl, h2]; rfl)
    subst this
    exact ⟨_, SlR.nil _ _ _⟩
  · refine ⟨x.sid :: fps.flatten, by omega, .inr ⟨x.sid, rows, fps, by rw [← hl]; exact hx, by simpa using hg, hn, rfl, w'⟩⟩
end
end Go.Proofs.Ytcdlbjomdokmiaa.A
/- Stores into rows of data with memory. -/
namespace Go.Proofs.Ytcdlbjomdokmiaa.A
open Go
set_option linter.unusedSimpArgs false
set_option linter.unusedVariables false
section
variable {α : Type} {R : Rel α} {tag : Nat} {h0 h g : Heap} {x : Cell} {xs : List α} {fp fq : List Nat}
/-- Rows that were made behind h have turned: h goes on all the same. -/
theorem On.turned (o : On h0 h) (m : Mk h g fp) (f : Fre h0 fp) : On h0 g :=
  ⟨⟨by rw [m.next]; exact o.ext.1, fun id hid => by rw [m.get id (f.gt id hid)]; exact o.ext.2 id hid⟩, m.fl.trans o.fl⟩
theorem Fre.own (f : Fre h0 fp) (o : On h0 h) (hf : h0.floor ≤ h0.next) : ∀ id, id ∈ fp → h.floor ≤ id := fun id hid => by
  rw [o.fl]; exact Nat.le_trans hf (f.lo id hid)
theorem Mk.then {a b c : Heap} (m : Mk a b fp) (n : Mk b c fp) : Mk a c fp := ⟨n.next.trans m.next, n.fl.trans m.fl, fun id hid => (n.get id hid).trans (m.get id hid)⟩
/-- One row, and what stores into it leave. -/
theorem SlR.putRow (ok : RelOk R) (w : SlR tag R h x xs fp) (nd : fp.Nodup) (hfl : ∀ id, id ∈ fp → h.floor ≤ id) {i : Nat} (hi : i < xs.length) :
    ∃ r f, ∃ rows : List (List Cell), R h r xs[i] f ∧ x.sid ∈ fp ∧ (∀ j n, loadP h x.sid i j n = cut? r j n) ∧ h.put x.sid (rows.set i r) = h ∧
      (∀ r1 j new, storeP (h.put x.sid (rows.set i r1)) x.sid i j new = putM h x.sid rows i (splice? r1 j new)) ∧ (∀ r1 j n, loadP (h.put x.sid (rows.set i r1)) x.sid i j n = cut? r1 j n) ∧
      ∀ r' t', R h r' t' f → SlR tag R (h.put x.sid (rows.set i r')) x (xs.set i t') fp ∧ Mk h (h.put x.sid (rows.set i r')) fp := by
  obtain ⟨r, f, rows, hR, hin, nf, hs, hns, hsl, hg, hr, hir, fin⟩ := w.turn ok nd hi
  refine ⟨r, f, rows, hR, hs, loadP_row hg hr, put_row hg hr, fun r1 j new => storeP_put (hfl _ hs) hir r1 new j, fun r1 j n => loadP_put hir r1 j n, fun r' t' v => ⟨?_, rfl, rfl, fun id hid => put_ne _ fun e => hid (e ▸ hs)⟩⟩
  exact fin _ r' t' (Nat.le_refl _) (fun id _ h2 _ => put_ne _ h2) (by simp [Heap.put]) (ok.mv v (Nat.le_refl _) fun id hid => put_ne _ fun e => hns (e ▸ hid))
end
end Go.Proofs.Ytcdlbjomdokmiaa.A
/- Small laws of lists and of slices, used in many texts. -/
namespace Go.Proofs.Ytcdlbjomdokmiaa.A
open Go
set_option linter.unusedSimpArgs false
set_option linter.unusedVariables false
theorem findI_lt {α : Type} {p : α → Bool} {xs : List α} : -1 ≤ findI p xs ∧ findI p xs < xs.length := by
  unfold findI
  split
  · rename_i i hi
    rw [List.findIdx?_eq_some_iff_getElem] at hi
    obtain ⟨h, _⟩ := hi
    omega
  · omega
theorem findI_at {α : Type} {p : α → Bool} {xs : List α} (h : 0 ≤ findI p xs) : ∃ i : Nat, findI p xs = (i : Int) ∧ ∃ hi : i < xs.length, p xs[i] = true := by
  unfold findI at h ⊢
  split at h
  · rename_i i hi
    rw [List.findIdx?_eq_some_iff_getElem] at hi
    obtain ⟨h1, h2, _⟩ := hi
    exact ⟨i, rfl, h1, h2⟩
  · omega
theorem findI_no {α : Type} {p : α → Bool} {xs : List α} (h : findI p xs < 0) : findI p xs = -1 := by
  unfold findI at h ⊢
  split at h
  · omega
  · rfl
theorem mix_set {α : Type} (f : α → α) (xs : List α) {i : Nat} (hi : i < xs.length) : ((xs.take i).map f ++ xs.drop i).set i (f xs[i]) = (xs.take (i + 1)).map f ++ xs.drop (i + 1) := by
  rw [List.set_append_right _ _ (by simp; omega), show i - ((xs.take i).map f).length = 0 from by simp; omega, List.drop_eq_getElem_cons hi, List.set_cons_zero,
    show xs.take (i + 1) = xs.take i ++ [xs[i]] from by rw [List.take_add_one, List.getElem?_eq_getElem hi]; rfl, List.map_append, List.append_assoc]
  rfl
theorem mix_at {α : Type} (f : α → α) (xs : List α) {i : Nat} (hi : i < xs.length) (h : i < ((xs.take i).map f ++ xs.drop i).length) : ((xs.take i).map f ++ xs.drop i)[i] = xs[i] := by
  rw [List.getElem_append_right (by simp; omega)]
  simp
  congr 1
  omega
theorem set_same {α : Type} (xs : List α) {i : Nat} (hi : i < xs.length) : xs.set i xs[i] = xs := by
  apply List.ext_getElem?
  intro j
  by_cases e : i = j
  · subst e; rw [List.getElem?_set_self hi, List.getElem?_eq_getElem hi]
  · rw [List.getElem?_set_ne e]
theorem filter_next {α : Type} (p : α → Bool) {xs : List α} {i : Nat} (hi : i < xs.length) : (xs.take (i + 1)).filter p = (xs.take i).filter p ++ if p xs[i] then [xs[i]] else [] := by
  rw [List.take_add_one, List.getElem?_eq_getElem hi, List.filter_append]
  cases h : p xs[i] <;> simp [h]
theorem filter_len {α : Type} (p : α → Bool) (xs : List α) (i : Nat) : ((xs.take i).filter p).length ≤ xs.length := Nat.le_trans (List.length_filter_le _ _) (by rw [List.length_take]; omega)
section
variable {α : Type} {R : Rel α} {tag : Nat} {h0 h g : Heap} {x y : Cell} {xs ys : List α} {fp fq : List Nat}
/-- A slice of one. -/
theorem SlR.lit1 (ok : RelOk R) {cs : List Cell} {t : α} (v : R h cs t fp) (nd : fp.Nodup) : SlR tag R (h.push [cs]) (.sl tag h.next 0 1) [t] (h.next :: fp) ∧ (h.next :: fp).Nodup :=
  ⟨⟨by simp [maxLen], .inr ⟨h.next, [cs], [fp], rfl, by simp [Heap.push], by simp [Heap.push], by simp, ⟨ok.mv v (by simp [Heap.push]) fun id hid => push_ne _ (by have := ok.lt v id hid; omega), trivial⟩⟩⟩, List.nodup_cons.2 ⟨fun hc => by have := ok.lt v _ hc; omega, nd⟩⟩
end
end Go.Proofs.Ytcdlbjomdokmiaa.A
/- Copies of books. -/
namespace Go.Proofs.Ytcdlbjomdokmiaa.A
open Go
set_option linter.unusedSimpArgs false
set_option linter.unusedVariables false
theorem flatMap_one {α β : Type} (g : α → β) (xs : List α) : xs.flatMap (fun r => [g r]) = xs.map g := by
  induction xs with
  | nil => rfl
  | cons a r ih => rw [List.flatMap_cons, ih]; rfl
section
variable {F : Nat → Option RF} {Z : CallF} {h : Heap} {x : Cell} {xs : List Account} {fp fq : List Nat}
theorem copyBook_c (hI10 : Has F tI10) (hf : h.floor ≤ h.next) (w : SlR 11 (Fl Account.enc) h x xs fp) (sm : xs.length ≤ 1048576) : ∃ y h' fq, call F Z 260 [.agg [x]] h = some (.agg [y], h') ∧ On h h' ∧ SlR 11 (Fl Account.enc) h' y xs fq ∧ Fre h fq := by
  have a0 := Acc.lit0 (tag := 11) (On.refl h)
  have w' := w.on (Fl.ok _) (On.push h [])
  have ce := a0.cat_eq (bytes := 40) (y := x) (new := xs.map Account.enc) hf w'.isTag w'.rows (by simp; omega)
  have ac := a0.cat (new := xs.map Account.enc) hf (by simp; omega)
  simp only [List.nil_append] at ac
  obtain ⟨o, fq, u, f⟩ := ac.flat
  rw [call_run F Z (hI10.lk (g := 260) rfl) _ _ rfl]
  simp only [run0, run1, run2, run3, run4, noSlot, ownS, ownK, memN, RO.dst, lk, drop, forget, number, Nat.reduceBEq, cut?, splice?, builds, List.length_cons, List.length_nil, List.drop_succ_cons, List.drop_zero, List.take_succ_cons, List.take_zero, List.cons_append, List.nil_append, List.append_nil, List.drop_nil, List.take_nil, Nat.reduceAdd, Nat.reduceLeDiff, Nat.zero_add, Nat.add_zero, ↓reduceIte, Bool.not_true, Bool.not_false, decide_true, decide_false, eq_self, bne_self_eq_false, List.getElem?_cons_zero, List.getElem?_cons_succ, decide_eq_true_eq, Bool.false_eq_true, Bool.true_eq_false, reduceCtorEq, Nat.le_refl, List.replicate_zero, fills, ce]
  exact ⟨_, _, _, rfl, o, u, f⟩
theorem l10Copy_c (hS10 : Has F tS10) (hf : h.floor ≤ h.next) (w : SlR 11 (Fl Account.enc) h x xs fp) (sm : xs.length ≤ 1048576) : ∃ y h' fq, call F Z 259 [.agg [x]] h = some (.agg [y], h') ∧ On h h' ∧ SlR 11 (Fl Account.enc) h' y xs fq ∧ Fre h fq := by
  rw [call_run F Z (hS10.lk (g := 259) rfl) _ _ rfl]
  simp only [run0, run1, run2, run3, run4, noSlot, ownS, ownK, memN, RO.dst, lk, drop, forget, number, Nat.reduceBEq, cut?, splice?, builds, List.length_cons, List.length_nil, List.drop_succ_cons, List.drop_zero, List.take_succ_cons, List.take_zero, List.cons_append, List.nil_append, List.append_nil, List.drop_nil, List.take_nil, Nat.reduceAdd, Nat.reduceLeDiff, Nat.zero_add, Nat.add_zero, ↓reduceIte, Bool.not_true, Bool.not_false, decide_true, decide_false, eq_self, bne_self_eq_false, List.getElem?_cons_zero, List.getElem?_cons_succ, decide_eq_true_eq, Bool.false_eq_true, Bool.true_eq_false, reduceCtorEq, Nat.le_refl]
  obtain ⟨y1, h1, a1, l1⟩ := loop_acc (F := F) (Z := Z) (live := [1, 2, 3, 4]) (b := r259L0) xs (fun r => [r.enc]) 11 h (fun i y g => ⟨[(4, .c (.int .i64 (i : Nat)))], [(1, 1, 0), (2, 2, 0), (3, 3, 0)], [(1, [x]), (2, [.nil]), (3, [y])], g⟩) (fun r => by simp) (fun i hi y g rows a hr => by
    have e1 := a.one_eq hf (bytes := 40) (by omega)
    have a1 := a.one hf (by omega)
    have hlt : (i : Int) < xs.length := by omega
    have wg := w.on (Fl.ok _) a.on
    rw [loop_run]
    conv in (codeF _ _ r259L0 _) => unfold r259L0
    simp only [run0, run1, run2, run3, run4, noSlot, ownS, ownK, memN, RO.dst, lk, drop, forget, number, Nat.reduceBEq, cut?, splice?, builds, List.length_cons, List.length_nil, List.drop_succ_cons, List.drop_zero, List.take_succ_cons, List.take_zero, List.cons_append, List.nil_append, List.append_nil, List.drop_nil, List.take_nil, Nat.reduceAdd, Nat.reduceLeDiff, Nat.zero_add, Nat.add_zero, ↓reduceIte, Bool.not_true, Bool.not_false, decide_true, decide_false, eq_self, bne_self_eq_false, List.getElem?_cons_zero, List.getElem?_cons_succ, decide_eq_true_eq, Bool.false_eq_true, Bool.true_eq_false, reduceCtorEq, Nat.le_refl, w.len, hlt, w.idx hi, wg.load hi, Account.len, Account.tak, wrapS i (by omega), List.replicate_succ, List.replicate_zero, fills, and_self, Nat.zero_lt_one, List.set_cons_zero, e1]
    exact ⟨_, _, a1 _, rfl⟩) (Acc.nil 11 h)
  simp only [show ((0 : Nat) : Int) = 0 from rfl] at l1
  have hlt : ¬ (xs.length : Int) < xs.length := by omega
  rw [l1, loop_run]
  conv in (codeF _ _ r259L0 _) => unfold r259L0
  simp only [run0, run1, run2, run3, run4, noSlot, ownS, ownK, memN, RO.dst, lk, drop, forget, number, Nat.reduceBEq, cut?, splice?, builds, List.length_cons, List.length_nil, List.drop_succ_cons, List.drop_zero, List.take_succ_cons, List.take_zero, List.cons_append, List.nil_append, List.append_nil, List.drop_nil, List.take_nil, Nat.reduceAdd, Nat.reduceLeDiff, Nat.zero_add, Nat.add_zero, ↓reduceIte, Bool.not_true, Bool.not_false, decide_true, decide_false, eq_self, bne_self_eq_false, List.getElem?_cons_zero, List.getElem?_cons_succ, decide_eq_true_eq, Bool.false_eq_true, Bool.true_eq_false, reduceCtorEq, Nat.le_refl, w.len, hlt]
  rw [flatMap_one] at a1
  obtain ⟨o, fq, u, f⟩ := a1.flat
  exact ⟨_, _, _, rfl, o, u, f⟩
end
end Go.Proofs.Ytcdlbjomdokmiaa.A
/- Where an account lies in a book. -/
namespace Go.Proofs.Ytcdlbjomdokmiaa.A
open Go
set_option linter.unusedSimpArgs false
set_option linter.unusedVariables false
def Account.less (id : Int) (b : Account) : Bool := decide (b.id < id)
def accAt (xs : List Account) (id : Int) : Int := findI (fun b => b.id == id) xs
def accGo (xs : List Account) (id : Int) : Nat := (xs.takeWhile (Account.less id)).length
def accIs (xs : List Account) (id : Int) : Bool := decide (accGo xs id < xs.length) && ((Account.at_ xs (accGo xs id)).id == id)
theorem Account.at_get {xs : List Account} {i : Nat} (hi : i < xs.length) : Account.at_ xs i = xs[i] := by simp [Account.at_, List.getElem?_eq_getElem hi]
theorem accGo_le (xs : List Account) (id : Int) : accGo xs id ≤ xs.length := (List.takeWhile_sublist _).length_le
theorem accGo_lt (id : Int) : ∀ (xs : List Account) (i : Nat) (hi : i < accGo xs id) (h : i < xs.length), xs[i].id < id
  | [], i, hi, h => by simp at h
  | a :: r, i, hi, h => by
    simp only [accGo, List.takeWhile_cons] at hi
    cases ha : Account.less id a with
    | false => rw [ha] at hi; simp at hi
    | true =>
      rw [ha] at hi
      simp only [↓reduceIte, List.length_cons] at hi
      cases i with
      | zero => simpa [Account.less] using ha
      | succ i => exact accGo_lt id r i (by simp only [accGo]; omega) (by simpa using h)
theorem accGo_end (id : Int) : ∀ (xs : List Account) (h : accGo xs id < xs.length), ¬ (xs[accGo xs id]).id < id
  | [], h => by simp at h
  | a :: r, h => by
    cases ha : Account.less id a with
    | false =>
      have e : accGo (a :: r) id = 0 := by simp [accGo, List.takeWhile_cons, ha]
      simp only [e, List.getElem_cons_zero]
      simpa [Account.less] using ha
    | true =>
      have e : accGo (a :: r) id = accGo r id + 1 := by simp [accGo, List.takeWhile_cons, ha]
      simp only [e, List.getElem_cons_succ]
      exact accGo_end id r (by rw [e] at h; simpa using h)
/-! ### books that are right -/
theorem book_fit {xs : List Account} (g : bookOk xs = true) {j : Nat} (hj : j < xs.length) : Account.fits xs j = true := by
  simp only [bookOk, Bool.and_eq_true, List.all_eq_true, List.mem_range] at g
  exact g.1 j hj
theorem book_len {xs : List Account} (g : bookOk xs = true) : xs.length ≤ 40 := by
  simp only [bookOk, Bool.and_eq_true, decide_eq_true_eq] at g
  omega
theorem book_fine {xs : List Account} (g : bookOk xs = true) {j : Nat} (hj : j < xs.length) : (Account.at_ xs j).fine = true := by
  have := book_fit g hj
  simp only [Account.fits, Bool.and_eq_true] at this
  exact this.1
theorem book_gap {xs : List Account} (g : bookOk xs = true) {j : Nat} (hj : j + 1 < xs.length) : xs[j].id < xs[j + 1].id := by
  have := book_fit g hj
  simp only [Account.fits, Bool.and_eq_true, Bool.or_eq_true, decide_eq_true_eq, beq_iff_eq] at this
  rcases this.2 with h | h
  · omega
  · simp only [Nat.add_sub_cancel] at h
    rw [Account.at_get hj, Account.at_get (by omega)] at h
    exact h
theorem book_sorted {xs : List Account} (g : bookOk xs = true) (i : Nat) : ∀ (d : Nat) (hj : i + d + 1 < xs.length), xs[i].id < xs[i + d + 1].id
  | 0, hj => book_gap g hj
  | d + 1, hj => by
    have h1 := book_sorted g i d (by omega)
    have h2 := book_gap g (j := i + d + 1) hj
    have e : i + (d + 1) + 1 = i + d + 1 + 1 := by omega
    simp only [e]
    omega
theorem book_lt {xs : List Account} (g : bookOk xs = true) {i j : Nat} (hj : j < xs.length) (hij : i < j) : xs[i].id < xs[j].id := by
  obtain ⟨d, rfl⟩ : ∃ d, j = i + d + 1 := ⟨j - i - 1, by omega⟩
  exact book_sorted g i d hj
theorem book_inj {xs : List Account} (g : bookOk xs = true) {i j : Nat} (hi : i < xs.length) (hj : j < xs.length) (e : xs[i].id = xs[j].id) : i = j := by
  rcases Nat.lt_trichotomy i j with h | h | h
  · have := book_lt g hj h; omega
  · exact h
  · have := book_lt g hi h; omega
/-- Ids that grow. -/
def Srt (xs : List Account) : Prop := xs.Pairwise (fun a b => a.id < b.id)
theorem srt_lt {xs : List Account} (g : Srt xs) {i j : Nat} (hj : j < xs.length) (hij : i < j) : xs[i].id < xs[j].id := List.pairwise_iff_getElem.1 g i j (by omega) hj hij
theorem srt_inj {xs : List Account} (g : Srt xs) {i j : Nat} (hi : i < xs.length) (hj : j < xs.length) (e : xs[i].id = xs[j].id) : i = j := by
  rcases Nat.lt_trichotomy i j with h | h | h
  · have := srt_lt g hj h; omega
  · exact h
  · have := srt_lt g hi h; omega
theorem book_srt {xs : List Account} (g : bookOk xs = true) : Srt xs := List.pairwise_iff_getElem.2 fun i j _ hj hij => book_lt g hj hij
/-- The two ways to look for an account agree. -/
theorem acc_foundS {xs : List Account} (g : Srt xs) (id : Int) : (accAt xs id = -1 ∧ accIs xs id = false) ∨ ∃ i : Nat, accAt xs id = (i : Int) ∧ accIs xs id = true ∧ accGo xs id = i ∧ i < xs.length ∧ (Account.at_ xs i).id = id := by
  cases hi : accIs xs id with
  | true =>
    right
    simp only [accIs, Bool.and_eq_true, decide_eq_true_eq, beq_iff_eq] at hi
    refine ⟨accGo xs id, ?_, rfl, rfl, hi.1, hi.2⟩
    rw [Account.at_get hi.1] at hi
    have hn : accAt xs id ≠ -1 := fun hc => by
      simp only [accAt, findI] at hc
      split at hc
      · omega
      · rename_i hf
        rw [List.findIdx?_eq_none_iff] at hf
        have := hf _ (List.getElem_mem hi.1)
        simp [hi.2] at this
    have h0 : 0 ≤ accAt xs id := by
      have := (findI_lt (p := fun b : Account => b.id == id) (xs := xs)).1
      unfold accAt at hn ⊢
      omega
    obtain ⟨i, e, hil, hp⟩ := findI_at (p := fun b : Account => b.id == id) (xs := xs) h0
    have hp' : xs[i].id = id := by simpa using hp
    rw [show accAt xs id = (i : Int) from e, srt_inj g hil hi.1 (hp'.trans hi.2.symm)]
  | false =>
    left
    refine ⟨?_, rfl⟩
    apply findI_no
    by_cases h0 : 0 ≤ findI (fun b : Account => b.id == id) xs
    · obtain ⟨i, e, hil, hp⟩ := findI_at h0
      have hp' : xs[i].id = id := by simpa using hp
      exfalso
      have hle := accGo_le xs id
      have h1 : ¬ i < accGo xs id := fun hc => by have := accGo_lt id xs i hc hil; omega
      have h2 : accGo xs id < xs.length := by omega
      have h3 := accGo_end id xs h2
      simp only [accIs, h2, decide_true, Bool.true_and, Account.at_get h2, beq_eq_false_iff_ne, ne_eq] at hi
      rcases Nat.lt_or_ge (accGo xs id) i with h4 | h4
      · have := srt_lt g hil h4; omega
      · have : i = accGo xs id := by omega
        subst this
        exact hi hp'
    · omega
theorem acc_found {xs : List Account} (g : bookOk xs = true) (id : Int) : (accAt xs id = -1 ∧ accIs xs id = false) ∨ ∃ i : Nat, accAt xs id = (i : Int) ∧ accIs xs id = true ∧ accGo xs id = i ∧ i < xs.length ∧ (Account.at_ xs i).id = id := acc_foundS (book_srt g) id
section
variable {F : Nat → Option RF} {Z : CallF} {h : Heap} {x : Cell} {xs : List Account} {fp : List Nat}
set_option maxHeartbeats 1000000 in
theorem accountOf_run (hI10 : Has F tI10) (w : SlR 11 (Fl Account.enc) h x xs fp) (id : Int) : call F Z 342 [.agg [x], .c (.int .u64 id)] h = some (.tup [.c (.int .i64 (accGo xs id : Nat)), .c (.bool (accIs xs id))], h) := by
  have hle := w.le2
  have hwl := w.len
  have hgl := accGo_le xs id
  rw [call_run F Z (hI10.lk (g := 342) rfl) _ _ rfl]
  simp only [run0, run1, run2, run3, run4, noSlot, ownS, ownK, memN, RO.dst, lk, drop, forget, number, Nat.reduceBEq, cut?, splice?, builds, List.length_cons, List.length_nil, List.drop_succ_cons, List.drop_zero, List.take_succ_cons, List.take_zero, List.cons_append, List.nil_append, List.append_nil, List.drop_nil, List.take_nil, Nat.reduceAdd, Nat.reduceLeDiff, Nat.zero_add, Nat.add_zero, ↓reduceIte, Bool.not_true, Bool.not_false, decide_true, decide_false, eq_self, bne_self_eq_false, List.getElem?_cons_zero, List.getElem?_cons_succ, decide_eq_true_eq, Bool.false_eq_true, Bool.true_eq_false, reduceCtorEq, Nat.le_refl]
  obtain ⟨s', hs, lp⟩ := loop_goes (F := F) (Z := Z) (live := [1, 2, 6]) (b := r342L0) (accGo xs id) (fun i st => st = ⟨[(1, .c (.int .u64 id)), (6, .c (.int .i64 (i : Nat)))], [(2, 2, 0)], [(2, [x])], h⟩) (fun i st hi hs => by
    subst hs
    have hi' : i < xs.length := by omega
    have hlt : (i : Int) < xs.length := by omega
    have hws := wrapS i (by omega)
    have hxi := w.idx hi'
    have hld := w.load hi'
    have hid := accGo_lt id xs i hi hi'
    refine ⟨_, rfl, ?_⟩
    rw [loop_run]
    conv in (codeF _ _ r342L0 _) => unfold r342L0
    simp only [Account.enc] at hld
    simp only [run0, run1, run2, run3, run4, noSlot, ownS, ownK, memN, RO.dst, lk, drop, forget, number, Nat.reduceBEq, cut?, splice?, builds, List.length_cons, List.length_nil, List.drop_succ_cons, List.drop_zero, List.take_succ_cons, List.take_zero, List.cons_append, List.nil_append, List.append_nil, List.drop_nil, List.take_nil, Nat.reduceAdd, Nat.reduceLeDiff, Nat.zero_add, Nat.add_zero, ↓reduceIte, Bool.not_true, Bool.not_false, decide_true, decide_false, eq_self, bne_self_eq_false, List.getElem?_cons_zero, List.getElem?_cons_succ, decide_eq_true_eq, Bool.false_eq_true, Bool.true_eq_false, reduceCtorEq, Nat.le_refl, hwl, hlt, hxi, hld, hid, hws]) (s := ⟨[(1, .c (.int .u64 id)), (6, .c (.int .i64 (0 : Nat)))], [(2, 2, 0)], [(2, [x])], h⟩) rfl
  subst hs
  simp only [show ((0 : Nat) : Int) = 0 from rfl] at lp
  rw [lp, loop_run]
  conv in (codeF _ _ r342L0 _) => unfold r342L0
  by_cases hl : accGo xs id < xs.length
  · have hlt : ((accGo xs id : Nat) : Int) < xs.length := by omega
    have hxi := w.idx hl
    have hld := w.load hl
    have hid := accGo_end id xs hl
    have hd : accIs xs id = (xs[accGo xs id].id == id) := by simp only [accIs, hl, decide_true, Bool.true_and, Account.at_get hl]
    rw [hd]
    simp only [Account.enc] at hld
    simp only [run0, run1, run2, run3, run4, noSlot, ownS, ownK, memN, RO.dst, lk, drop, forget, number, Nat.reduceBEq, cut?, splice?, builds, List.length_cons, List.length_nil, List.drop_succ_cons, List.drop_zero, List.take_succ_cons, List.take_zero, List.cons_append, List.nil_append, List.append_nil, List.drop_nil, List.take_nil, Nat.reduceAdd, Nat.reduceLeDiff, Nat.zero_add, Nat.add_zero, ↓reduceIte, Bool.not_true, Bool.not_false, decide_true, decide_false, eq_self, bne_self_eq_false, List.getElem?_cons_zero, List.getElem?_cons_succ, decide_eq_true_eq, Bool.false_eq_true, Bool.true_eq_false, reduceCtorEq, Nat.le_refl, hwl, hlt, hxi, hld, hid]
  · have hlt : ¬ ((accGo xs id : Nat) : Int) < xs.length := by omega
    have hd : accIs xs id = false := by simp only [accIs, hl, decide_false, Bool.false_and]
    rw [hd]
    simp only [run0, run1, run2, run3, run4, noSlot, ownS, ownK, memN, RO.dst, lk, drop, forget, number, Nat.reduceBEq, cut?, splice?, builds, List.length_cons, List.length_nil, List.drop_succ_cons, List.drop_zero, List.take_succ_cons, List.take_zero, List.cons_append, List.nil_append, List.append_nil, List.drop_nil, List.take_nil, Nat.reduceAdd, Nat.reduceLeDiff, Nat.zero_add, Nat.add_zero, ↓reduceIte, Bool.not_true, Bool.not_false, decide_true, decide_false, eq_self, bne_self_eq_false, List.getElem?_cons_zero, List.getElem?_cons_succ, decide_eq_true_eq, Bool.false_eq_true, Bool.true_eq_false, reduceCtorEq, Nat.le_refl, hwl, hlt]
theorem l10Find_run (hS10 : Has F tS10) (w : SlR 11 (Fl Account.enc) h x xs fp) (id : Int) : call F Z 328 [.agg [x], .c (.int .u64 id)] h = some (.c (.int .i64 (accAt xs id)), h) := by
  have hle := w.le2
  have hwl := w.len
  rw [call_run F Z (hS10.lk (g := 328) rfl) _ _ rfl]
  simp only [run0, run1, run2, run3, run4, noSlot, ownS, ownK, memN, RO.dst, lk, drop, forget, number, Nat.reduceBEq, cut?, splice?, builds, List.length_cons, List.length_nil, List.drop_succ_cons, List.drop_zero, List.take_succ_cons, List.take_zero, List.cons_append, List.nil_append, List.append_nil, List.drop_nil, List.take_nil, Nat.reduceAdd, Nat.reduceLeDiff, Nat.zero_add, Nat.add_zero, ↓reduceIte, Bool.not_true, Bool.not_false, decide_true, decide_false, eq_self, bne_self_eq_false, List.getElem?_cons_zero, List.getElem?_cons_succ, decide_eq_true_eq, Bool.false_eq_true, Bool.true_eq_false, reduceCtorEq, Nat.le_refl]
  have key := loop_find (F := F) (Z := Z) (live := [1, 2, 5]) (b := r328L0) xs (fun b => b.id == id) (fun i => ⟨[(1, .c (.int .u64 id)), (5, .c (.int .i64 (i : Nat)))], [(2, 2, 0)], [(2, [x])], h⟩) (fun i s => lk s.env 4 = some (.c (.int .i64 (i : Nat))) ∧ s.hp = h) fun i hi => by
    have hlt : (i : Int) < xs.length := by omega
    have hws := wrapS i (by omega)
    have hld := w.load hi
    have hxi := w.idx hi
    clear w
    rw [loop_run]
    conv in (codeF _ _ r328L0 _) => unfold r328L0
    simp only [Account.enc] at hld
    simp only [run0, run1, run2, run3, run4, noSlot, ownS, ownK, memN, RO.dst, lk, drop, forget, number, Nat.reduceBEq, cut?, splice?, builds, List.length_cons, List.length_nil, List.drop_succ_cons, List.drop_zero, List.take_succ_cons, List.take_zero, List.cons_append, List.nil_append, List.append_nil, List.drop_nil, List.take_nil, Nat.reduceAdd, Nat.reduceLeDiff, Nat.zero_add, Nat.add_zero, ↓reduceIte, Bool.not_true, Bool.not_false, decide_true, decide_false, eq_self, bne_self_eq_false, List.getElem?_cons_zero, List.getElem?_cons_succ, decide_eq_true_eq, Bool.false_eq_true, Bool.true_eq_false, reduceCtorEq, Nat.le_refl, hwl, hlt, hxi, hld]
    (repeat' ((first | (rw [gF_if]; split) | (rw [condC_if]; split) | (rw [pickR_if]; split)) <;> (rename_i hh; (try simp only [Bool.not_eq_true, decide_eq_true_eq] at hh); simp only [hh, run0, run1, run2, run3, run4, noSlot, ownS, ownK, memN, RO.dst, lk, drop, forget, number, Nat.reduceBEq, cut?, splice?, builds, List.length_cons, List.length_nil, List.drop_succ_cons, List.drop_zero, List.take_succ_cons, List.take_zero, List.cons_append, List.nil_append, List.append_nil, List.drop_nil, List.take_nil, Nat.reduceAdd, Nat.reduceLeDiff, Nat.zero_add, Nat.add_zero, ↓reduceIte, Bool.not_true, Bool.not_false, decide_true, decide_false, eq_self, bne_self_eq_false, List.getElem?_cons_zero, List.getElem?_cons_succ, decide_eq_true_eq, Bool.false_eq_true, Bool.true_eq_false, reduceCtorEq, Nat.le_refl, hws, hxi, hld]))) <;> first
      | exact .inl ⟨by simp_all, rfl⟩
      | exact .inr ⟨by simp_all, _, rfl, rfl, rfl⟩
  have hlt : ¬ (xs.length : Int) < xs.length := by omega
  simp only [show ((0 : Nat) : Int) = 0 from rfl] at key
  rcases key with ⟨k1, k2⟩ | ⟨i, k1, hi, s, k2, k3, k4⟩
  · rw [k2, loop_run]
    conv in (codeF _ _ r328L0 _) => unfold r328L0
    simp only [run0, run1, run2, run3, run4, noSlot, ownS, ownK, memN, RO.dst, lk, drop, forget, number, Nat.reduceBEq, cut?, splice?, builds, List.length_cons, List.length_nil, List.drop_succ_cons, List.drop_zero, List.take_succ_cons, List.take_zero, List.cons_append, List.nil_append, List.append_nil, List.drop_nil, List.take_nil, Nat.reduceAdd, Nat.reduceLeDiff, Nat.zero_add, Nat.add_zero, ↓reduceIte, Bool.not_true, Bool.not_false, decide_true, decide_false, eq_self, bne_self_eq_false, List.getElem?_cons_zero, List.getElem?_cons_succ, decide_eq_true_eq, Bool.false_eq_true, Bool.true_eq_false, reduceCtorEq, Nat.le_refl, hwl, hlt, accAt, findI, k1]
  · rw [k2]
    simp only [run0, run1, run2, run3, run4, noSlot, ownS, ownK, memN, RO.dst, lk, drop, forget, number, Nat.reduceBEq, cut?, splice?, builds, List.length_cons, List.length_nil, List.drop_succ_cons, List.drop_zero, List.take_succ_cons, List.take_zero, List.cons_append, List.nil_append, List.append_nil, List.drop_nil, List.take_nil, Nat.reduceAdd, Nat.reduceLeDiff, Nat.zero_add, Nat.add_zero, ↓reduceIte, Bool.not_true, Bool.not_false, decide_true, decide_false, eq_self, bne_self_eq_false, List.getElem?_cons_zero, List.getElem?_cons_succ, decide_eq_true_eq, Bool.false_eq_true, Bool.true_eq_false, reduceCtorEq, Nat.le_refl, k3, k4, accAt, findI, k1]
end
end Go.Proofs.Ytcdlbjomdokmiaa.A
/- slices.Delete and slices.Insert on slices of data with memory. -/
namespace Go.Proofs.Ytcdlbjomdokmiaa.A
open Go
set_option linter.unusedSimpArgs false
set_option linter.unusedVariables false
section
variable {α : Type} {R : Rel α} {tag : Nat} {h0 h g : Heap} {x y : Cell} {xs ys : List α} {fp fq : List Nat}
theorem AllR.take : ∀ {rows : List (List Cell)} {xs : List α} {fps : List (List Nat)}, AllR R h rows xs fps → ∀ (i : Nat), AllR R h (rows.take i) (xs.take i) (fps.take i)
  | [], [], [], _, i => by simp only [List.take_nil]; trivial
  | _ :: _, _ :: _, _ :: _, _, 0 => trivial
  | _ :: _, _ :: _, _ :: _, ⟨w0, w⟩, i + 1 => ⟨w0, AllR.take w i⟩
  | [], [], _ :: _, w, _ => w.elim
  | [], _ :: _, _, w, _ => w.elim
  | _ :: _, [], _, w, _ => w.elim
  | _ :: _, _ :: _, [], w, _ => w.elim
theorem AllR.drop : ∀ {rows : List (List Cell)} {xs : List α} {fps : List (List Nat)}, AllR R h rows xs fps → ∀ (i : Nat), AllR R h (rows.drop i) (xs.drop i) (fps.drop i)
  | [], [], [], _, i => by simp only [List.drop_nil]; trivial
  | _ :: _, _ :: _, _ :: _, w, 0 => w
  | _ :: _, _ :: _, _ :: _, ⟨w0, w⟩, i + 1 => AllR.drop w i
  | [], [], _ :: _, w, _ => w.elim
  | [], _ :: _, _, w, _ => w.elim
  | _ :: _, [], _, w, _ => w.elim
  | _ :: _, _ :: _, [], w, _ => w.elim
theorem flat_parts {fps : List (List Nat)} (i : Nat) : (fps.take i).flatten ++ (fps.drop i).flatten = fps.flatten := by rw [← List.flatten_append, List.take_append_drop]
/-- A heap where rows of one's own have gone, and others come. -/
structure Re (h g : Heap) (fp fq : List Nat) : Prop where
  le : h.next ≤ g.next
  fl : g.floor = h.floor
  get : ∀ id, id < h.next → id ∉ fp → g.get id = h.get id
  nd : fq.Nodup
  of : ∀ id, id ∈ fq → id ∈ fp ∨ h.next ≤ id
theorem Re.on (r : Re h g fp fq) (o : On h0 h) (f : Fre h0 fp) : On h0 g :=
  ⟨⟨Nat.le_trans o.ext.1 r.le, fun id hid => by rw [r.get id (Nat.lt_of_lt_of_le hid o.ext.1) (f.gt id hid)]; exact o.ext.2 id hid⟩, r.fl.trans o.fl⟩
theorem Re.fre (r : Re h g fp fq) (o : On h0 h) (f : Fre h0 fp) : Fre h0 fq :=
  ⟨fun id hid => by rcases r.of id hid with h1 | h1; exact f.lo id h1; exact Nat.le_trans o.ext.1 h1, r.nd⟩
/-- One element is deleted. -/
theorem SlR.del (ok : RelOk R) (w : SlR tag R h x xs fp) (nd : fp.Nodup) (hfl : ∀ id, id ∈ fp → h.floor ≤ id) {i : Nat} (hi : i < xs.length) :
    ∃ y g fq, delF tag [.c x, .c (.int .i64 (i : Nat)), .c (.int .i64 ((i + 1 : Nat) : Int))] h = some (.c y, g) ∧ SlR tag R g y (xs.eraseIdx i) fq ∧ Re h g fp fq := by
  rcases w with ⟨hl, ⟨rfl, rfl, rfl⟩ | ⟨id, rows, fps, rfl, q1, q2, rfl, q3⟩⟩
  · exact absurd hi (Nat.not_lt_zero _)
  have hn := List.nodup_cons.1 nd
  have hrl := q3.len
  have hfid := hfl id (by simp)
  have hlen : (rows.take i ++ rows.drop (i + 1)).length = i + (xs.length - (i + 1)) := by simp only [List.length_append, List.length_take, List.length_drop, hrl]; omega
  have he : xs.eraseIdx i = xs.take i ++ xs.drop (i + 1) := List.eraseIdx_eq_take_drop_succ ..
  have hel : (xs.eraseIdx i).length = i + (xs.length - (i + 1)) := by rw [List.length_eraseIdx_of_lt hi]; omega
  have hflt := q3.lt ok
  have hsub : ∀ j, j ∈ (fps.take i ++ fps.drop (i + 1)).flatten → j ∈ fps.flatten := fun j hj => by
    rw [List.flatten_append, List.mem_append] at hj
    rw [← flat_parts (fps := fps) i, List.mem_append]
    rcases hj with hj | hj
    · exact .inl hj
    · right
      rw [List.mem_flatten] at hj ⊢
      obtain ⟨l, hl1, hl2⟩ := hj
      exact ⟨l, List.mem_of_mem_drop (i := 1) (by rw [List.drop_drop]; exact hl1), hl2⟩
  refine ⟨.sl tag h.next 0 (i + (xs.length - (i + 1))), (h.kill id).push (rows.take i ++ rows.drop (i + 1)), h.next :: (fps.take i ++ fps.drop (i + 1)).flatten, ?_, ?_, ?_⟩
  · simp only [delF, q1, Option.bind_some, Int.toNat_natCast]
    rw [if_pos ⟨trivial, trivial, hfid, by omega, by omega, by omega, hrl⟩]
  · refine ⟨by rw [hel]; omega, .inr ⟨h.next, rows.take i ++ rows.drop (i + 1), fps.take i ++ fps.drop (i + 1), by rw [hel], by simp [Heap.push, Heap.kill], by simp [Heap.push, Heap.kill], rfl, ?_⟩⟩
    rw [he]
    refine ((q3.take i).app (q3.drop (i + 1))).mv ok (by simp [Heap.push, Heap.kill]) fun j hj => ?_
    have hj' := hsub j hj
    have h1 := hflt j hj'
    rw [push_ne _ (by rw [kill_next]; omega), kill_ne (h := h) (k := id) (id := j) fun e => hn.1 (e ▸ hj')]
  · refine ⟨by simp [Heap.push, Heap.kill], rfl, fun j hj hjn => ?_, ?_, ?_⟩
    · rw [push_ne _ (by rw [kill_next]; omega), kill_ne (h := h) (k := id) (id := j) fun e => hjn (by rw [e]; exact List.mem_cons_self)]
    · rw [List.nodup_cons]
      refine ⟨fun hc => ?_, ?_⟩
      · have := hflt _ (hsub _ hc); omega
      · rw [List.flatten_append]
        have := hn.2
        rw [← flat_parts (fps := fps) i] at this
        obtain ⟨n1, n2, n3⟩ := List.nodup_append.1 this
        have hs2 : (fps.drop (i + 1)).flatten.Sublist (fps.drop i).flatten := by
          obtain ⟨_, f, _, e2, _⟩ := q3.at i hi
          rw [List.drop_eq_getElem_cons (List.getElem?_eq_some_iff.1 e2).1, List.flatten_cons]
          exact List.sublist_append_right _ _
        exact List.nodup_append.2 ⟨n1, n2.sublist hs2, fun a ha b hb => n3 a ha b (hs2.subset hb)⟩
    · intro j hj
      rcases List.mem_cons.1 hj with rfl | hj
      · exact .inr (Nat.le_refl _)
      · exact .inl (List.mem_cons_of_mem _ (hsub j hj))
/-- Some elements are put in. -/
theorem SlR.ins (ok : RelOk R) (w : SlR tag R h x xs fp) (nd : fp.Nodup) (hfl : ∀ id, id ∈ fp → h.floor ≤ id) (v : SlR tag R h y ys fq) (nq : fq.Nodup) (hfq : ∀ id, id ∈ fq → h.floor ≤ id) (hd : ∀ id, id ∈ fq → id ∉ fp) (hy : 0 < ys.length)
    {bytes : Nat} (hb : (xs.length + ys.length) * bytes ≤ 140737488355328) (hm : xs.length + ys.length ≤ maxLen) {i : Nat} (hi : i ≤ xs.length) :
    ∃ z g fr, insF tag bytes [.c x, .c (.int .i64 (i : Nat)), .c y] h = some (.c z, g) ∧ SlR tag R g z (xs.take i ++ ys ++ xs.drop i) fr ∧ Re h g (fp ++ fq) fr := by
  rcases v with ⟨hvl, ⟨rfl, rfl, rfl⟩ | ⟨idv, new, fps2, rfl, v1, v2, rfl, v3⟩⟩
  · exact absurd hy (Nat.not_lt_zero _)
  have hnv := List.nodup_cons.1 nq
  have hvrl := v3.len
  have hvlt := v3.lt ok
  have hfv := hfq idv (by simp)
  rcases w with ⟨hl, ⟨rfl, rfl, rfl⟩ | ⟨id, rows, fps, rfl, q1, q2, rfl, q3⟩⟩
  · have hi0 : i = 0 := by simpa using hi
    subst hi0
    simp only [List.length_nil, Nat.zero_add] at hb hm
    refine ⟨.sl tag h.next 0 ys.length, h.push new, h.next :: fps2.flatten, ?_, ?_, ?_⟩
    · simp only [insF]
      rw [if_pos ⟨trivial, trivial, hfv, hy⟩]
      simp only [v1, Option.bind_some]
      rw [if_pos hvrl, if_pos ⟨rfl, hb, hm⟩]
    · refine ⟨by simpa using hm, .inr ⟨h.next, new, fps2, by simp, by simp [Heap.push], by simp [Heap.push], rfl, ?_⟩⟩
      simp only [List.take_nil, List.drop_nil, List.nil_append, List.append_nil]
      exact v3.mv ok (by simp [Heap.push]) fun j hj => push_ne _ (by have := hvlt j hj; omega)
    · refine ⟨by simp [Heap.push], rfl, fun j hj _ => push_ne _ (by omega), List.nodup_cons.2 ⟨fun hc => by have := hvlt _ hc; omega, hnv.2⟩, fun j hj => ?_⟩
      rcases List.mem_cons.1 hj with rfl | hj
      · exact .inr (Nat.le_refl _)
      · exact .inl (by simp [hj])
  · have hn := List.nodup_cons.1 nd
    have hrl := q3.len
    have hflt := q3.lt ok
    have hfid := hfl id (by simp)
    have hne : id ≠ idv := fun e => hd idv (by simp) (by simp [e])
    refine ⟨.sl tag h.next 0 (xs.length + ys.length), (h.kill id).push (rows.take i ++ new ++ rows.drop i), h.next :: (fps.take i ++ fps2 ++ fps.drop i).flatten, ?_, ?_, ?_⟩
    · simp only [insF]
      rw [if_pos ⟨trivial, trivial, hfv, hy⟩]
      simp only [v1, Option.bind_some]
      rw [if_pos hvrl]
      simp only [q1, Option.bind_some, Int.toNat_natCast]
      rw [if_pos ⟨trivial, trivial, hfid, hne, by omega, by omega, hb, hm, hrl⟩]
    · have hlen : (xs.take i ++ ys ++ xs.drop i).length = xs.length + ys.length := by simp only [List.length_append, List.length_take, List.length_drop]; omega
      refine ⟨by rw [hlen]; exact hm, .inr ⟨h.next, rows.take i ++ new ++ rows.drop i, fps.take i ++ fps2 ++ fps.drop i, by rw [hlen], by simp [Heap.push, Heap.kill], by simp [Heap.push, Heap.kill], rfl, ?_⟩⟩
      refine (((q3.take i).app v3).app (q3.drop i)).mv ok (by simp [Heap.push, Heap.kill]) fun j hj => ?_
      have : j ∈ fps.flatten ∨ j ∈ fps2.flatten := by
        rw [List.flatten_append, List.flatten_append, List.mem_append, List.mem_append] at hj
        rw [← flat_parts (fps := fps) i, List.mem_append]
        rcases hj with (hj | hj) | hj
        · exact .inl (.inl hj)
        · exact .inr hj
        · exact .inl (.inr hj)
      rcases this with hj' | hj'
      · have h1 := hflt j hj'
        rw [push_ne _ (by rw [kill_next]; omega), kill_ne (h := h) (k := id) (id := j) fun e => hn.1 (e ▸ hj')]
      · have h1 := hvlt j hj'
        rw [push_ne _ (by rw [kill_next]; omega), kill_ne (h := h) (k := id) (id := j) fun e => hd j (by simp [hj']) (by rw [e]; simp)]
    · refine ⟨by simp [Heap.push, Heap.kill], rfl, fun j hj hjn => ?_, ?_, ?_⟩
      · rw [push_ne _ (by rw [kill_next]; omega), kill_ne (h := h) (k := id) (id := j) fun e => hjn (by rw [e]; simp)]
      · rw [List.nodup_cons]
        have hn2 := hn.2
        rw [← flat_parts (fps := fps) i] at hn2
        obtain ⟨n1, n2, n3⟩ := List.nodup_append.1 hn2
        have hd1 : ∀ a, a ∈ fps2.flatten → a ∉ fps.flatten := fun a ha hb => hd a (by simp [ha]) (by simp [hb])
        have hin1 : ∀ a, a ∈ (fps.take i).flatten → a ∈ fps.flatten := fun a ha => by rw [← flat_parts (fps := fps) i, List.mem_append]; exact .inl ha
        have hin2 : ∀ a, a ∈ (fps.drop i).flatten → a ∈ fps.flatten := fun a ha => by rw [← flat_parts (fps := fps) i, List.mem_append]; exact .inr ha
        rw [List.flatten_append, List.flatten_append]
        refine ⟨fun hc => ?_, ?_⟩
        · rw [List.mem_append, List.mem_append] at hc
          rcases hc with (hc | hc) | hc
          · have := hflt _ (hin1 _ hc); omega
          · have := hvlt _ hc; omega
          · have := hflt _ (hin2 _ hc); omega
        · refine List.nodup_append.2 ⟨List.nodup_append.2 ⟨n1, hnv.2, fun a ha b hb e => hd1 b hb (e ▸ hin1 a ha)⟩, n2, fun a ha b hb e => ?_⟩
          rcases List.mem_append.1 ha with ha | ha
          · exact n3 a ha b hb e
          · exact hd1 a ha (e ▸ hin2 b hb)
      · intro j hj
        rcases List.mem_cons.1 hj with rfl | hj
        · exact .inr (Nat.le_refl _)
        · left
          rw [List.flatten_append, List.flatten_append, List.mem_append, List.mem_append] at hj
          rw [List.mem_append]
          rcases hj with (hj | hj) | hj
          · exact .inl (List.mem_cons_of_mem _ (by rw [← flat_parts (fps := fps) i, List.mem_append]; exact .inl hj))
          · exact .inr (by simp [hj])
          · exact .inl (List.mem_cons_of_mem _ (by rw [← flat_parts (fps := fps) i, List.mem_append]; exact .inr hj))
end
end Go.Proofs.Ytcdlbjomdokmiaa.A
/- An account of a book is changed: the program's frame, and the reference's parts. -/
namespace Go.Proofs.Ytcdlbjomdokmiaa.A
open Go
set_option linter.unusedSimpArgs false
set_option linter.unusedVariables false
abbrev Act := Account → Int × Account
/-- A book behind a deed with one account. -/
def bookDo (xs : List Account) (id : Int) (f : Act) : List Account × Int :=
  bif bookOk xs then (bif decide (0 ≤ accAt xs id) then (bif (f (Account.at_ xs (accAt xs id).toNat)).1 == 0 then (bif (f (Account.at_ xs (accAt xs id).toNat)).2.tx == -1 then (xs.eraseIdx (accAt xs id).toNat, 0) else (xs.set (accAt xs id).toNat (f (Account.at_ xs (accAt xs id).toNat)).2, 0)) else (xs, (f (Account.at_ xs (accAt xs id).toNat)).1)) else (xs, 2)) else (xs, 1)
section
variable {xs : List Account} {id : Int} {f : Act}
theorem do_bad (h : bookOk xs = false) : bookDo xs id f = (xs, 1) := by simp [bookDo, h]
theorem do_none (h : bookOk xs = true) (h2 : accAt xs id = -1) : bookDo xs id f = (xs, 2) := by simp [bookDo, h, h2]
theorem do_at (h : bookOk xs = true) {i : Nat} (h2 : accAt xs id = (i : Int)) : bookDo xs id f = bif (f (Account.at_ xs i)).1 == 0 then (bif (f (Account.at_ xs i)).2.tx == -1 then (xs.eraseIdx i, 0) else (xs.set i (f (Account.at_ xs i)).2, 0)) else (xs, (f (Account.at_ xs i)).1) := by simp [bookDo, h, h2]
theorem do_len : (bookDo xs id f).1.length ≤ xs.length := by
  unfold bookDo
  cases bookOk xs <;> simp only [cond_true, cond_false, Nat.le_refl]
  cases decide (0 ≤ accAt xs id) <;> simp only [cond_true, cond_false, Nat.le_refl]
  cases ((f (Account.at_ xs (accAt xs id).toNat)).1 == 0) <;> simp only [cond_true, cond_false, Nat.le_refl]
  cases ((f (Account.at_ xs (accAt xs id).toNat)).2.tx == -1) <;> simp only [cond_true, cond_false]
  · simp
  · exact List.length_eraseIdx_le _ _
end
/-- What a function value does with an account in a slice of one's own. -/
def Does (F : Nat → Option RF) (Z : CallF) (n : Nat) (ps : List (Nat × Nat × Nat)) (f : Act) (h : Heap) : Prop :=
  ∀ g, On h g → ∀ y (xs : List Account) fp, SlR 11 (Fl Account.enc) g y xs fp → fp.Nodup → (∀ id, id ∈ fp → g.floor ≤ id ∧ h.next ≤ id) → ∀ i (hi : i < xs.length), xs[i].Ok → xs[i].fine = true →
    ∃ g', call F Z n (.c (.ptr y.sid i 0) :: capV ps) g = some (.c (.int .i64 (f xs[i]).1), g') ∧ Mk g g' fp ∧ ((f xs[i]).1 = 0 → SlR 11 (Fl Account.enc) g' y (xs.set i (f xs[i]).2) fp)
section
variable {F : Nat → Option RF} {Z : CallF} {h : Heap} {x : Cell} {xs : List Account} {fp : List Nat}
set_option maxHeartbeats 2000000 in
theorem change_c (hI10 : Has F tI10) (pr : PrimAt F Z 348 (delF 11)) (hf : h.floor ≤ h.next) (w : SlR 11 (Fl Account.enc) h x xs fp) (id : Int) (hok : ∀ t, t ∈ xs → t.Ok) (sm : xs.length ≤ 1048576) {n : Nat} {ps : List (Nat × Nat × Nat)} {f : Act} (hd : Does F Z n ps f h) :
    ∃ y h' fq, call F Z 345 [.agg [x], .c (.int .u64 id), .c (.fn n ps)] h = some (.tup [.agg [y], .c (.int .i64 (bookDo xs id f).2)], h') ∧ On h h' ∧ SlR 11 (Fl Account.enc) h' y (bookDo xs id f).1 fq ∧ Fre h fq := by
  obtain ⟨y, h1, fq, e1, o1, w1, f1⟩ := copyBook_c (Z := Z) hI10 hf w sm
  have wx := w.on (Fl.ok _) o1
  have e2 := isBook_run (Z := Z) hI10 wx hok
  have e3 := accountOf_run (Z := Z) hI10 wx id
  rw [call_run F Z (hI10.lk (g := 345) rfl) _ _ rfl]
  cases hb : bookOk xs with
  | false =>
    rw [hb] at e2
    rw [do_bad hb]
    simp only [run0, run1, run2, run3, run4, noSlot, ownS, ownK, memN, RO.dst, lk, drop, forget, number, Nat.reduceBEq, cut?, splice?, builds, List.length_cons, List.length_nil, List.drop_succ_cons, List.drop_zero, List.take_succ_cons, List.take_zero, List.cons_append, List.nil_append, List.append_nil, List.drop_nil, List.take_nil, Nat.reduceAdd, Nat.reduceLeDiff, Nat.zero_add, Nat.add_zero, ↓reduceIte, Bool.not_true, Bool.not_false, decide_true, decide_false, eq_self, bne_self_eq_false, List.getElem?_cons_zero, List.getElem?_cons_succ, decide_eq_true_eq, Bool.false_eq_true, Bool.true_eq_false, reduceCtorEq, Nat.le_refl, e1, e2]
    exact ⟨_, _, _, rfl, o1, w1, f1⟩
  | true =>
    rw [hb] at e2
    rcases acc_found hb id with ⟨q1, q2⟩ | ⟨i, q1, q2, q3, hi, q5⟩
    · rw [q2] at e3
      rw [do_none hb q1]
      simp only [run0, run1, run2, run3, run4, noSlot, ownS, ownK, memN, RO.dst, lk, drop, forget, number, Nat.reduceBEq, cut?, splice?, builds, List.length_cons, List.length_nil, List.drop_succ_cons, List.drop_zero, List.take_succ_cons, List.take_zero, List.cons_append, List.nil_append, List.append_nil, List.drop_nil, List.take_nil, Nat.reduceAdd, Nat.reduceLeDiff, Nat.zero_add, Nat.add_zero, ↓reduceIte, Bool.not_true, Bool.not_false, decide_true, decide_false, eq_self, bne_self_eq_false, List.getElem?_cons_zero, List.getElem?_cons_succ, decide_eq_true_eq, Bool.false_eq_true, Bool.true_eq_false, reduceCtorEq, Nat.le_refl, e1, e2, e3]
      exact ⟨_, _, _, rfl, o1, w1, f1⟩
    · rw [q2, q3] at e3
      rw [do_at hb q1]
      have hyi := w1.idx hi
      have hok' := hok _ (List.getElem_mem hi)
      have hfine := book_fine hb hi
      rw [Account.at_get hi] at hfine ⊢
      obtain ⟨g, e4, mk, hset⟩ := hd h1 o1 y xs fq w1 f1.nd (fun id hid => ⟨f1.own o1 hf id hid, f1.lo id hid⟩) i hi hok' hfine
      have o2 := o1.turned mk f1
      have wx2 := w.on (Fl.ok _) o2
      by_cases hc : (f xs[i]).1 = 0
      · have hc' : ((f xs[i]).1 == 0) = true := by simpa using hc
        have hcn : ((f xs[i]).1 != 0) = false := by simpa using hc
        have wz := hset hc
        have hi' : i < (xs.set i (f xs[i]).2).length := by rw [List.length_set]; exact hi
        have hld := wz.load hi'
        rw [List.getElem_set_self] at hld
        simp only [Account.enc] at hld
        rw [hc']
        by_cases ht : (f xs[i]).2.tx = -1
        · have ht' : ((f xs[i]).2.tx == -1) = true := by simpa using ht
          rw [ht']
          have hle := w.le2
          obtain ⟨z, g2, fr, e5, wz2, re⟩ := wz.del (Fl.ok _) f1.nd (fun id hid => by rw [mk.fl]; exact f1.own o1 hf id hid) hi'
          have hwj := wrapS i (by omega)
          have her : (xs.set i (f xs[i]).2).eraseIdx i = xs.eraseIdx i := by
            rw [List.eraseIdx_eq_take_drop_succ, List.eraseIdx_eq_take_drop_succ, List.take_set_of_le (Nat.le_refl _), List.drop_set_of_lt (by omega)]
          rw [her] at wz2
          simp only [run0, run1, run2, run3, run4, noSlot, ownS, ownK, memN, RO.dst, lk, drop, forget, number, Nat.reduceBEq, cut?, splice?, builds, List.length_cons, List.length_nil, List.drop_succ_cons, List.drop_zero, List.take_succ_cons, List.take_zero, List.cons_append, List.nil_append, List.append_nil, List.drop_nil, List.take_nil, Nat.reduceAdd, Nat.reduceLeDiff, Nat.zero_add, Nat.add_zero, ↓reduceIte, Bool.not_true, Bool.not_false, decide_true, decide_false, eq_self, bne_self_eq_false, List.getElem?_cons_zero, List.getElem?_cons_succ, decide_eq_true_eq, Bool.false_eq_true, Bool.true_eq_false, reduceCtorEq, Nat.le_refl, e1, e2, e3, hyi, e4, hcn, hld, ht', hwj, pr _ _, e5]
          exact ⟨_, _, _, rfl, re.on o2 f1, wz2, re.fre o2 f1⟩
        · have ht' : ((f xs[i]).2.tx == -1) = false := by simpa using ht
          rw [ht']
          simp only [run0, run1, run2, run3, run4, noSlot, ownS, ownK, memN, RO.dst, lk, drop, forget, number, Nat.reduceBEq, cut?, splice?, builds, List.length_cons, List.length_nil, List.drop_succ_cons, List.drop_zero, List.take_succ_cons, List.take_zero, List.cons_append, List.nil_append, List.append_nil, List.drop_nil, List.take_nil, Nat.reduceAdd, Nat.reduceLeDiff, Nat.zero_add, Nat.add_zero, ↓reduceIte, Bool.not_true, Bool.not_false, decide_true, decide_false, eq_self, bne_self_eq_false, List.getElem?_cons_zero, List.getElem?_cons_succ, decide_eq_true_eq, Bool.false_eq_true, Bool.true_eq_false, reduceCtorEq, Nat.le_refl, e1, e2, e3, hyi, e4, hcn, hld, ht']
          exact ⟨_, _, _, rfl, o2, wz, f1⟩
      · have hc' : ((f xs[i]).1 == 0) = false := by simpa using hc
        have hcn : ((f xs[i]).1 != 0) = true := by simpa using hc
        obtain ⟨z, h5, fr, e5, o5, w5, f5⟩ := copyBook_c (Z := Z) hI10 (o2.le hf) wx2 sm
        rw [hc']
        simp only [run0, run1, run2, run3, run4, noSlot, ownS, ownK, memN, RO.dst, lk, drop, forget, number, Nat.reduceBEq, cut?, splice?, builds, List.length_cons, List.length_nil, List.drop_succ_cons, List.drop_zero, List.take_succ_cons, List.take_zero, List.cons_append, List.nil_append, List.append_nil, List.drop_nil, List.take_nil, Nat.reduceAdd, Nat.reduceLeDiff, Nat.zero_add, Nat.add_zero, ↓reduceIte, Bool.not_true, Bool.not_false, decide_true, decide_false, eq_self, bne_self_eq_false, List.getElem?_cons_zero, List.getElem?_cons_succ, decide_eq_true_eq, Bool.false_eq_true, Bool.true_eq_false, reduceCtorEq, Nat.le_refl, e1, e2, e3, hyi, e4, hcn, e5]
        exact ⟨_, _, _, rfl, o2.trans o5, w5, ⟨fun id hid => Nat.le_trans o2.ext.1 (f5.lo id hid), f5.nd⟩⟩
/-- The account of an id, or the code that comes first. -/
def accOf (xs : List Account) (id tx : Int) : Account × Int := bif bookOk xs && !decide (tx < 1) then (bif decide (accAt xs id < 0) then (Account.none_, 2) else (Account.at_ xs (accAt xs id).toNat, 0)) else (Account.none_, 1)
theorem l10Of_run (hS10 : Has F tS10) (w : SlR 11 (Fl Account.enc) h x xs fp) (id tx : Int) (hok : ∀ t, t ∈ xs → t.Ok) :
    call F Z 335 [.agg [x], .c (.int .u64 id), .c (.int .i64 tx)] h = some (.tup [.agg (accOf xs id tx).1.enc, .c (.int .i64 (accOf xs id tx).2)], h) := by
  have e1 := sBookOk_run (Z := Z) hS10 w hok
  have e2 := l10Find_run (Z := Z) hS10 w id
  rw [call_run F Z (hS10.lk (g := 335) rfl) _ _ rfl]
  cases hb : bookOk xs with
  | false =>
    rw [hb] at e1
    have hd : accOf xs id tx = (Account.none_, 1) := by simp [accOf, hb]
    rw [hd]
    simp only [run0, run1, run2, run3, run4, noSlot, ownS, ownK, memN, RO.dst, lk, drop, forget, number, Nat.reduceBEq, cut?, splice?, builds, List.length_cons, List.length_nil, List.drop_succ_cons, List.drop_zero, List.take_succ_cons, List.take_zero, List.cons_append, List.nil_append, List.append_nil, List.drop_nil, List.take_nil, Nat.reduceAdd, Nat.reduceLeDiff, Nat.zero_add, Nat.add_zero, ↓reduceIte, Bool.not_true, Bool.not_false, decide_true, decide_false, eq_self, bne_self_eq_false, List.getElem?_cons_zero, List.getElem?_cons_succ, decide_eq_true_eq, Bool.false_eq_true, Bool.true_eq_false, reduceCtorEq, Nat.le_refl, e1, Account.enc, Account.none_]
  | true =>
    rw [hb] at e1
    by_cases ht : tx < 1
    · have hd : accOf xs id tx = (Account.none_, 1) := by simp [accOf, ht]
      rw [hd]
      simp only [run0, run1, run2, run3, run4, noSlot, ownS, ownK, memN, RO.dst, lk, drop, forget, number, Nat.reduceBEq, cut?, splice?, builds, List.length_cons, List.length_nil, List.drop_succ_cons, List.drop_zero, List.take_succ_cons, List.take_zero, List.cons_append, List.nil_append, List.append_nil, List.drop_nil, List.take_nil, Nat.reduceAdd, Nat.reduceLeDiff, Nat.zero_add, Nat.add_zero, ↓reduceIte, Bool.not_true, Bool.not_false, decide_true, decide_false, eq_self, bne_self_eq_false, List.getElem?_cons_zero, List.getElem?_cons_succ, decide_eq_true_eq, Bool.false_eq_true, Bool.true_eq_false, reduceCtorEq, Nat.le_refl, e1, ht, Account.enc, Account.none_]
    · rcases acc_found hb id with ⟨q1, _⟩ | ⟨i, q1, _, _, hi, _⟩
      · have hd : accOf xs id tx = (Account.none_, 2) := by simp [accOf, hb, ht, q1]
        rw [hd]
        rw [q1] at e2
        simp only [run0, run1, run2, run3, run4, noSlot, ownS, ownK, memN, RO.dst, lk, drop, forget, number, Nat.reduceBEq, cut?, splice?, builds, List.length_cons, List.length_nil, List.drop_succ_cons, List.drop_zero, List.take_succ_cons, List.take_zero, List.cons_append, List.nil_append, List.append_nil, List.drop_nil, List.take_nil, Nat.reduceAdd, Nat.reduceLeDiff, Nat.zero_add, Nat.add_zero, ↓reduceIte, Bool.not_true, Bool.not_false, decide_true, decide_false, eq_self, bne_self_eq_false, List.getElem?_cons_zero, List.getElem?_cons_succ, decide_eq_true_eq, Bool.false_eq_true, Bool.true_eq_false, reduceCtorEq, Nat.le_refl, e1, e2, ht, Int.reduceLT, Int.reduceNeg, Account.enc, Account.none_]
      · have hd : accOf xs id tx = (Account.at_ xs i, 0) := by
          have g0 : ¬ (i : Int) < 0 := by omega
          simp [accOf, hb, ht, q1, g0]
        rw [hd]
        rw [q1] at e2
        have g0 : ¬ (i : Int) < 0 := by omega
        have hxi := w.idx hi
        have hld := w.load hi
        rw [← Account.at_get hi] at hld
        simp only [Account.enc] at hld
        simp only [run0, run1, run2, run3, run4, noSlot, ownS, ownK, memN, RO.dst, lk, drop, forget, number, Nat.reduceBEq, cut?, splice?, builds, List.length_cons, List.length_nil, List.drop_succ_cons, List.drop_zero, List.take_succ_cons, List.take_zero, List.cons_append, List.nil_append, List.append_nil, List.drop_nil, List.take_nil, Nat.reduceAdd, Nat.reduceLeDiff, Nat.zero_add, Nat.add_zero, ↓reduceIte, Bool.not_true, Bool.not_false, decide_true, decide_false, eq_self, bne_self_eq_false, List.getElem?_cons_zero, List.getElem?_cons_succ, decide_eq_true_eq, Bool.false_eq_true, Bool.true_eq_false, reduceCtorEq, Nat.le_refl, e1, e2, ht, g0, hxi, hld, Account.enc]
theorem of_bad {id tx : Int} (h : bookOk xs = false) : accOf xs id tx = (Account.none_, 1) := by simp [accOf, h]
theorem of_tx {id tx : Int} (h : tx < 1) : accOf xs id tx = (Account.none_, 1) := by simp [accOf, h]
theorem of_none {id tx : Int} (h : bookOk xs = true) (ht : ¬ tx < 1) (h2 : accAt xs id = -1) : accOf xs id tx = (Account.none_, 2) := by simp [accOf, h, ht, h2]
theorem of_at {id tx : Int} (h : bookOk xs = true) (ht : ¬ tx < 1) {i : Nat} (h2 : accAt xs id = (i : Int)) : accOf xs id tx = (Account.at_ xs i, 0) := by
  have g0 : ¬ (i : Int) < 0 := by omega
  simp [accOf, h, ht, h2, g0]
def Account.put (a b : Account) : Account := if b.id = a.id then a else b
set_option maxHeartbeats 1000000 in
theorem l10With_c (hS10 : Has F tS10) (hf : h.floor ≤ h.next) (w : SlR 11 (Fl Account.enc) h x xs fp) (sm : xs.length ≤ 1048576) (a : Account) :
    ∃ y h' fq, call F Z 336 [.agg [x], .agg a.enc] h = some (.agg [y], h') ∧ On h h' ∧ SlR 11 (Fl Account.enc) h' y (xs.map a.put) fq ∧ Fre h fq := by
  obtain ⟨y, h1, fq, e1, o1, w1, f1⟩ := l10Copy_c (Z := Z) hS10 hf w sm
  have hle := w.le2
  rw [call_run F Z (hS10.lk (g := 336) rfl) _ _ rfl]
  simp only [run0, run1, run2, run3, run4, noSlot, ownS, ownK, memN, RO.dst, lk, drop, forget, number, Nat.reduceBEq, cut?, splice?, builds, List.length_cons, List.length_nil, List.drop_succ_cons, List.drop_zero, List.take_succ_cons, List.take_zero, List.cons_append, List.nil_append, List.append_nil, List.drop_nil, List.take_nil, Nat.reduceAdd, Nat.reduceLeDiff, Nat.zero_add, Nat.add_zero, ↓reduceIte, Bool.not_true, Bool.not_false, decide_true, decide_false, eq_self, bne_self_eq_false, List.getElem?_cons_zero, List.getElem?_cons_succ, decide_eq_true_eq, Bool.false_eq_true, Bool.true_eq_false, reduceCtorEq, Nat.le_refl, Account.len, Account.tak, e1]
  obtain ⟨s', ⟨g, hs, m, u⟩, lp⟩ := loop_goes (F := F) (Z := Z) (live := [3, 4, 5, 6]) (b := r336L0) xs.length (fun i st => ∃ g, st = ⟨[(6, .c (.int .i64 (i : Nat)))], [(3, 3, 0), (4, 4, 0), (5, 5, 0)], [(3, a.enc), (4, [.nil]), (5, [y])], g⟩ ∧ Mk h1 g fq ∧ SlR 11 (Fl Account.enc) g y ((xs.take i).map a.put ++ xs.drop i) fq) (fun i st hi ⟨g, hs, m, u⟩ => by
    subst hs
    have hll : ((xs.take i).map a.put ++ xs.drop i).length = xs.length := by simp; omega
    have hi' : i < ((xs.take i).map a.put ++ xs.drop i).length := by omega
    have hlt : (i : Int) < xs.length := by omega
    have hws := wrapS i (by omega)
    have hul := u.len
    rw [hll] at hul
    have hxi := u.idx hi'
    have hmx := mix_set a.put xs hi
    have hat := mix_at a.put xs hi hi'
    obtain ⟨r, f, rows, hR, hs, hld, hself, hst, hl2, fin⟩ := u.putRow (Fl.ok _) f1.nd (fun id hid => by rw [m.fl]; exact f1.own o1 hf id hid) hi'
    obtain ⟨rfl, rfl⟩ := hR
    rw [hat] at hld hself
    rw [loop_run]
    conv in (codeF _ _ r336L0 _) => unfold r336L0
    simp only [Account.enc] at hld hself ⊢
    by_cases c : xs[i].id = a.id
    · have c' : (xs[i].id == a.id) = true := by simpa using c
      have hp : a.put xs[i] = a := by simp [Account.put, c]
      rw [hp] at hmx
      obtain ⟨u2, m2⟩ := fin a.enc a ⟨rfl, rfl⟩
      rw [hmx] at u2
      have hst' := hst [.int .u64 xs[i].id, .int .u64 xs[i].bal, .int .u64 xs[i].hold, .int .u64 xs[i].due, .int .i64 xs[i].tx]
      rw [hself] at hst'
      simp only [run0, run1, run2, run3, run4, noSlot, ownS, ownK, memN, RO.dst, lk, drop, forget, number, Nat.reduceBEq, cut?, splice?, builds, List.length_cons, List.length_nil, List.drop_succ_cons, List.drop_zero, List.take_succ_cons, List.take_zero, List.cons_append, List.nil_append, List.append_nil, List.drop_nil, List.take_nil, Nat.reduceAdd, Nat.reduceLeDiff, Nat.zero_add, Nat.add_zero, ↓reduceIte, Bool.not_true, Bool.not_false, decide_true, decide_false, eq_self, bne_self_eq_false, List.getElem?_cons_zero, List.getElem?_cons_succ, decide_eq_true_eq, Bool.false_eq_true, Bool.true_eq_false, reduceCtorEq, Nat.le_refl, hul, hlt, hxi, hld, c', hst', putM_s, hws]
      exact ⟨_, ⟨_, rfl, m.then m2, u2⟩, rfl⟩
    · have c' : (xs[i].id == a.id) = false := by simpa using c
      have hp : a.put xs[i] = xs[i] := by simp [Account.put, c]
      rw [hp] at hmx
      have hsm := set_same _ hi'
      rw [hat, hmx] at hsm
      rw [← hsm] at u
      simp only [run0, run1, run2, run3, run4, noSlot, ownS, ownK, memN, RO.dst, lk, drop, forget, number, Nat.reduceBEq, cut?, splice?, builds, List.length_cons, List.length_nil, List.drop_succ_cons, List.drop_zero, List.take_succ_cons, List.take_zero, List.cons_append, List.nil_append, List.append_nil, List.drop_nil, List.take_nil, Nat.reduceAdd, Nat.reduceLeDiff, Nat.zero_add, Nat.add_zero, ↓reduceIte, Bool.not_true, Bool.not_false, decide_true, decide_false, eq_self, bne_self_eq_false, List.getElem?_cons_zero, List.getElem?_cons_succ, decide_eq_true_eq, Bool.false_eq_true, Bool.true_eq_false, reduceCtorEq, Nat.le_refl, hul, hlt, hxi, hld, c', hws]
      exact ⟨_, ⟨_, rfl, m, u⟩, rfl⟩) (s := ⟨[(6, .c (.int .i64 (0 : Nat)))], [(3, 3, 0), (4, 4, 0), (5, 5, 0)], [(3, a.enc), (4, [.nil]), (5, [y])], h1⟩) ⟨h1, rfl, Mk.refl _ _, by simpa using w1⟩
  subst hs
  simp only [show ((0 : Nat) : Int) = 0 from rfl] at lp
  rw [List.take_length, List.drop_length, List.append_nil] at u
  have hul := u.len
  rw [List.length_map] at hul
  have hlt : ¬ (xs.length : Int) < xs.length := by omega
  rw [lp, loop_run]
  conv in (codeF _ _ r336L0 _) => unfold r336L0
  simp only [run0, run1, run2, run3, run4, noSlot, ownS, ownK, memN, RO.dst, lk, drop, forget, number, Nat.reduceBEq, cut?, splice?, builds, List.length_cons, List.length_nil, List.drop_succ_cons, List.drop_zero, List.take_succ_cons, List.take_zero, List.cons_append, List.nil_append, List.append_nil, List.drop_nil, List.take_nil, Nat.reduceAdd, Nat.reduceLeDiff, Nat.zero_add, Nat.add_zero, ↓reduceIte, Bool.not_true, Bool.not_false, decide_true, decide_false, eq_self, bne_self_eq_false, List.getElem?_cons_zero, List.getElem?_cons_succ, decide_eq_true_eq, Bool.false_eq_true, Bool.true_eq_false, reduceCtorEq, Nat.le_refl, hul, hlt]
  exact ⟨_, _, _, rfl, o1.turned m f1, u, f1⟩
theorem with_set (g : bookOk xs = true) {i : Nat} (hi : i < xs.length) {a : Account} (ha : a.id = xs[i].id) : xs.map a.put = xs.set i a := by
  apply List.ext_getElem
  · simp
  · intro j h1 h2
    rw [List.getElem_map, List.getElem_set]
    rw [List.length_map] at h1
    by_cases e : i = j
    · subst e; simp [Account.put, ha]
    · rw [if_neg e]
      have : ¬ xs[j].id = a.id := fun hc => e (book_inj g hi h1 (by rw [← ha]; exact hc.symm))
      simp [Account.put, this]
end
end Go.Proofs.Ytcdlbjomdokmiaa.A
/- Deeds with one account: what they do, by the program and by the reference. -/
namespace Go.Proofs.Ytcdlbjomdokmiaa.A
open Go
set_option linter.unusedSimpArgs false
set_option linter.unusedVariables false
def closeF : Act := fun a => if a.tx = 0 then (if a.bal = 0 then (0, { a with tx := -1 }) else (4, a)) else (6, a)
def depF (m : Int) : Act := fun a => if a.tx = 0 then (if a.bal + m ≤ 18446744073709551615 then (0, { a with bal := a.bal + m }) else (5, a)) else (6, a)
def witF (m : Int) : Act := fun a => if a.tx = 0 then (if m ≤ a.bal then (0, { a with bal := a.bal - m }) else (4, a)) else (6, a)
theorem wrapOver (a m : Int) (h0 : 0 ≤ a ∧ a ≤ 18446744073709551615) (h1 : 0 ≤ m ∧ m ≤ 18446744073709551615) (h2 : ¬ a + m ≤ 18446744073709551615) : IntKind.u64.wrap (a + m) = a + m - 18446744073709551616 := by
  show (if (false && decide ((a + m) % 18446744073709551616 ≥ 9223372036854775808)) = true then (a + m) % 18446744073709551616 - 18446744073709551616 else (a + m) % 18446744073709551616) = _
  rw [if_neg (by simp)]
  omega
section
variable {F : Nat → Option RF} {Z : CallF} {h : Heap} {x : Cell} {xs : List Account} {fp : List Nat}
theorem cap_load {g : Heap} {r : List Cell} (o : On (h.push [r]) g) (j n : Nat) : loadP g h.next 0 j n = cut? r j n :=
  loadP_row (rows := [r]) (by rw [o.ext.2 h.next (by rw [push_next]; omega)]; exact push_get _ _) rfl j n
theorem close_does (hI10 : Has F tI10) : Does F Z 344 [] closeF h := by
  intro g o y xs fp w nd own i hi ok fine
  obtain ⟨r, f, rows, hR, hs, hld, hself, hst, hl2, fin⟩ := w.putRow (Fl.ok _) nd (fun id hid => (own id hid).1) hi
  obtain ⟨rfl, rfl⟩ := hR
  have hst' := hst xs[i].enc
  rw [hself] at hst'
  have hq := fin { xs[i] with tx := -1 }.enc { xs[i] with tx := -1 } ⟨rfl, rfl⟩
  clear hst hl2 hself
  generalize xs[i] = a at *
  simp only [capV_nil]
  rw [call_run F Z (hI10.lk (g := 344) rfl) _ _ rfl]
  simp only [Account.enc] at hld hst' hq
  by_cases c1 : a.tx = 0
  · have c1' : (a.tx != 0) = false := by simpa using c1
    by_cases c2 : a.bal = 0
    · have c2' : (a.bal != 0) = false := by simpa using c2
      have hd : closeF a = (0, { a with tx := -1 }) := by simp [closeF, c1, c2]
      rw [hd]
      simp only [run0, run1, run2, run3, run4, noSlot, ownS, ownK, memN, RO.dst, lk, drop, forget, number, Nat.reduceBEq, cut?, splice?, builds, List.length_cons, List.length_nil, List.drop_succ_cons, List.drop_zero, List.take_succ_cons, List.take_zero, List.cons_append, List.nil_append, List.append_nil, List.drop_nil, List.take_nil, Nat.reduceAdd, Nat.reduceLeDiff, Nat.zero_add, Nat.add_zero, ↓reduceIte, Bool.not_true, Bool.not_false, decide_true, decide_false, eq_self, bne_self_eq_false, List.getElem?_cons_zero, List.getElem?_cons_succ, decide_eq_true_eq, Bool.false_eq_true, Bool.true_eq_false, reduceCtorEq, Nat.le_refl, hld, c1', c2', hst', putM_s]
      exact ⟨_, rfl, hq.2, fun _ => hq.1⟩
    · have c2' : (a.bal != 0) = true := by simpa using c2
      have hd : closeF a = (4, a) := by simp [closeF, c1, c2]
      rw [hd]
      simp only [run0, run1, run2, run3, run4, noSlot, ownS, ownK, memN, RO.dst, lk, drop, forget, number, Nat.reduceBEq, cut?, splice?, builds, List.length_cons, List.length_nil, List.drop_succ_cons, List.drop_zero, List.take_succ_cons, List.take_zero, List.cons_append, List.nil_append, List.append_nil, List.drop_nil, List.take_nil, Nat.reduceAdd, Nat.reduceLeDiff, Nat.zero_add, Nat.add_zero, ↓reduceIte, Bool.not_true, Bool.not_false, decide_true, decide_false, eq_self, bne_self_eq_false, List.getElem?_cons_zero, List.getElem?_cons_succ, decide_eq_true_eq, Bool.false_eq_true, Bool.true_eq_false, reduceCtorEq, Nat.le_refl, hld, c1', c2']
      exact ⟨_, rfl, Mk.refl _ _, fun hc => by simp at hc⟩
  · have c1' : (a.tx != 0) = true := by simpa using c1
    have hd : closeF a = (6, a) := by simp [closeF, c1]
    rw [hd]
    simp only [run0, run1, run2, run3, run4, noSlot, ownS, ownK, memN, RO.dst, lk, drop, forget, number, Nat.reduceBEq, cut?, splice?, builds, List.length_cons, List.length_nil, List.drop_succ_cons, List.drop_zero, List.take_succ_cons, List.take_zero, List.cons_append, List.nil_append, List.append_nil, List.drop_nil, List.take_nil, Nat.reduceAdd, Nat.reduceLeDiff, Nat.zero_add, Nat.add_zero, ↓reduceIte, Bool.not_true, Bool.not_false, decide_true, decide_false, eq_self, bne_self_eq_false, List.getElem?_cons_zero, List.getElem?_cons_succ, decide_eq_true_eq, Bool.false_eq_true, Bool.true_eq_false, reduceCtorEq, Nat.le_refl, hld, c1']
    exact ⟨_, rfl, Mk.refl _ _, fun hc => by simp at hc⟩
theorem dep_does (hI10 : Has F tI10) {m : Int} (hm : 0 ≤ m ∧ m ≤ 18446744073709551615) : Does F Z 346 [(h.next, 0, 0)] (depF m) (h.push [[.int .u64 m]]) := by
  intro g o y xs fp w nd own i hi ok fine
  have hcl := cap_load o
  obtain ⟨r, f, rows, hR, hs, hld, hself, hst, hl2, fin⟩ := w.putRow (Fl.ok _) nd (fun id hid => (own id hid).1) hi
  obtain ⟨rfl, rfl⟩ := hR
  have hst' := hst xs[i].enc
  rw [hself] at hst'
  have hq := fin { xs[i] with bal := xs[i].bal + m }.enc { xs[i] with bal := xs[i].bal + m } ⟨rfl, rfl⟩
  clear hst hl2 hself
  have hbal := ok.bal
  generalize xs[i] = a at *
  simp only [capV_cons, capV_nil]
  rw [call_run F Z (hI10.lk (g := 346) rfl) _ _ rfl]
  simp only [Account.enc] at hld hst' hq
  by_cases c1 : a.tx = 0
  · have c1' : (a.tx != 0) = false := by simpa using c1
    by_cases c2 : a.bal + m ≤ 18446744073709551615
    · have hd : depF m a = (0, { a with bal := a.bal + m }) := by simp [depF, c1, c2]
      have hw : IntKind.u64.wrap (a.bal + m) = a.bal + m := wrapU _ (by omega) (by omega)
      have c3 : ¬ a.bal + m < a.bal := by omega
      rw [hd]
      simp only [run0, run1, run2, run3, run4, noSlot, ownS, ownK, memN, RO.dst, lk, drop, forget, number, Nat.reduceBEq, cut?, splice?, builds, List.length_cons, List.length_nil, List.drop_succ_cons, List.drop_zero, List.take_succ_cons, List.take_zero, List.cons_append, List.nil_append, List.append_nil, List.drop_nil, List.take_nil, Nat.reduceAdd, Nat.reduceLeDiff, Nat.zero_add, Nat.add_zero, ↓reduceIte, Bool.not_true, Bool.not_false, decide_true, decide_false, eq_self, bne_self_eq_false, List.getElem?_cons_zero, List.getElem?_cons_succ, decide_eq_true_eq, Bool.false_eq_true, Bool.true_eq_false, reduceCtorEq, Nat.le_refl, hld, hcl, c1', hw, c3, hst', putM_s]
      exact ⟨_, rfl, hq.2, fun _ => hq.1⟩
    · have hd : depF m a = (5, a) := by simp [depF, c1, c2]
      have hw := wrapOver a.bal m hbal hm c2
      have c3 : a.bal + m - 18446744073709551616 < a.bal := by omega
      rw [hd]
      simp only [run0, run1, run2, run3, run4, noSlot, ownS, ownK, memN, RO.dst, lk, drop, forget, number, Nat.reduceBEq, cut?, splice?, builds, List.length_cons, List.length_nil, List.drop_succ_cons, List.drop_zero, List.take_succ_cons, List.take_zero, List.cons_append, List.nil_append, List.append_nil, List.drop_nil, List.take_nil, Nat.reduceAdd, Nat.reduceLeDiff, Nat.zero_add, Nat.add_zero, ↓reduceIte, Bool.not_true, Bool.not_false, decide_true, decide_false, eq_self, bne_self_eq_false, List.getElem?_cons_zero, List.getElem?_cons_succ, decide_eq_true_eq, Bool.false_eq_true, Bool.true_eq_false, reduceCtorEq, Nat.le_refl, hld, hcl, c1', hw, c3]
      exact ⟨_, rfl, Mk.refl _ _, fun hc => by simp at hc⟩
  · have c1' : (a.tx != 0) = true := by simpa using c1
    have hd : depF m a = (6, a) := by simp [depF, c1]
    rw [hd]
    simp only [run0, run1, run2, run3, run4, noSlot, ownS, ownK, memN, RO.dst, lk, drop, forget, number, Nat.reduceBEq, cut?, splice?, builds, List.length_cons, List.length_nil, List.drop_succ_cons, List.drop_zero, List.take_succ_cons, List.take_zero, List.cons_append, List.nil_append, List.append_nil, List.drop_nil, List.take_nil, Nat.reduceAdd, Nat.reduceLeDiff, Nat.zero_add, Nat.add_zero, ↓reduceIte, Bool.not_true, Bool.not_false, decide_true, decide_false, eq_self, bne_self_eq_false, List.getElem?_cons_zero, List.getElem?_cons_succ, decide_eq_true_eq, Bool.false_eq_true, Bool.true_eq_false, reduceCtorEq, Nat.le_refl, hld, hcl, c1']
    exact ⟨_, rfl, Mk.refl _ _, fun hc => by simp at hc⟩
theorem wit_does (hI10 : Has F tI10) {m : Int} (hm : 0 ≤ m ∧ m ≤ 18446744073709551615) : Does F Z 347 [(h.next, 0, 0)] (witF m) (h.push [[.int .u64 m]]) := by
  intro g o y xs fp w nd own i hi ok fine
  have hcl := cap_load o
  obtain ⟨r, f, rows, hR, hs, hld, hself, hst, hl2, fin⟩ := w.putRow (Fl.ok _) nd (fun id hid => (own id hid).1) hi
  obtain ⟨rfl, rfl⟩ := hR
  have hst' := hst xs[i].enc
  rw [hself] at hst'
  have hq := fin { xs[i] with bal := xs[i].bal - m }.enc { xs[i] with bal := xs[i].bal - m } ⟨rfl, rfl⟩
  clear hst hl2 hself
  have hbal := ok.bal
  generalize xs[i] = a at *
  simp only [capV_cons, capV_nil]
  rw [call_run F Z (hI10.lk (g := 347) rfl) _ _ rfl]
  simp only [Account.enc] at hld hst' hq
  by_cases c1 : a.tx = 0
  · have c1' : (a.tx != 0) = false := by simpa using c1
    by_cases c2 : m ≤ a.bal
    · have hd : witF m a = (0, { a with bal := a.bal - m }) := by simp [witF, c1, c2]
      have hw : IntKind.u64.wrap (a.bal - m) = a.bal - m := wrapU _ (by omega) (by omega)
      have c3 : ¬ a.bal < m := by omega
      rw [hd]
      simp only [run0, run1, run2, run3, run4, noSlot, ownS, ownK, memN, RO.dst, lk, drop, forget, number, Nat.reduceBEq, cut?, splice?, builds, List.length_cons, List.length_nil, List.drop_succ_cons, List.drop_zero, List.take_succ_cons, List.take_zero, List.cons_append, List.nil_append, List.append_nil, List.drop_nil, List.take_nil, Nat.reduceAdd, Nat.reduceLeDiff, Nat.zero_add, Nat.add_zero, ↓reduceIte, Bool.not_true, Bool.not_false, decide_true, decide_false, eq_self, bne_self_eq_false, List.getElem?_cons_zero, List.getElem?_cons_succ, decide_eq_true_eq, Bool.false_eq_true, Bool.true_eq_false, reduceCtorEq, Nat.le_refl, hld, hcl, c1', hw, c3, hst', putM_s]
      exact ⟨_, rfl, hq.2, fun _ => hq.1⟩
    · have hd : witF m a = (4, a) := by simp [witF, c1, c2]
      have hw : True := trivial
      have c3 : a.bal < m := by omega
      rw [hd]
      simp only [run0, run1, run2, run3, run4, noSlot, ownS, ownK, memN, RO.dst, lk, drop, forget, number, Nat.reduceBEq, cut?, splice?, builds, List.length_cons, List.length_nil, List.drop_succ_cons, List.drop_zero, List.take_succ_cons, List.take_zero, List.cons_append, List.nil_append, List.append_nil, List.drop_nil, List.take_nil, Nat.reduceAdd, Nat.reduceLeDiff, Nat.zero_add, Nat.add_zero, ↓reduceIte, Bool.not_true, Bool.not_false, decide_true, decide_false, eq_self, bne_self_eq_false, List.getElem?_cons_zero, List.getElem?_cons_succ, decide_eq_true_eq, Bool.false_eq_true, Bool.true_eq_false, reduceCtorEq, Nat.le_refl, hld, hcl, c1', hw, c3]
      exact ⟨_, rfl, Mk.refl _ _, fun hc => by simp at hc⟩
  · have c1' : (a.tx != 0) = true := by simpa using c1
    have hd : witF m a = (6, a) := by simp [witF, c1]
    rw [hd]
    simp only [run0, run1, run2, run3, run4, noSlot, ownS, ownK, memN, RO.dst, lk, drop, forget, number, Nat.reduceBEq, cut?, splice?, builds, List.length_cons, List.length_nil, List.drop_succ_cons, List.drop_zero, List.take_succ_cons, List.take_zero, List.cons_append, List.nil_append, List.append_nil, List.drop_nil, List.take_nil, Nat.reduceAdd, Nat.reduceLeDiff, Nat.zero_add, Nat.add_zero, ↓reduceIte, Bool.not_true, Bool.not_false, decide_true, decide_false, eq_self, bne_self_eq_false, List.getElem?_cons_zero, List.getElem?_cons_succ, decide_eq_true_eq, Bool.false_eq_true, Bool.true_eq_false, reduceCtorEq, Nat.le_refl, hld, hcl, c1']
    exact ⟨_, rfl, Mk.refl _ _, fun hc => by simp at hc⟩
theorem CloseAccount_c (hI10 : Has F tI10) (pr : PrimAt F Z 348 (delF 11)) (hf : h.floor ≤ h.next) (w : SlR 11 (Fl Account.enc) h x xs fp) (id : Int) (hok : ∀ t, t ∈ xs → t.Ok) (sm : xs.length ≤ 1048576) :
    ∃ y h' fq, call F Z 338 [.agg [x], .c (.int .u64 id)] h = some (.tup [.agg [y], .c (.int .i64 (bookDo xs id closeF).2)], h') ∧ On h h' ∧ SlR 11 (Fl Account.enc) h' y (bookDo xs id closeF).1 fq ∧ Fre h fq := by
  obtain ⟨y, h', fq, e, o, u, f⟩ := change_c (Z := Z) hI10 pr hf w id hok sm (close_does (h := h) hI10)
  rw [call_run F Z (hI10.lk (g := 338) rfl) _ _ rfl]
  simp only [run0, run1, run2, run3, run4, noSlot, ownS, ownK, memN, RO.dst, lk, drop, forget, number, Nat.reduceBEq, cut?, splice?, builds, List.length_cons, List.length_nil, List.drop_succ_cons, List.drop_zero, List.take_succ_cons, List.take_zero, List.cons_append, List.nil_append, List.append_nil, List.drop_nil, List.take_nil, Nat.reduceAdd, Nat.reduceLeDiff, Nat.zero_add, Nat.add_zero, ↓reduceIte, Bool.not_true, Bool.not_false, decide_true, decide_false, eq_self, bne_self_eq_false, List.getElem?_cons_zero, List.getElem?_cons_succ, decide_eq_true_eq, Bool.false_eq_true, Bool.true_eq_false, reduceCtorEq, Nat.le_refl, e]
  exact ⟨_, _, _, rfl, o, u, f⟩
theorem Deposit_c (hI10 : Has F tI10) (pr : PrimAt F Z 348 (delF 11)) (hf : h.floor ≤ h.next) (w : SlR 11 (Fl Account.enc) h x xs fp) (id m : Int) (hm : 0 ≤ m ∧ m ≤ 18446744073709551615) (hok : ∀ t, t ∈ xs → t.Ok) (sm : xs.length ≤ 1048576) :
    ∃ y h' fq, call F Z 339 [.agg [x], .c (.int .u64 id), .c (.int .u64 m)] h = some (.tup [.agg [y], .c (.int .i64 (bookDo xs id (depF m)).2)], h') ∧ On h h' ∧ SlR 11 (Fl Account.enc) h' y (bookDo xs id (depF m)).1 fq ∧ Fre h fq := by
  have o0 := On.push h [[.int .u64 m]]
  obtain ⟨y, h', fq, e, o, u, f⟩ := change_c (Z := Z) hI10 pr (o0.le hf) (w.on (Fl.ok _) o0) id hok sm (dep_does (h := h) hI10 hm)
  rw [call_run F Z (hI10.lk (g := 339) rfl) _ _ rfl]
  simp only [run0, run1, run2, run3, run4, noSlot, ownS, ownK, memN, RO.dst, lk, drop, forget, number, Nat.reduceBEq, cut?, splice?, builds, List.length_cons, List.length_nil, List.drop_succ_cons, List.drop_zero, List.take_succ_cons, List.take_zero, List.cons_append, List.nil_append, List.append_nil, List.drop_nil, List.take_nil, Nat.reduceAdd, Nat.reduceLeDiff, Nat.zero_add, Nat.add_zero, ↓reduceIte, Bool.not_true, Bool.not_false, decide_true, decide_false, eq_self, bne_self_eq_false, List.getElem?_cons_zero, List.getElem?_cons_succ, decide_eq_true_eq, Bool.false_eq_true, Bool.true_eq_false, reduceCtorEq, Nat.le_refl, evPtrs, e]
  exact ⟨_, _, _, rfl, o0.trans o, u, ⟨fun id hid => Nat.le_trans o0.ext.1 (f.lo id hid), f.nd⟩⟩
theorem Withdraw_c (hI10 : Has F tI10) (pr : PrimAt F Z 348 (delF 11)) (hf : h.floor ≤ h.next) (w : SlR 11 (Fl Account.enc) h x xs fp) (id m : Int) (hm : 0 ≤ m ∧ m ≤ 18446744073709551615) (hok : ∀ t, t ∈ xs → t.Ok) (sm : xs.length ≤ 1048576) :
    ∃ y h' fq, call F Z 340 [.agg [x], .c (.int .u64 id), .c (.int .u64 m)] h = some (.tup [.agg [y], .c (.int .i64 (bookDo xs id (witF m)).2)], h') ∧ On h h' ∧ SlR 11 (Fl Account.enc) h' y (bookDo xs id (witF m)).1 fq ∧ Fre h fq := by
  have o0 := On.push h [[.int .u64 m]]
  obtain ⟨y, h', fq, e, o, u, f⟩ := change_c (Z := Z) hI10 pr (o0.le hf) (w.on (Fl.ok _) o0) id hok sm (wit_does (h := h) hI10 hm)
  rw [call_run F Z (hI10.lk (g := 340) rfl) _ _ rfl]
  simp only [run0, run1, run2, run3, run4, noSlot, ownS, ownK, memN, RO.dst, lk, drop, forget, number, Nat.reduceBEq, cut?, splice?, builds, List.length_cons, List.length_nil, List.drop_succ_cons, List.drop_zero, List.take_succ_cons, List.take_zero, List.cons_append, List.nil_append, List.append_nil, List.drop_nil, List.take_nil, Nat.reduceAdd, Nat.reduceLeDiff, Nat.zero_add, Nat.add_zero, ↓reduceIte, Bool.not_true, Bool.not_false, decide_true, decide_false, eq_self, bne_self_eq_false, List.getElem?_cons_zero, List.getElem?_cons_succ, decide_eq_true_eq, Bool.false_eq_true, Bool.true_eq_false, reduceCtorEq, Nat.le_refl, evPtrs, e]
  exact ⟨_, _, _, rfl, o0.trans o, u, ⟨fun id hid => Nat.le_trans o0.ext.1 (f.lo id hid), f.nd⟩⟩
set_option maxHeartbeats 1000000 in
theorem sDeposit_c (hS10 : Has F tS10) (hf : h.floor ≤ h.next) (w : SlR 11 (Fl Account.enc) h x xs fp) (id m : Int) (hm : 0 ≤ m ∧ m ≤ 18446744073709551615) (hok : ∀ t, t ∈ xs → t.Ok) (sm : xs.length ≤ 1048576) :
    ∃ y h' fq, call F Z 325 [.agg [x], .c (.int .u64 id), .c (.int .u64 m)] h = some (.tup [.agg [y], .c (.int .i64 (bookDo xs id (depF m)).2)], h') ∧ On h h' ∧ SlR 11 (Fl Account.enc) h' y (bookDo xs id (depF m)).1 fq ∧ Fre h fq := by
  have e1 := l10Of_run (Z := Z) hS10 w id 1 hok
  obtain ⟨y, h2, fq, e2, o2, w2, f2⟩ := l10Copy_c (Z := Z) hS10 hf w sm
  have z0 : ((0 : Int) != 0) = false := rfl
  have z1 : ((1 : Int) != 0) = true := rfl
  have z2 : ((2 : Int) != 0) = true := rfl
  rw [call_run F Z (hS10.lk (g := 325) rfl) _ _ rfl]
  cases hb : bookOk xs with
  | false =>
    rw [of_bad hb] at e1
    rw [do_bad hb]
    simp only [Account.enc, Account.none_] at e1
    simp only [run0, run1, run2, run3, run4, noSlot, ownS, ownK, memN, RO.dst, lk, drop, forget, number, Nat.reduceBEq, cut?, splice?, builds, List.length_cons, List.length_nil, List.drop_succ_cons, List.drop_zero, List.take_succ_cons, List.take_zero, List.cons_append, List.nil_append, List.append_nil, List.drop_nil, List.take_nil, Nat.reduceAdd, Nat.reduceLeDiff, Nat.zero_add, Nat.add_zero, ↓reduceIte, Bool.not_true, Bool.not_false, decide_true, decide_false, eq_self, bne_self_eq_false, List.getElem?_cons_zero, List.getElem?_cons_succ, decide_eq_true_eq, Bool.false_eq_true, Bool.true_eq_false, reduceCtorEq, Nat.le_refl, z0, z1, z2, e1, e2]
    exact ⟨_, _, _, rfl, o2, w2, f2⟩
  | true =>
    have ht : ¬ (1 : Int) < 1 := by omega
    rcases acc_found hb id with ⟨q1, _⟩ | ⟨i, q1, _, _, hi, q5⟩
    · rw [of_none hb ht q1] at e1
      rw [do_none hb q1]
      simp only [Account.enc, Account.none_] at e1
      simp only [run0, run1, run2, run3, run4, noSlot, ownS, ownK, memN, RO.dst, lk, drop, forget, number, Nat.reduceBEq, cut?, splice?, builds, List.length_cons, List.length_nil, List.drop_succ_cons, List.drop_zero, List.take_succ_cons, List.take_zero, List.cons_append, List.nil_append, List.append_nil, List.drop_nil, List.take_nil, Nat.reduceAdd, Nat.reduceLeDiff, Nat.zero_add, Nat.add_zero, ↓reduceIte, Bool.not_true, Bool.not_false, decide_true, decide_false, eq_self, bne_self_eq_false, List.getElem?_cons_zero, List.getElem?_cons_succ, decide_eq_true_eq, Bool.false_eq_true, Bool.true_eq_false, reduceCtorEq, Nat.le_refl, z0, z1, z2, e1, e2]
      exact ⟨_, _, _, rfl, o2, w2, f2⟩
    · rw [of_at hb ht q1] at e1
      rw [do_at hb q1]
      have hbal := (hok _ (List.getElem_mem hi)).bal
      rw [Account.at_get hi] at e1 ⊢
      obtain ⟨z, h3, fr, e3, o3, w3, f3⟩ := l10With_c (Z := Z) hS10 hf w sm ⟨xs[i].id, xs[i].bal + m, xs[i].hold, xs[i].due, xs[i].tx⟩
      rw [with_set hb hi (a := ⟨xs[i].id, xs[i].bal + m, xs[i].hold, xs[i].due, xs[i].tx⟩) rfl] at w3
      have hws : IntKind.u64.wrap (18446744073709551615 - xs[i].bal) = 18446744073709551615 - xs[i].bal := wrapU _ (by omega) (by omega)
      simp only [Account.enc] at e1 e3
      generalize xs[i] = a at *
      by_cases c1 : a.tx = 0
      · have c1' : (a.tx != 0) = false := by simpa using c1
        by_cases c2 : a.bal + m ≤ 18446744073709551615
        · have hd : depF m a = (0, { a with bal := a.bal + m }) := by simp [depF, c1, c2]
          have htx : (a.tx == -1) = false := by simp [c1]
          have hw : IntKind.u64.wrap (a.bal + m) = a.bal + m := wrapU _ (by omega) (by omega)
          have c3 : ¬ m > 18446744073709551615 - a.bal := by omega
          rw [hd]
          simp only [beq_self_eq_true, cond_true, htx, cond_false]
          simp only [run0, run1, run2, run3, run4, noSlot, ownS, ownK, memN, RO.dst, lk, drop, forget, number, Nat.reduceBEq, cut?, splice?, builds, List.length_cons, List.length_nil, List.drop_succ_cons, List.drop_zero, List.take_succ_cons, List.take_zero, List.cons_append, List.nil_append, List.append_nil, List.drop_nil, List.take_nil, Nat.reduceAdd, Nat.reduceLeDiff, Nat.zero_add, Nat.add_zero, ↓reduceIte, Bool.not_true, Bool.not_false, decide_true, decide_false, eq_self, bne_self_eq_false, List.getElem?_cons_zero, List.getElem?_cons_succ, decide_eq_true_eq, Bool.false_eq_true, Bool.true_eq_false, reduceCtorEq, Nat.le_refl, z0, z1, z2, e1, hws, hw, c1', c3, e3]
          exact ⟨_, _, _, rfl, o3, w3, f3⟩
        · have hd : depF m a = (5, a) := by simp [depF, c1, c2]
          have c3 : m > 18446744073709551615 - a.bal := by omega
          rw [hd]
          have h0 : ((5 : Int) == 0) = false := rfl
          simp only [h0, cond_false]
          simp only [run0, run1, run2, run3, run4, noSlot, ownS, ownK, memN, RO.dst, lk, drop, forget, number, Nat.reduceBEq, cut?, splice?, builds, List.length_cons, List.length_nil, List.drop_succ_cons, List.drop_zero, List.take_succ_cons, List.take_zero, List.cons_append, List.nil_append, List.append_nil, List.drop_nil, List.take_nil, Nat.reduceAdd, Nat.reduceLeDiff, Nat.zero_add, Nat.add_zero, ↓reduceIte, Bool.not_true, Bool.not_false, decide_true, decide_false, eq_self, bne_self_eq_false, List.getElem?_cons_zero, List.getElem?_cons_succ, decide_eq_true_eq, Bool.false_eq_true, Bool.true_eq_false, reduceCtorEq, Nat.le_refl, z0, z1, z2, e1, hws, c1', c3, e2]
          exact ⟨_, _, _, rfl, o2, w2, f2⟩
      · have c1' : (a.tx != 0) = true := by simpa using c1
        have hd : depF m a = (6, a) := by simp [depF, c1]
        rw [hd]
        have h0 : ((6 : Int) == 0) = false := rfl
        simp only [h0, cond_false]
        simp only [run0, run1, run2, run3, run4, noSlot, ownS, ownK, memN, RO.dst, lk, drop, forget, number, Nat.reduceBEq, cut?, splice?, builds, List.length_cons, List.length_nil, List.drop_succ_cons, List.drop_zero, List.take_succ_cons, List.take_zero, List.cons_append, List.nil_append, List.append_nil, List.drop_nil, List.take_nil, Nat.reduceAdd, Nat.reduceLeDiff, Nat.zero_add, Nat.add_zero, ↓reduceIte, Bool.not_true, Bool.not_false, decide_true, decide_false, eq_self, bne_self_eq_false, List.getElem?_cons_zero, List.getElem?_cons_succ, decide_eq_true_eq, Bool.false_eq_true, Bool.true_eq_false, reduceCtorEq, Nat.le_refl, z0, z1, z2, e1, c1', e2]
        exact ⟨_, _, _, rfl, o2, w2, f2⟩
set_option maxHeartbeats 1000000 in
theorem sWithdraw_c (hS10 : Has F tS10) (hf : h.floor ≤ h.next) (w : SlR 11 (Fl Account.enc) h x xs fp) (id m : Int) (hm : 0 ≤ m ∧ m ≤ 18446744073709551615) (hok : ∀ t, t ∈ xs → t.Ok) (sm : xs.length ≤ 1048576) :
    ∃ y h' fq, call F Z 326 [.agg [x], .c (.int .u64 id), .c (.int .u64 m)] h = some (.tup [.agg [y], .c (.int .i64 (bookDo xs id (witF m)).2)], h') ∧ On h h' ∧ SlR 11 (Fl Account.enc) h' y (bookDo xs id (witF m)).1 fq ∧ Fre h fq := by
  have e1 := l10Of_run (Z := Z) hS10 w id 1 hok
  obtain ⟨y, h2, fq, e2, o2, w2, f2⟩ := l10Copy_c (Z := Z) hS10 hf w sm
  have z0 : ((0 : Int) != 0) = false := rfl
  have z1 : ((1 : Int) != 0) = true := rfl
  have z2 : ((2 : Int) != 0) = true := rfl
  rw [call_run F Z (hS10.lk (g := 326) rfl) _ _ rfl]
  cases hb : bookOk xs with
  | false =>
    rw [of_bad hb] at e1
    rw [do_bad hb]
    simp only [Account.enc, Account.none_] at e1
    simp only [run0, run1, run2, run3, run4, noSlot, ownS, ownK, memN, RO.dst, lk, drop, forget, number, Nat.reduceBEq, cut?, splice?, builds, List.length_cons, List.length_nil, List.drop_succ_cons, List.drop_zero, List.take_succ_cons, List.take_zero, List.cons_append, List.nil_append, List.append_nil, List.drop_nil, List.take_nil, Nat.reduceAdd, Nat.reduceLeDiff, Nat.zero_add, Nat.add_zero, ↓reduceIte, Bool.not_true, Bool.not_false, decide_true, decide_false, eq_self, bne_self_eq_false, List.getElem?_cons_zero, List.getElem?_cons_succ, decide_eq_true_eq, Bool.false_eq_true, Bool.true_eq_false, reduceCtorEq, Nat.le_refl, z0, z1, z2, e1, e2]
    exact ⟨_, _, _, rfl, o2, w2, f2⟩
  | true =>
    have ht : ¬ (1 : Int) < 1 := by omega
    rcases acc_found hb id with ⟨q1, _⟩ | ⟨i, q1, _, _, hi, q5⟩
    · rw [of_none hb ht q1] at e1
      rw [do_none hb q1]
      simp only [Account.enc, Account.none_] at e1
      simp only [run0, run1, run2, run3, run4, noSlot, ownS, ownK, memN, RO.dst, lk, drop, forget, number, Nat.reduceBEq, cut?, splice?, builds, List.length_cons, List.length_nil, List.drop_succ_cons, List.drop_zero, List.take_succ_cons, List.take_zero, List.cons_append, List.nil_append, List.append_nil, List.drop_nil, List.take_nil, Nat.reduceAdd, Nat.reduceLeDiff, Nat.zero_add, Nat.add_zero, ↓reduceIte, Bool.not_true, Bool.not_false, decide_true, decide_false, eq_self, bne_self_eq_false, List.getElem?_cons_zero, List.getElem?_cons_succ, decide_eq_true_eq, Bool.false_eq_true, Bool.true_eq_false, reduceCtorEq, Nat.le_refl, z0, z1, z2, e1, e2]
      exact ⟨_, _, _, rfl, o2, w2, f2⟩
    · rw [of_at hb ht q1] at e1
      rw [do_at hb q1]
      have hbal := (hok _ (List.getElem_mem hi)).bal
      rw [Account.at_get hi] at e1 ⊢
      obtain ⟨z, h3, fr, e3, o3, w3, f3⟩ := l10With_c (Z := Z) hS10 hf w sm ⟨xs[i].id, xs[i].bal - m, xs[i].hold, xs[i].due, xs[i].tx⟩
      rw [with_set hb hi (a := ⟨xs[i].id, xs[i].bal - m, xs[i].hold, xs[i].due, xs[i].tx⟩) rfl] at w3
      have hws : IntKind.u64.wrap (18446744073709551615 - xs[i].bal) = 18446744073709551615 - xs[i].bal := wrapU _ (by omega) (by omega)
      simp only [Account.enc] at e1 e3
      generalize xs[i] = a at *
      by_cases c1 : a.tx = 0
      · have c1' : (a.tx != 0) = false := by simpa using c1
        by_cases c2 : m ≤ a.bal
        · have hd : witF m a = (0, { a with bal := a.bal - m }) := by simp [witF, c1, c2]
          have htx : (a.tx == -1) = false := by simp [c1]
          have hw : IntKind.u64.wrap (a.bal - m) = a.bal - m := wrapU _ (by omega) (by omega)
          have c3 : ¬ m > a.bal := by omega
          rw [hd]
          simp only [beq_self_eq_true, cond_true, htx, cond_false]
          simp only [run0, run1, run2, run3, run4, noSlot, ownS, ownK, memN, RO.dst, lk, drop, forget, number, Nat.reduceBEq, cut?, splice?, builds, List.length_cons, List.length_nil, List.drop_succ_cons, List.drop_zero, List.take_succ_cons, List.take_zero, List.cons_append, List.nil_append, List.append_nil, List.drop_nil, List.take_nil, Nat.reduceAdd, Nat.reduceLeDiff, Nat.zero_add, Nat.add_zero, ↓reduceIte, Bool.not_true, Bool.not_false, decide_true, decide_false, eq_self, bne_self_eq_false, List.getElem?_cons_zero, List.getElem?_cons_succ, decide_eq_true_eq, Bool.false_eq_true, Bool.true_eq_false, reduceCtorEq, Nat.le_refl, z0, z1, z2, e1, hws, hw, c1', c3, e3]
          exact ⟨_, _, _, rfl, o3, w3, f3⟩
        · have hd : witF m a = (4, a) := by simp [witF, c1, c2]
          have c3 : m > a.bal := by omega
          rw [hd]
          have h0 : ((4 : Int) == 0) = false := rfl
          simp only [h0, cond_false]
          simp only [run0, run1, run2, run3, run4, noSlot, ownS, ownK, memN, RO.dst, lk, drop, forget, number, Nat.reduceBEq, cut?, splice?, builds, List.length_cons, List.length_nil, List.drop_succ_cons, List.drop_zero, List.take_succ_cons, List.take_zero, List.cons_append, List.nil_append, List.append_nil, List.drop_nil, List.take_nil, Nat.reduceAdd, Nat.reduceLeDiff, Nat.zero_add, Nat.add_zero, ↓reduceIte, Bool.not_true, Bool.not_false, decide_true, decide_false, eq_self, bne_self_eq_false, List.getElem?_cons_zero, List.getElem?_cons_succ, decide_eq_true_eq, Bool.false_eq_true, Bool.true_eq_false, reduceCtorEq, Nat.le_refl, z0, z1, z2, e1, hws, c1', c3, e2]
          exact ⟨_, _, _, rfl, o2, w2, f2⟩
      · have c1' : (a.tx != 0) = true := by simpa using c1
        have hd : witF m a = (6, a) := by simp [witF, c1]
        rw [hd]
        have h0 : ((6 : Int) == 0) = false := rfl
        simp only [h0, cond_false]
        simp only [run0, run1, run2, run3, run4, noSlot, ownS, ownK, memN, RO.dst, lk, drop, forget, number, Nat.reduceBEq, cut?, splice?, builds, List.length_cons, List.length_nil, List.drop_succ_cons, List.drop_zero, List.take_succ_cons, List.take_zero, List.cons_append, List.nil_append, List.append_nil, List.drop_nil, List.take_nil, Nat.reduceAdd, Nat.reduceLeDiff, Nat.zero_add, Nat.add_zero, ↓reduceIte, Bool.not_true, Bool.not_false, decide_true, decide_false, eq_self, bne_self_eq_false, List.getElem?_cons_zero, List.getElem?_cons_succ, decide_eq_true_eq, Bool.false_eq_true, Bool.true_eq_false, reduceCtorEq, Nat.le_refl, z0, z1, z2, e1, c1', e2]
        exact ⟨_, _, _, rfl, o2, w2, f2⟩
theorem filter_erase (g : bookOk xs = true) {i : Nat} (hi : i < xs.length) : xs.filter (fun b => b.id != xs[i].id) = xs.eraseIdx i := by
  have e : xs = xs.take i ++ xs[i] :: xs.drop (i + 1) := by rw [← List.drop_eq_getElem_cons hi, List.take_append_drop]
  rw [List.eraseIdx_eq_take_drop_succ]
  generalize hk : xs[i].id = k
  conv => lhs; rw [e]
  rw [List.filter_append, List.filter_cons_of_neg (by simp [hk])]
  congr 1
  · rw [List.filter_eq_self]
    intro b hb
    obtain ⟨j, hj, rfl⟩ := List.mem_iff_getElem.1 hb
    rw [List.length_take] at hj
    rw [List.getElem_take]
    have := book_lt g hi (i := j) (by omega)
    simp; omega
  · rw [List.filter_eq_self]
    intro b hb
    obtain ⟨j, hj, rfl⟩ := List.mem_iff_getElem.1 hb
    rw [List.length_drop] at hj
    rw [List.getElem_drop]
    have := book_lt g (i := i) (j := i + 1 + j) (by omega) (by omega)
    simp; omega
set_option maxHeartbeats 2000000 in
theorem sCloseAccount_c (hS10 : Has F tS10) (hf : h.floor ≤ h.next) (w : SlR 11 (Fl Account.enc) h x xs fp) (id : Int) (hok : ∀ t, t ∈ xs → t.Ok) (sm : xs.length ≤ 1048576) :
    ∃ y h' fq, call F Z 324 [.agg [x], .c (.int .u64 id)] h = some (.tup [.agg [y], .c (.int .i64 (bookDo xs id closeF).2)], h') ∧ On h h' ∧ SlR 11 (Fl Account.enc) h' y (bookDo xs id closeF).1 fq ∧ Fre h fq := by
  have e1 := l10Of_run (Z := Z) hS10 w id 1 hok
  obtain ⟨y, h2, fq, e2, o2, w2, f2⟩ := l10Copy_c (Z := Z) hS10 hf w sm
  have z0 : ((0 : Int) != 0) = false := rfl
  have z1 : ((1 : Int) != 0) = true := rfl
  have z2 : ((2 : Int) != 0) = true := rfl
  have hle := w.le2
  have hwl := w.len
  rw [call_run F Z (hS10.lk (g := 324) rfl) _ _ rfl]
  cases hb : bookOk xs with
  | false =>
    rw [of_bad hb] at e1
    rw [do_bad hb]
    simp only [Account.enc, Account.none_] at e1
    simp only [run0, run1, run2, run3, run4, noSlot, ownS, ownK, memN, RO.dst, lk, drop, forget, number, Nat.reduceBEq, cut?, splice?, builds, List.length_cons, List.length_nil, List.drop_succ_cons, List.drop_zero, List.take_succ_cons, List.take_zero, List.cons_append, List.nil_append, List.append_nil, List.drop_nil, List.take_nil, Nat.reduceAdd, Nat.reduceLeDiff, Nat.zero_add, Nat.add_zero, ↓reduceIte, Bool.not_true, Bool.not_false, decide_true, decide_false, eq_self, bne_self_eq_false, List.getElem?_cons_zero, List.getElem?_cons_succ, decide_eq_true_eq, Bool.false_eq_true, Bool.true_eq_false, reduceCtorEq, Nat.le_refl, z0, z1, z2, e1, e2]
    exact ⟨_, _, _, rfl, o2, w2, f2⟩
  | true =>
    have ht : ¬ (1 : Int) < 1 := by omega
    rcases acc_found hb id with ⟨q1, _⟩ | ⟨i, q1, _, _, hi, q5⟩
    · rw [of_none hb ht q1] at e1
      rw [do_none hb q1]
      simp only [Account.enc, Account.none_] at e1
      simp only [run0, run1, run2, run3, run4, noSlot, ownS, ownK, memN, RO.dst, lk, drop, forget, number, Nat.reduceBEq, cut?, splice?, builds, List.length_cons, List.length_nil, List.drop_succ_cons, List.drop_zero, List.take_succ_cons, List.take_zero, List.cons_append, List.nil_append, List.append_nil, List.drop_nil, List.take_nil, Nat.reduceAdd, Nat.reduceLeDiff, Nat.zero_add, Nat.add_zero, ↓reduceIte, Bool.not_true, Bool.not_false, decide_true, decide_false, eq_self, bne_self_eq_false, List.getElem?_cons_zero, List.getElem?_cons_succ, decide_eq_true_eq, Bool.false_eq_true, Bool.true_eq_false, reduceCtorEq, Nat.le_refl, z0, z1, z2, e1, e2]
      exact ⟨_, _, _, rfl, o2, w2, f2⟩
    · rw [of_at hb ht q1] at e1
      rw [do_at hb q1]
      have hfe := filter_erase hb hi
      rw [Account.at_get hi] at e1 q5 ⊢
      rw [q5] at hfe
      simp only [Account.enc] at e1
      generalize xs[i] = a at *
      by_cases c1 : a.tx = 0
      · have c1' : (a.tx != 0) = false := by simpa using c1
        by_cases c2 : a.bal = 0
        · have c2' : (a.bal != 0) = false := by simpa using c2
          have hd : closeF a = (0, { a with tx := -1 }) := by simp [closeF, c1, c2]
          rw [hd]
          simp only [beq_self_eq_true, cond_true]
          simp only [run0, run1, run2, run3, run4, noSlot, ownS, ownK, memN, RO.dst, lk, drop, forget, number, Nat.reduceBEq, cut?, splice?, builds, List.length_cons, List.length_nil, List.drop_succ_cons, List.drop_zero, List.take_succ_cons, List.take_zero, List.cons_append, List.nil_append, List.append_nil, List.drop_nil, List.take_nil, Nat.reduceAdd, Nat.reduceLeDiff, Nat.zero_add, Nat.add_zero, ↓reduceIte, Bool.not_true, Bool.not_false, decide_true, decide_false, eq_self, bne_self_eq_false, List.getElem?_cons_zero, List.getElem?_cons_succ, decide_eq_true_eq, Bool.false_eq_true, Bool.true_eq_false, reduceCtorEq, Nat.le_refl, z0, z1, z2, e1, c1', c2']
          obtain ⟨s', ⟨y, g, hs, ac⟩, lp⟩ := loop_goes (F := F) (Z := Z) (live := [1, 2, 4, 8, 9]) (b := r324L0) xs.length (fun i st => ∃ y g, st = ⟨[(1, .c (.int .u64 id)), (9, .c (.int .i64 (i : Nat)))], [(2, 2, 0), (4, 4, 0), (8, 8, 0)], [(2, [x]), (4, [.nil]), (8, [y])], g⟩ ∧ Acc 11 h g y (((xs.take i).filter (fun b => b.id != id)).map Account.enc)) (fun i st hi' ⟨y, g, hs, ac⟩ => by
            subst hs
            have hlt : (i : Int) < xs.length := by omega
            have hws := wrapS i (by omega)
            have hxi := w.idx hi'
            have hld := (w.on (Fl.ok _) ac.on).load hi'
            have hfn := filter_next (fun b : Account => b.id != id) hi'
            have hfl := filter_len (fun b : Account => b.id != id) xs i
            rw [loop_run]
            conv in (codeF _ _ r324L0 _) => unfold r324L0
            generalize xs[i] = b at *
            simp only [Account.enc] at hld
            cases c : (b.id != id) with
            | true =>
              rw [c] at hfn
              have e3 := ac.one_eq hf (bytes := 40) (by rw [List.length_map]; omega) b.enc
              have a2 := ac.one hf (by rw [List.length_map]; omega) b.enc
              rw [show ((xs.take i).filter (fun b => b.id != id)).map Account.enc ++ [b.enc] = ((xs.take (i + 1)).filter (fun b => b.id != id)).map Account.enc from by rw [hfn]; simp] at a2
              simp only [Account.enc] at e3 a2
              simp only [run0, run1, run2, run3, run4, noSlot, ownS, ownK, memN, RO.dst, lk, drop, forget, number, Nat.reduceBEq, cut?, splice?, builds, List.length_cons, List.length_nil, List.drop_succ_cons, List.drop_zero, List.take_succ_cons, List.take_zero, List.cons_append, List.nil_append, List.append_nil, List.drop_nil, List.take_nil, Nat.reduceAdd, Nat.reduceLeDiff, Nat.zero_add, Nat.add_zero, ↓reduceIte, Bool.not_true, Bool.not_false, decide_true, decide_false, eq_self, bne_self_eq_false, List.getElem?_cons_zero, List.getElem?_cons_succ, decide_eq_true_eq, Bool.false_eq_true, Bool.true_eq_false, reduceCtorEq, Nat.le_refl, hwl, hlt, hxi, hld, c, List.replicate_succ, List.replicate_zero, fills, and_self, Nat.zero_lt_one, List.set_cons_zero, e3, hws, Account.enc]
              exact ⟨_, ⟨_, _, rfl, a2⟩, rfl⟩
            | false =>
              rw [c] at hfn
              rw [show (xs.take i).filter (fun b => b.id != id) = (xs.take (i + 1)).filter (fun b => b.id != id) from by rw [hfn]; simp] at ac
              simp only [run0, run1, run2, run3, run4, noSlot, ownS, ownK, memN, RO.dst, lk, drop, forget, number, Nat.reduceBEq, cut?, splice?, builds, List.length_cons, List.length_nil, List.drop_succ_cons, List.drop_zero, List.take_succ_cons, List.take_zero, List.cons_append, List.nil_append, List.append_nil, List.drop_nil, List.take_nil, Nat.reduceAdd, Nat.reduceLeDiff, Nat.zero_add, Nat.add_zero, ↓reduceIte, Bool.not_true, Bool.not_false, decide_true, decide_false, eq_self, bne_self_eq_false, List.getElem?_cons_zero, List.getElem?_cons_succ, decide_eq_true_eq, Bool.false_eq_true, Bool.true_eq_false, reduceCtorEq, Nat.le_refl, hwl, hlt, hxi, hld, c, hws]
              exact ⟨_, ⟨_, _, rfl, ac⟩, rfl⟩) (s := ⟨[(1, .c (.int .u64 id)), (9, .c (.int .i64 (0 : Nat)))], [(2, 2, 0), (4, 4, 0), (8, 8, 0)], [(2, [x]), (4, [.nil]), (8, [.nil])], h⟩) ⟨_, _, rfl, by simpa using Acc.nil 11 h⟩
          subst hs
          rw [List.take_length, hfe] at ac
          obtain ⟨o3, fr, w3, f3⟩ := ac.flat (enc := Account.enc)
          simp only [show ((0 : Nat) : Int) = 0 from rfl] at lp
          have hlt : ¬ (xs.length : Int) < xs.length := by omega
          rw [lp, loop_run]
          conv in (codeF _ _ r324L0 _) => unfold r324L0
          simp only [run0, run1, run2, run3, run4, noSlot, ownS, ownK, memN, RO.dst, lk, drop, forget, number, Nat.reduceBEq, cut?, splice?, builds, List.length_cons, List.length_nil, List.drop_succ_cons, List.drop_zero, List.take_succ_cons, List.take_zero, List.cons_append, List.nil_append, List.append_nil, List.drop_nil, List.take_nil, Nat.reduceAdd, Nat.reduceLeDiff, Nat.zero_add, Nat.add_zero, ↓reduceIte, Bool.not_true, Bool.not_false, decide_true, decide_false, eq_self, bne_self_eq_false, List.getElem?_cons_zero, List.getElem?_cons_succ, decide_eq_true_eq, Bool.false_eq_true, Bool.true_eq_false, reduceCtorEq, Nat.le_refl, hwl, hlt]
          exact ⟨_, _, _, rfl, o3, w3, f3⟩
        · have c2' : (a.bal != 0) = true := by simpa using c2
          have hd : closeF a = (4, a) := by simp [closeF, c1, c2]
          rw [hd]
          have h0 : ((4 : Int) == 0) = false := rfl
          simp only [h0, cond_false]
          simp only [run0, run1, run2, run3, run4, noSlot, ownS, ownK, memN, RO.dst, lk, drop, forget, number, Nat.reduceBEq, cut?, splice?, builds, List.length_cons, List.length_nil, List.drop_succ_cons, List.drop_zero, List.take_succ_cons, List.take_zero, List.cons_append, List.nil_append, List.append_nil, List.drop_nil, List.take_nil, Nat.reduceAdd, Nat.reduceLeDiff, Nat.zero_add, Nat.add_zero, ↓reduceIte, Bool.not_true, Bool.not_false, decide_true, decide_false, eq_self, bne_self_eq_false, List.getElem?_cons_zero, List.getElem?_cons_succ, decide_eq_true_eq, Bool.false_eq_true, Bool.true_eq_false, reduceCtorEq, Nat.le_refl, z0, z1, z2, e1, c1', c2', e2]
          exact ⟨_, _, _, rfl, o2, w2, f2⟩
      · have c1' : (a.tx != 0) = true := by simpa using c1
        have hd : closeF a = (6, a) := by simp [closeF, c1]
        rw [hd]
        have h0 : ((6 : Int) == 0) = false := rfl
        simp only [h0, cond_false]
        simp only [run0, run1, run2, run3, run4, noSlot, ownS, ownK, memN, RO.dst, lk, drop, forget, number, Nat.reduceBEq, cut?, splice?, builds, List.length_cons, List.length_nil, List.drop_succ_cons, List.drop_zero, List.take_succ_cons, List.take_zero, List.cons_append, List.nil_append, List.append_nil, List.drop_nil, List.take_nil, Nat.reduceAdd, Nat.reduceLeDiff, Nat.zero_add, Nat.add_zero, ↓reduceIte, Bool.not_true, Bool.not_false, decide_true, decide_false, eq_self, bne_self_eq_false, List.getElem?_cons_zero, List.getElem?_cons_succ, decide_eq_true_eq, Bool.false_eq_true, Bool.true_eq_false, reduceCtorEq, Nat.le_refl, z0, z1, z2, e1, c1', e2]
        exact ⟨_, _, _, rfl, o2, w2, f2⟩
end
end Go.Proofs.Ytcdlbjomdokmiaa.A
/- Accounts are opened, and money is moved. -/
namespace Go.Proofs.Ytcdlbjomdokmiaa.A
open Go
set_option linter.unusedSimpArgs false
set_option linter.unusedVariables false
def Account.new (id : Int) : Account := ⟨id, 0, 0, 0, 0⟩
def plusAcc (xs : List Account) (id : Int) : List Account := xs.take (accGo xs id) ++ [Account.new id] ++ xs.drop (accGo xs id)
def openBook (xs : List Account) (id : Int) : List Account × Int := bif bookOk xs then (bif decide (0 ≤ accAt xs id) then (xs, 3) else (bif (xs.length : Int) == 40 then (xs, 1) else (plusAcc xs id, 0))) else (xs, 1)
section
variable {xs : List Account} {id : Int}
theorem open_bad (h : bookOk xs = false) : openBook xs id = (xs, 1) := by simp [openBook, h]
theorem open_there (h : bookOk xs = true) {i : Nat} (h2 : accAt xs id = (i : Int)) : openBook xs id = (xs, 3) := by simp [openBook, h, h2]
theorem open_full (h : bookOk xs = true) (h2 : accAt xs id = -1) (h3 : ((xs.length : Int) == 40) = true) : openBook xs id = (xs, 1) := by simp [openBook, h, h2, h3]
theorem open_new (h : bookOk xs = true) (h2 : accAt xs id = -1) (h3 : ((xs.length : Int) == 40) = false) : openBook xs id = (plusAcc xs id, 0) := by simp [openBook, h, h2, h3]
theorem plusAcc_len (xs : List Account) (id : Int) : (plusAcc xs id).length = xs.length + 1 := by
  have := accGo_le xs id
  simp only [plusAcc, List.length_append, List.length_take, List.length_drop, List.length_cons, List.length_nil]; omega
theorem openBook_len : (openBook xs id).1.length ≤ xs.length + 1 := by
  unfold openBook
  cases bookOk xs <;> simp only [cond_true, cond_false]
  · omega
  cases decide (0 ≤ accAt xs id) <;> simp only [cond_true, cond_false]
  · cases ((xs.length : Int) == 40) <;> simp only [cond_true, cond_false]
    · rw [plusAcc_len]; exact Nat.le_refl _
    · omega
  · omega
/-- An id that no account has: those before it, and those behind it. -/
theorem acc_gt (g : bookOk xs = true) (hn : accAt xs id = -1) {i : Nat} (hi : i < xs.length) : xs[i].id > id ↔ accGo xs id ≤ i := by
  have hne : xs[i].id ≠ id := fun hc => by
    rcases acc_found g id with ⟨_, h2⟩ | ⟨j, h1, _⟩
    · unfold accAt findI at hn
      split at hn
      · omega
      · rename_i hf
        rw [List.findIdx?_eq_none_iff] at hf
        have := hf _ (List.getElem_mem hi)
        simp [hc] at this
    · omega
  constructor
  · intro h
    rcases Nat.lt_or_ge i (accGo xs id) with h1 | h1
    · have := accGo_lt id xs i h1 hi; omega
    · exact h1
  · intro h
    have hk : accGo xs id < xs.length := by omega
    have h1 := accGo_end id xs hk
    rcases Nat.eq_or_lt_of_le h with h2 | h2
    · subst h2; omega
    · have := book_lt g hi h2; omega
theorem plusAcc_srt (g : bookOk xs = true) (hn : accAt xs id = -1) : Srt (plusAcc xs id) := by
  have hs := book_srt g
  have e : xs = xs.take (accGo xs id) ++ xs.drop (accGo xs id) := (List.take_append_drop _ _).symm
  have hs' := hs
  unfold Srt at hs' ⊢
  rw [e, List.pairwise_append] at hs'
  obtain ⟨h1, h2, h3⟩ := hs'
  unfold plusAcc
  rw [List.append_assoc, List.pairwise_append]
  refine ⟨h1, ?_, fun a ha b hb => ?_⟩
  · rw [List.singleton_append, List.pairwise_cons]
    refine ⟨fun b hb => ?_, h2⟩
    obtain ⟨j, hj, rfl⟩ := List.mem_iff_getElem.1 hb
    rw [List.length_drop] at hj
    rw [List.getElem_drop]
    have := (acc_gt g hn (i := accGo xs id + j) (by omega)).2 (by omega)
    simpa [Account.new] using this
  · rcases List.mem_append.1 hb with hb | hb
    · simp only [List.mem_singleton] at hb
      subst hb
      obtain ⟨j, hj, rfl⟩ := List.mem_iff_getElem.1 ha
      rw [List.length_take] at hj
      rw [List.getElem_take]
      exact accGo_lt id xs j (by omega) (by omega)
    · exact h3 a ha b hb
/-- One put in the course of a loop. -/
def lpart {α : Type} (xs : List α) (y : α) (k i : Nat) : List α := if k < i then xs.take k ++ [y] ++ (xs.take i).drop k else xs.take i
section
variable {α : Type} {zs : List α} {y : α}
theorem lpart_no {k i : Nat} (hi : i < zs.length) (h : ¬ k ≤ i) : lpart zs y k (i + 1) = lpart zs y k i ++ [zs[i]] := by
  simp only [lpart]
  rw [if_neg (by omega), if_neg (by omega), List.take_add_one, List.getElem?_eq_getElem hi]; rfl
theorem lpart_at {i : Nat} (hi : i < zs.length) : lpart zs y i (i + 1) = lpart zs y i i ++ [y] ++ [zs[i]] := by
  simp only [lpart]
  rw [if_pos (by omega), if_neg (by omega), List.take_add_one, List.getElem?_eq_getElem hi, List.drop_append_of_le_length (by rw [List.length_take]; omega), List.drop_eq_nil_of_le (by rw [List.length_take]; omega)]; rfl
theorem lpart_yes {k i : Nat} (hi : i < zs.length) (h : k < i) : lpart zs y k (i + 1) = lpart zs y k i ++ [zs[i]] := by
  simp only [lpart]
  rw [if_pos (by omega), if_pos h, List.take_add_one, List.getElem?_eq_getElem hi, List.drop_append_of_le_length (by rw [List.length_take]; omega), ← List.append_assoc]; rfl
theorem lpart_end {k : Nat} (h : k < zs.length) : lpart zs y k zs.length = zs.take k ++ [y] ++ zs.drop k := by
  simp only [lpart]; rw [if_pos h, List.take_length]
theorem lpart_last {k : Nat} (h : k = zs.length) : lpart zs y k zs.length ++ [y] = zs.take k ++ [y] ++ zs.drop k := by
  simp only [lpart]; subst h; rw [if_neg (by omega), List.take_length, List.drop_length, List.append_nil]
theorem lpart_len (zs : List α) (y : α) (k i : Nat) : (lpart zs y k i).length ≤ zs.length + 1 := by
  simp only [lpart]
  split <;> simp only [List.length_append, List.length_take, List.length_drop, List.length_cons, List.length_nil] <;> omega
end
end
section
variable {F : Nat → Option RF} {Z : CallF} {h : Heap} {x : Cell} {xs : List Account} {fp : List Nat}
set_option maxHeartbeats 1000000 in
theorem OpenAccount_c (hI10 : Has F tI10) (pr : PrimAt F Z 343 (insF 11 40)) (hf : h.floor ≤ h.next) (w : SlR 11 (Fl Account.enc) h x xs fp) (id : Int) (hok : ∀ t, t ∈ xs → t.Ok) (sm : xs.length ≤ 1048576) :
    ∃ y h' fq, call F Z 337 [.agg [x], .c (.int .u64 id)] h = some (.tup [.agg [y], .c (.int .i64 (openBook xs id).2)], h') ∧ On h h' ∧ SlR 11 (Fl Account.enc) h' y (openBook xs id).1 fq ∧ Fre h fq := by
  obtain ⟨y, h1, fq, e1, o1, w1, f1⟩ := copyBook_c (Z := Z) hI10 hf w sm
  have wx := w.on (Fl.ok _) o1
  have e2 := isBook_run (Z := Z) hI10 wx hok
  have e3 := accountOf_run (Z := Z) hI10 wx id
  have hwl := w.len
  rw [call_run F Z (hI10.lk (g := 337) rfl) _ _ rfl]
  cases hb : bookOk xs with
  | false =>
    rw [hb] at e2
    rw [open_bad hb]
    simp only [run0, run1, run2, run3, run4, noSlot, ownS, ownK, memN, RO.dst, lk, drop, forget, number, Nat.reduceBEq, cut?, splice?, builds, List.length_cons, List.length_nil, List.drop_succ_cons, List.drop_zero, List.take_succ_cons, List.take_zero, List.cons_append, List.nil_append, List.append_nil, List.drop_nil, List.take_nil, Nat.reduceAdd, Nat.reduceLeDiff, Nat.zero_add, Nat.add_zero, ↓reduceIte, Bool.not_true, Bool.not_false, decide_true, decide_false, eq_self, bne_self_eq_false, List.getElem?_cons_zero, List.getElem?_cons_succ, decide_eq_true_eq, Bool.false_eq_true, Bool.true_eq_false, reduceCtorEq, Nat.le_refl, e1, e2, e3]
    exact ⟨_, _, _, rfl, o1, w1, f1⟩
  | true =>
    rw [hb] at e2
    rcases acc_found hb id with ⟨q1, q2⟩ | ⟨i, q1, q2, q3, hi, q5⟩
    · rw [q2] at e3
      cases c3 : ((xs.length : Int) == 40) with
      | true =>
        rw [open_full hb q1 c3]
        simp only [run0, run1, run2, run3, run4, noSlot, ownS, ownK, memN, RO.dst, lk, drop, forget, number, Nat.reduceBEq, cut?, splice?, builds, List.length_cons, List.length_nil, List.drop_succ_cons, List.drop_zero, List.take_succ_cons, List.take_zero, List.cons_append, List.nil_append, List.append_nil, List.drop_nil, List.take_nil, Nat.reduceAdd, Nat.reduceLeDiff, Nat.zero_add, Nat.add_zero, ↓reduceIte, Bool.not_true, Bool.not_false, decide_true, decide_false, eq_self, bne_self_eq_false, List.getElem?_cons_zero, List.getElem?_cons_succ, decide_eq_true_eq, Bool.false_eq_true, Bool.true_eq_false, reduceCtorEq, Nat.le_refl, e1, e2, e3, hwl, c3]
        exact ⟨_, _, _, rfl, o1, w1, f1⟩
      | false =>
        rw [open_new hb q1 c3]
        obtain ⟨L, ndL⟩ := SlR.lit1 (tag := 11) (Fl.ok Account.enc) (h := h1) (cs := (Account.new id).enc) (t := Account.new id) (fp := []) ⟨rfl, rfl⟩ List.nodup_nil
        have o2 := On.push h1 [(Account.new id).enc]
        have w2 := w1.on (Fl.ok _) o2
        have hlt : ∀ j, j ∈ fq → j < h1.next := w1.lt (Fl.ok _)
        have hle := book_len hb
        obtain ⟨z, g, fr, e4, w4, re⟩ := w2.ins (Fl.ok _) f1.nd (f1.own (o1.trans o2) hf) L ndL (fun j hj => by simp only [List.mem_singleton] at hj; subst hj; rw [o2.fl]; exact o1.le hf) (fun j h2 h3 => by simp only [List.mem_singleton] at h2; have := hlt j h3; omega) (by simp) (bytes := 40) (by simp; omega) (by simp [maxLen]; omega) (accGo_le xs id)
        have fA : Fre h (fq ++ [h1.next]) := ⟨fun j hj => by
          rcases List.mem_append.1 hj with h2 | h2
          · exact f1.lo j h2
          · simp only [List.mem_singleton] at h2; subst h2; exact o1.ext.1, List.nodup_append.2 ⟨f1.nd, by simp, fun a ha b hb e => by simp only [List.mem_singleton] at hb; have := hlt a ha; omega⟩⟩
        simp only [Account.enc, Account.new] at e4
        simp only [run0, run1, run2, run3, run4, noSlot, ownS, ownK, memN, RO.dst, lk, drop, forget, number, Nat.reduceBEq, cut?, splice?, builds, List.length_cons, List.length_nil, List.drop_succ_cons, List.drop_zero, List.take_succ_cons, List.take_zero, List.cons_append, List.nil_append, List.append_nil, List.drop_nil, List.take_nil, Nat.reduceAdd, Nat.reduceLeDiff, Nat.zero_add, Nat.add_zero, ↓reduceIte, Bool.not_true, Bool.not_false, decide_true, decide_false, eq_self, bne_self_eq_false, List.getElem?_cons_zero, List.getElem?_cons_succ, decide_eq_true_eq, Bool.false_eq_true, Bool.true_eq_false, reduceCtorEq, Nat.le_refl, e1, e2, e3, hwl, c3, List.replicate_succ, List.replicate_zero, fills, and_self, Nat.zero_lt_one, List.set_cons_zero, pr _ _, e4]
        exact ⟨_, _, _, rfl, re.on (o1.trans o2) fA, w4, re.fre (o1.trans o2) fA⟩
    · rw [q2] at e3
      rw [open_there hb q1]
      simp only [run0, run1, run2, run3, run4, noSlot, ownS, ownK, memN, RO.dst, lk, drop, forget, number, Nat.reduceBEq, cut?, splice?, builds, List.length_cons, List.length_nil, List.drop_succ_cons, List.drop_zero, List.take_succ_cons, List.take_zero, List.cons_append, List.nil_append, List.append_nil, List.drop_nil, List.take_nil, Nat.reduceAdd, Nat.reduceLeDiff, Nat.zero_add, Nat.add_zero, ↓reduceIte, Bool.not_true, Bool.not_false, decide_true, decide_false, eq_self, bne_self_eq_false, List.getElem?_cons_zero, List.getElem?_cons_succ, decide_eq_true_eq, Bool.false_eq_true, Bool.true_eq_false, reduceCtorEq, Nat.le_refl, e1, e2, e3]
      exact ⟨_, _, _, rfl, o1, w1, f1⟩
set_option maxHeartbeats 2000000 in
theorem sOpenAccount_c (hS10 : Has F tS10) (hf : h.floor ≤ h.next) (w : SlR 11 (Fl Account.enc) h x xs fp) (id : Int) (hok : ∀ t, t ∈ xs → t.Ok) (sm : xs.length ≤ 1048576) :
    ∃ y h' fq, call F Z 323 [.agg [x], .c (.int .u64 id)] h = some (.tup [.agg [y], .c (.int .i64 (openBook xs id).2)], h') ∧ On h h' ∧ SlR 11 (Fl Account.enc) h' y (openBook xs id).1 fq ∧ Fre h fq := by
  obtain ⟨y, h1, fq, e1, o1, w1, f1⟩ := l10Copy_c (Z := Z) hS10 hf w sm
  have e2 := sBookOk_run (Z := Z) hS10 w hok
  have e3 := l10Find_run (Z := Z) hS10 w id
  have hwl := w.len
  have hle := w.le2
  rw [call_run F Z (hS10.lk (g := 323) rfl) _ _ rfl]
  cases hb : bookOk xs with
  | false =>
    rw [hb] at e2
    rw [open_bad hb]
    simp only [run0, run1, run2, run3, run4, noSlot, ownS, ownK, memN, RO.dst, lk, drop, forget, number, Nat.reduceBEq, cut?, splice?, builds, List.length_cons, List.length_nil, List.drop_succ_cons, List.drop_zero, List.take_succ_cons, List.take_zero, List.cons_append, List.nil_append, List.append_nil, List.drop_nil, List.take_nil, Nat.reduceAdd, Nat.reduceLeDiff, Nat.zero_add, Nat.add_zero, ↓reduceIte, Bool.not_true, Bool.not_false, decide_true, decide_false, eq_self, bne_self_eq_false, List.getElem?_cons_zero, List.getElem?_cons_succ, decide_eq_true_eq, Bool.false_eq_true, Bool.true_eq_false, reduceCtorEq, Nat.le_refl, e1, e2, e3]
    exact ⟨_, _, _, rfl, o1, w1, f1⟩
  | true =>
    rw [hb] at e2
    rcases acc_found hb id with ⟨q1, q2⟩ | ⟨i, q1, q2, q3, hi, q5⟩
    · rw [q1] at e3
      cases c3 : ((xs.length : Int) == 40) with
      | true =>
        rw [open_full hb q1 c3]
        simp only [run0, run1, run2, run3, run4, noSlot, ownS, ownK, memN, RO.dst, lk, drop, forget, number, Nat.reduceBEq, cut?, splice?, builds, List.length_cons, List.length_nil, List.drop_succ_cons, List.drop_zero, List.take_succ_cons, List.take_zero, List.cons_append, List.nil_append, List.append_nil, List.drop_nil, List.take_nil, Nat.reduceAdd, Nat.reduceLeDiff, Nat.zero_add, Nat.add_zero, ↓reduceIte, Bool.not_true, Bool.not_false, decide_true, decide_false, eq_self, bne_self_eq_false, List.getElem?_cons_zero, List.getElem?_cons_succ, decide_eq_true_eq, Bool.false_eq_true, Bool.true_eq_false, reduceCtorEq, Nat.le_refl, e1, e2, e3, hwl, c3, ge_iff_le, Int.reduceLE, Int.reduceNeg]
        exact ⟨_, _, _, rfl, o1, w1, f1⟩
      | false =>
        rw [open_new hb q1 c3]
        clear e1 o1 w1 f1
        simp only [run0, run1, run2, run3, run4, noSlot, ownS, ownK, memN, RO.dst, lk, drop, forget, number, Nat.reduceBEq, cut?, splice?, builds, List.length_cons, List.length_nil, List.drop_succ_cons, List.drop_zero, List.take_succ_cons, List.take_zero, List.cons_append, List.nil_append, List.append_nil, List.drop_nil, List.take_nil, Nat.reduceAdd, Nat.reduceLeDiff, Nat.zero_add, Nat.add_zero, ↓reduceIte, Bool.not_true, Bool.not_false, decide_true, decide_false, eq_self, bne_self_eq_false, List.getElem?_cons_zero, List.getElem?_cons_succ, decide_eq_true_eq, Bool.false_eq_true, Bool.true_eq_false, reduceCtorEq, Nat.le_refl, e2, e3, hwl, c3, ge_iff_le, Int.reduceLE, Int.reduceNeg]
        obtain ⟨s', ⟨y, g, hs, a⟩, lp⟩ := loop_goes (F := F) (Z := Z) (live := [1, 2, 4, 6, 7, 8]) (b := r323L0) xs.length (fun i st => ∃ y g, st = ⟨[(1, .c (.int .u64 id)), (7, .c (.bool (decide (accGo xs id < i)))), (8, .c (.int .i64 (i : Nat)))], [(2, 2, 0), (4, 4, 0), (6, 6, 0)], [(2, [x]), (4, [.nil]), (6, [y])], g⟩ ∧ Acc 11 h g y ((lpart xs (Account.new id) (accGo xs id) i).map Account.enc)) (fun i st hi ⟨y, g, hs, a⟩ => by
          subst hs
          have hlt : (i : Int) < xs.length := by omega
          have hws := wrapS i (by omega)
          have hxi := w.idx hi
          have hgt := acc_gt hb q1 hi
          have hpl := lpart_len xs (Account.new id) (accGo xs id) i
          have hld := (w.on (Fl.ok _) a.on).load hi
          rw [loop_run]
          conv in (codeF _ _ r323L0 _) => unfold r323L0
          by_cases hp : accGo xs id < i
          · have e3 := a.one_eq hf (bytes := 40) (by rw [List.length_map]; omega) xs[i].enc
            have a2 := a.one hf (by rw [List.length_map]; omega) xs[i].enc
            rw [show (lpart xs (Account.new id) (accGo xs id) i).map Account.enc ++ [xs[i].enc] = (lpart xs (Account.new id) (accGo xs id) (i + 1)).map Account.enc from by rw [lpart_yes hi hp]; simp] at a2
            have hd1 : decide (accGo xs id < i) = true := by simpa using hp
            have hd2 : decide (accGo xs id < i + 1) = true := by simp; omega
            simp only [Account.enc] at hld e3 a2
            simp only [run0, run1, run2, run3, run4, noSlot, ownS, ownK, memN, RO.dst, lk, drop, forget, number, Nat.reduceBEq, cut?, splice?, builds, List.length_cons, List.length_nil, List.drop_succ_cons, List.drop_zero, List.take_succ_cons, List.take_zero, List.cons_append, List.nil_append, List.append_nil, List.drop_nil, List.take_nil, Nat.reduceAdd, Nat.reduceLeDiff, Nat.zero_add, Nat.add_zero, ↓reduceIte, Bool.not_true, Bool.not_false, decide_true, decide_false, eq_self, bne_self_eq_false, List.getElem?_cons_zero, List.getElem?_cons_succ, decide_eq_true_eq, Bool.false_eq_true, Bool.true_eq_false, reduceCtorEq, Nat.le_refl, hwl, hlt, hxi, hd1, hd2, hld, List.replicate_succ, List.replicate_zero, fills, and_self, Nat.zero_lt_one, List.set_cons_zero, e3, hws, Account.enc]
            exact ⟨_, ⟨_, _, rfl, a2⟩, rfl⟩
          · have hd1 : decide (accGo xs id < i) = false := by simpa using hp
            by_cases hq : accGo xs id = i
            · have hgt' : xs[i].id > id := hgt.2 (by omega)
              have e3 := a.one_eq hf (bytes := 40) (by rw [List.length_map]; omega) (Account.new id).enc
              have a2 := a.one hf (by rw [List.length_map]; omega) (Account.new id).enc
              have hld2 := (w.on (Fl.ok _) a2.on).load hi
              have e4 := a2.one_eq hf (bytes := 40) (by simp; omega) xs[i].enc
              have a3 := a2.one hf (by simp; omega) xs[i].enc
              rw [show (lpart xs (Account.new id) (accGo xs id) i).map Account.enc ++ [(Account.new id).enc] ++ [xs[i].enc] = (lpart xs (Account.new id) (accGo xs id) (i + 1)).map Account.enc from by rw [hq, lpart_at hi]; simp] at a3
              have hd2 : decide (accGo xs id < i + 1) = true := by simp; omega
              simp only [Account.enc, Account.new] at hld hld2 e3 e4 a3
              simp only [run0, run1, run2, run3, run4, noSlot, ownS, ownK, memN, RO.dst, lk, drop, forget, number, Nat.reduceBEq, cut?, splice?, builds, List.length_cons, List.length_nil, List.drop_succ_cons, List.drop_zero, List.take_succ_cons, List.take_zero, List.cons_append, List.nil_append, List.append_nil, List.drop_nil, List.take_nil, Nat.reduceAdd, Nat.reduceLeDiff, Nat.zero_add, Nat.add_zero, ↓reduceIte, Bool.not_true, Bool.not_false, decide_true, decide_false, eq_self, bne_self_eq_false, List.getElem?_cons_zero, List.getElem?_cons_succ, decide_eq_true_eq, Bool.false_eq_true, Bool.true_eq_false, reduceCtorEq, Nat.le_refl, hwl, hlt, hxi, hd1, hd2, hld, hgt', List.replicate_succ, List.replicate_zero, fills, and_self, Nat.zero_lt_one, List.set_cons_zero, e3, hld2, e4, hws, Account.enc, Account.new]
              exact ⟨_, ⟨_, _, rfl, a3⟩, rfl⟩
            · have hgt' : ¬ xs[i].id > id := fun hc => by have := hgt.1 hc; omega
              have e3 := a.one_eq hf (bytes := 40) (by rw [List.length_map]; omega) xs[i].enc
              have a2 := a.one hf (by rw [List.length_map]; omega) xs[i].enc
              rw [show (lpart xs (Account.new id) (accGo xs id) i).map Account.enc ++ [xs[i].enc] = (lpart xs (Account.new id) (accGo xs id) (i + 1)).map Account.enc from by rw [lpart_no hi (by omega)]; simp] at a2
              have hd2 : decide (accGo xs id < i + 1) = false := by simp; omega
              simp only [Account.enc] at hld e3 a2
              simp only [run0, run1, run2, run3, run4, noSlot, ownS, ownK, memN, RO.dst, lk, drop, forget, number, Nat.reduceBEq, cut?, splice?, builds, List.length_cons, List.length_nil, List.drop_succ_cons, List.drop_zero, List.take_succ_cons, List.take_zero, List.cons_append, List.nil_append, List.append_nil, List.drop_nil, List.take_nil, Nat.reduceAdd, Nat.reduceLeDiff, Nat.zero_add, Nat.add_zero, ↓reduceIte, Bool.not_true, Bool.not_false, decide_true, decide_false, eq_self, bne_self_eq_false, List.getElem?_cons_zero, List.getElem?_cons_succ, decide_eq_true_eq, Bool.false_eq_true, Bool.true_eq_false, reduceCtorEq, Nat.le_refl, hwl, hlt, hxi, hd1, hd2, hld, hgt', List.replicate_succ, List.replicate_zero, fills, and_self, Nat.zero_lt_one, List.set_cons_zero, e3, hws, Account.enc]
              exact ⟨_, ⟨_, _, rfl, a2⟩, rfl⟩) (s := ⟨[(1, .c (.int .u64 id)), (7, .c (.bool false)), (8, .c (.int .i64 (0 : Nat)))], [(2, 2, 0), (4, 4, 0), (6, 6, 0)], [(2, [x]), (4, [.nil]), (6, [.nil])], h⟩) ⟨.nil, h, by simp, by simpa [lpart] using Acc.nil 11 h⟩
        subst hs
        simp only [show ((0 : Nat) : Int) = 0 from rfl] at lp
        have hlt : ¬ (xs.length : Int) < xs.length := by omega
        rw [lp, loop_run]
        conv in (codeF _ _ r323L0 _) => unfold r323L0
        by_cases hp : accGo xs id < xs.length
        · rw [lpart_end hp] at a
          obtain ⟨o3, fr, w3, f3⟩ := a.flat (enc := Account.enc)
          have hd1 : decide (accGo xs id < xs.length) = true := by simpa using hp
          simp only [run0, run1, run2, run3, run4, noSlot, ownS, ownK, memN, RO.dst, lk, drop, forget, number, Nat.reduceBEq, cut?, splice?, builds, List.length_cons, List.length_nil, List.drop_succ_cons, List.drop_zero, List.take_succ_cons, List.take_zero, List.cons_append, List.nil_append, List.append_nil, List.drop_nil, List.take_nil, Nat.reduceAdd, Nat.reduceLeDiff, Nat.zero_add, Nat.add_zero, ↓reduceIte, Bool.not_true, Bool.not_false, decide_true, decide_false, eq_self, bne_self_eq_false, List.getElem?_cons_zero, List.getElem?_cons_succ, decide_eq_true_eq, Bool.false_eq_true, Bool.true_eq_false, reduceCtorEq, Nat.le_refl, hwl, hlt, hd1]
          exact ⟨_, _, _, rfl, o3, w3, f3⟩
        · have hp' : accGo xs id = xs.length := by have := accGo_le xs id; omega
          have hpl := lpart_len xs (Account.new id) (accGo xs id) xs.length
          have hl40 := book_len hb
          have e3 := a.one_eq hf (bytes := 40) (by rw [List.length_map]; omega) (Account.new id).enc
          have a2 := a.one hf (by rw [List.length_map]; omega) (Account.new id).enc
          rw [show (lpart xs (Account.new id) (accGo xs id) xs.length).map Account.enc ++ [(Account.new id).enc] = (plusAcc xs id).map Account.enc from by rw [plusAcc, ← lpart_last hp']; simp] at a2
          obtain ⟨o3, fr, w3, f3⟩ := a2.flat (enc := Account.enc)
          have hd1 : decide (accGo xs id < xs.length) = false := by simpa using hp
          simp only [Account.enc, Account.new] at e3 o3 w3
          simp only [run0, run1, run2, run3, run4, noSlot, ownS, ownK, memN, RO.dst, lk, drop, forget, number, Nat.reduceBEq, cut?, splice?, builds, List.length_cons, List.length_nil, List.drop_succ_cons, List.drop_zero, List.take_succ_cons, List.take_zero, List.cons_append, List.nil_append, List.append_nil, List.drop_nil, List.take_nil, Nat.reduceAdd, Nat.reduceLeDiff, Nat.zero_add, Nat.add_zero, ↓reduceIte, Bool.not_true, Bool.not_false, decide_true, decide_false, eq_self, bne_self_eq_false, List.getElem?_cons_zero, List.getElem?_cons_succ, decide_eq_true_eq, Bool.false_eq_true, Bool.true_eq_false, reduceCtorEq, Nat.le_refl, hwl, hlt, hd1, List.replicate_succ, List.replicate_zero, fills, and_self, Nat.zero_lt_one, List.set_cons_zero, e3]
          exact ⟨_, _, _, rfl, o3, w3, f3⟩
    · rw [q1] at e3
      rw [open_there hb q1]
      have g0 : (i : Int) ≥ 0 := by omega
      simp only [run0, run1, run2, run3, run4, noSlot, ownS, ownK, memN, RO.dst, lk, drop, forget, number, Nat.reduceBEq, cut?, splice?, builds, List.length_cons, List.length_nil, List.drop_succ_cons, List.drop_zero, List.take_succ_cons, List.take_zero, List.cons_append, List.nil_append, List.append_nil, List.drop_nil, List.take_nil, Nat.reduceAdd, Nat.reduceLeDiff, Nat.zero_add, Nat.add_zero, ↓reduceIte, Bool.not_true, Bool.not_false, decide_true, decide_false, eq_self, bne_self_eq_false, List.getElem?_cons_zero, List.getElem?_cons_succ, decide_eq_true_eq, Bool.false_eq_true, Bool.true_eq_false, reduceCtorEq, Nat.le_refl, e1, e2, e3, g0]
      exact ⟨_, _, _, rfl, o1, w1, f1⟩
end
end Go.Proofs.Ytcdlbjomdokmiaa.A
/- Money is moved between two accounts. -/
namespace Go.Proofs.Ytcdlbjomdokmiaa.A
open Go
set_option linter.unusedSimpArgs false
set_option linter.unusedVariables false
def moveTo (xs : List Account) (i k : Nat) (m : Int) : List Account × Int :=
  if (Account.at_ xs i).tx = 0 ∧ (Account.at_ xs k).tx = 0 then (if m ≤ (Account.at_ xs i).bal then (if (Account.at_ xs k).bal + m ≤ 18446744073709551615 then
    ((xs.set i { Account.at_ xs i with bal := (Account.at_ xs i).bal - m }).set k { Account.at_ xs k with bal := (Account.at_ xs k).bal + m }, 0) else (xs, 5)) else (xs, 4)) else (xs, 6)
def moveBook (xs : List Account) (a b m : Int) : List Account × Int :=
  bif bookOk xs && !(a == b) then (bif decide (0 ≤ accAt xs a) && decide (0 ≤ accAt xs b) then moveTo xs (accAt xs a).toNat (accAt xs b).toNat m else (xs, 2)) else (xs, 1)
section
variable {xs : List Account} {a b m : Int}
theorem move_bad (h : bookOk xs = false) : moveBook xs a b m = (xs, 1) := by simp [moveBook, h]
theorem move_same (h : a = b) : moveBook xs a b m = (xs, 1) := by simp [moveBook, h]
theorem move_none (h : bookOk xs = true) (hab : ¬ a = b) (h2 : accAt xs a = -1 ∨ accAt xs b = -1) : moveBook xs a b m = (xs, 2) := by
  have h3 : (a == b) = false := by simpa using hab
  rcases h2 with h2 | h2 <;> simp [moveBook, h, h3, h2]
theorem move_at (h : bookOk xs = true) (hab : ¬ a = b) {i k : Nat} (h2 : accAt xs a = (i : Int)) (h3 : accAt xs b = (k : Int)) : moveBook xs a b m = moveTo xs i k m := by
  have h4 : (a == b) = false := by simpa using hab
  simp [moveBook, h, h4, h2, h3]
theorem moveBook_len : (moveBook xs a b m).1.length = xs.length := by
  unfold moveBook
  cases (bookOk xs && !(a == b)) <;> simp only [cond_true, cond_false]
  cases (decide (0 ≤ accAt xs a) && decide (0 ≤ accAt xs b)) <;> simp only [cond_true, cond_false]
  unfold moveTo
  split
  · split
    · split <;> simp
    · rfl
  · rfl
end
section
variable {F : Nat → Option RF} {Z : CallF} {h : Heap} {x : Cell} {xs : List Account} {fp : List Nat}
set_option maxHeartbeats 4000000 in
theorem MoveMoney_c (hI10 : Has F tI10) (hf : h.floor ≤ h.next) (w : SlR 11 (Fl Account.enc) h x xs fp) (a b m : Int) (hm : 0 ≤ m ∧ m ≤ 18446744073709551615) (hok : ∀ t, t ∈ xs → t.Ok) (sm : xs.length ≤ 1048576) :
    ∃ y h' fq, call F Z 341 [.agg [x], .c (.int .u64 a), .c (.int .u64 b), .c (.int .u64 m)] h = some (.tup [.agg [y], .c (.int .i64 (moveBook xs a b m).2)], h') ∧ On h h' ∧ SlR 11 (Fl Account.enc) h' y (moveBook xs a b m).1 fq ∧ Fre h fq := by
  obtain ⟨y, h1, fq, e1, o1, w1, f1⟩ := copyBook_c (Z := Z) hI10 hf w sm
  have wx := w.on (Fl.ok _) o1
  have e2 := isBook_run (Z := Z) hI10 wx hok
  have e3 := accountOf_run (Z := Z) hI10 wx a
  have e4 := accountOf_run (Z := Z) hI10 wx b
  rw [call_run F Z (hI10.lk (g := 341) rfl) _ _ rfl]
  cases hb : bookOk xs with
  | false =>
    rw [hb] at e2
    rw [move_bad hb]
    simp only [run0, run1, run2, run3, run4, noSlot, ownS, ownK, memN, RO.dst, lk, drop, forget, number, Nat.reduceBEq, cut?, splice?, builds, List.length_cons, List.length_nil, List.drop_succ_cons, List.drop_zero, List.take_succ_cons, List.take_zero, List.cons_append, List.nil_append, List.append_nil, List.drop_nil, List.take_nil, Nat.reduceAdd, Nat.reduceLeDiff, Nat.zero_add, Nat.add_zero, ↓reduceIte, Bool.not_true, Bool.not_false, decide_true, decide_false, eq_self, bne_self_eq_false, List.getElem?_cons_zero, List.getElem?_cons_succ, decide_eq_true_eq, Bool.false_eq_true, Bool.true_eq_false, reduceCtorEq, Nat.le_refl, e1, e2, e3, e4]
    exact ⟨_, _, _, rfl, o1, w1, f1⟩
  | true =>
    rw [hb] at e2
    by_cases hab : a = b
    · rw [move_same hab]
      have hab' : (a == b) = true := by simpa using hab
      simp only [run0, run1, run2, run3, run4, noSlot, ownS, ownK, memN, RO.dst, lk, drop, forget, number, Nat.reduceBEq, cut?, splice?, builds, List.length_cons, List.length_nil, List.drop_succ_cons, List.drop_zero, List.take_succ_cons, List.take_zero, List.cons_append, List.nil_append, List.append_nil, List.drop_nil, List.take_nil, Nat.reduceAdd, Nat.reduceLeDiff, Nat.zero_add, Nat.add_zero, ↓reduceIte, Bool.not_true, Bool.not_false, decide_true, decide_false, eq_self, bne_self_eq_false, List.getElem?_cons_zero, List.getElem?_cons_succ, decide_eq_true_eq, Bool.false_eq_true, Bool.true_eq_false, reduceCtorEq, Nat.le_refl, e1, e2, e3, e4, hab']
      exact ⟨_, _, _, rfl, o1, w1, f1⟩
    have hab' : (a == b) = false := by simpa using hab
    rcases acc_found hb a with ⟨q1, q2⟩ | ⟨i, q1, q2, q3, hi, q5⟩
    · rw [q2] at e3
      rw [move_none hb hab (.inl q1)]
      simp only [run0, run1, run2, run3, run4, noSlot, ownS, ownK, memN, RO.dst, lk, drop, forget, number, Nat.reduceBEq, cut?, splice?, builds, List.length_cons, List.length_nil, List.drop_succ_cons, List.drop_zero, List.take_succ_cons, List.take_zero, List.cons_append, List.nil_append, List.append_nil, List.drop_nil, List.take_nil, Nat.reduceAdd, Nat.reduceLeDiff, Nat.zero_add, Nat.add_zero, ↓reduceIte, Bool.not_true, Bool.not_false, decide_true, decide_false, eq_self, bne_self_eq_false, List.getElem?_cons_zero, List.getElem?_cons_succ, decide_eq_true_eq, Bool.false_eq_true, Bool.true_eq_false, reduceCtorEq, Nat.le_refl, e1, e2, e3, e4, hab']
      exact ⟨_, _, _, rfl, o1, w1, f1⟩
    rcases acc_found hb b with ⟨r1, r2⟩ | ⟨k, r1, r2, r3, hk, r5⟩
    · rw [q2] at e3
      rw [r2] at e4
      rw [move_none hb hab (.inr r1)]
      simp only [run0, run1, run2, run3, run4, noSlot, ownS, ownK, memN, RO.dst, lk, drop, forget, number, Nat.reduceBEq, cut?, splice?, builds, List.length_cons, List.length_nil, List.drop_succ_cons, List.drop_zero, List.take_succ_cons, List.take_zero, List.cons_append, List.nil_append, List.append_nil, List.drop_nil, List.take_nil, Nat.reduceAdd, Nat.reduceLeDiff, Nat.zero_add, Nat.add_zero, ↓reduceIte, Bool.not_true, Bool.not_false, decide_true, decide_false, eq_self, bne_self_eq_false, List.getElem?_cons_zero, List.getElem?_cons_succ, decide_eq_true_eq, Bool.false_eq_true, Bool.true_eq_false, reduceCtorEq, Nat.le_refl, e1, e2, e3, e4, hab']
      exact ⟨_, _, _, rfl, o1, w1, f1⟩
    rw [q2, q3] at e3
    rw [r2, r3] at e4
    rw [move_at hb hab q1 r1]
    have hik : i ≠ k := fun e => hab (by rw [← q5, ← r5, e])
    have hxi := wx.idx hi
    have hxk := wx.idx hk
    have hli := wx.load hi
    have hlk := wx.load hk
    have oki := (hok _ (List.getElem_mem hi)).bal
    have okk := (hok _ (List.getElem_mem hk)).bal
    unfold moveTo
    rw [Account.at_get hi, Account.at_get hk]
    simp only [Account.enc] at hli hlk
    by_cases c1 : xs[i].tx = 0
    case neg =>
      have c1' : (xs[i].tx != 0) = true := by simpa using c1
      rw [if_neg (fun hc => c1 hc.1)]
      simp only [run0, run1, run2, run3, run4, noSlot, ownS, ownK, memN, RO.dst, lk, drop, forget, number, Nat.reduceBEq, cut?, splice?, builds, List.length_cons, List.length_nil, List.drop_succ_cons, List.drop_zero, List.take_succ_cons, List.take_zero, List.cons_append, List.nil_append, List.append_nil, List.drop_nil, List.take_nil, Nat.reduceAdd, Nat.reduceLeDiff, Nat.zero_add, Nat.add_zero, ↓reduceIte, Bool.not_true, Bool.not_false, decide_true, decide_false, eq_self, bne_self_eq_false, List.getElem?_cons_zero, List.getElem?_cons_succ, decide_eq_true_eq, Bool.false_eq_true, Bool.true_eq_false, reduceCtorEq, Nat.le_refl, e1, e2, e3, e4, hab', hxi, hli, c1']
      exact ⟨_, _, _, rfl, o1, w1, f1⟩
    have c1' : (xs[i].tx != 0) = false := by simpa using c1
    by_cases c2 : xs[k].tx = 0
    case neg =>
      have c2' : (xs[k].tx != 0) = true := by simpa using c2
      rw [if_neg (fun hc => c2 hc.2)]
      simp only [run0, run1, run2, run3, run4, noSlot, ownS, ownK, memN, RO.dst, lk, drop, forget, number, Nat.reduceBEq, cut?, splice?, builds, List.length_cons, List.length_nil, List.drop_succ_cons, List.drop_zero, List.take_succ_cons, List.take_zero, List.cons_append, List.nil_append, List.append_nil, List.drop_nil, List.take_nil, Nat.reduceAdd, Nat.reduceLeDiff, Nat.zero_add, Nat.add_zero, ↓reduceIte, Bool.not_true, Bool.not_false, decide_true, decide_false, eq_self, bne_self_eq_false, List.getElem?_cons_zero, List.getElem?_cons_succ, decide_eq_true_eq, Bool.false_eq_true, Bool.true_eq_false, reduceCtorEq, Nat.le_refl, e1, e2, e3, e4, hab', hxi, hli, c1', hxk, hlk, c2']
      exact ⟨_, _, _, rfl, o1, w1, f1⟩
    have c2' : (xs[k].tx != 0) = false := by simpa using c2
    rw [if_pos ⟨c1, c2⟩]
    by_cases c3 : m ≤ xs[i].bal
    case neg =>
      have c3' : xs[i].bal < m := by omega
      rw [if_neg c3]
      simp only [run0, run1, run2, run3, run4, noSlot, ownS, ownK, memN, RO.dst, lk, drop, forget, number, Nat.reduceBEq, cut?, splice?, builds, List.length_cons, List.length_nil, List.drop_succ_cons, List.drop_zero, List.take_succ_cons, List.take_zero, List.cons_append, List.nil_append, List.append_nil, List.drop_nil, List.take_nil, Nat.reduceAdd, Nat.reduceLeDiff, Nat.zero_add, Nat.add_zero, ↓reduceIte, Bool.not_true, Bool.not_false, decide_true, decide_false, eq_self, bne_self_eq_false, List.getElem?_cons_zero, List.getElem?_cons_succ, decide_eq_true_eq, Bool.false_eq_true, Bool.true_eq_false, reduceCtorEq, Nat.le_refl, e1, e2, e3, e4, hab', hxi, hli, c1', hxk, hlk, c2', c3']
      exact ⟨_, _, _, rfl, o1, w1, f1⟩
    have c3' : ¬ xs[i].bal < m := by omega
    rw [if_pos c3]
    by_cases c4 : xs[k].bal + m ≤ 18446744073709551615
    case neg =>
      have hw := wrapOver xs[k].bal m okk hm c4
      have c4' : xs[k].bal + m - 18446744073709551616 < m := by omega
      rw [if_neg c4]
      simp only [run0, run1, run2, run3, run4, noSlot, ownS, ownK, memN, RO.dst, lk, drop, forget, number, Nat.reduceBEq, cut?, splice?, builds, List.length_cons, List.length_nil, List.drop_succ_cons, List.drop_zero, List.take_succ_cons, List.take_zero, List.cons_append, List.nil_append, List.append_nil, List.drop_nil, List.take_nil, Nat.reduceAdd, Nat.reduceLeDiff, Nat.zero_add, Nat.add_zero, ↓reduceIte, Bool.not_true, Bool.not_false, decide_true, decide_false, eq_self, bne_self_eq_false, List.getElem?_cons_zero, List.getElem?_cons_succ, decide_eq_true_eq, Bool.false_eq_true, Bool.true_eq_false, reduceCtorEq, Nat.le_refl, e1, e2, e3, e4, hab', hxi, hli, c1', hxk, hlk, c2', c3', hw, c4']
      exact ⟨_, _, _, rfl, o1, w1, f1⟩
    have hw : IntKind.u64.wrap (xs[k].bal + m) = xs[k].bal + m := wrapU _ (by omega) (by omega)
    have hv : IntKind.u64.wrap (xs[i].bal - m) = xs[i].bal - m := wrapU _ (by omega) (by omega)
    have c4' : ¬ xs[k].bal + m < m := by omega
    rw [if_pos c4]
    have hown : ∀ id, id ∈ fq → h1.floor ≤ id := f1.own o1 hf
    have hyi := w1.idx hi
    obtain ⟨r, f, rows, hR, hs, hld, hself, hst, hl2, fin⟩ := w1.putRow (Fl.ok _) f1.nd hown hi
    obtain ⟨rfl, rfl⟩ := hR
    have hst1 := hst xs[i].enc 1 [.int .u64 (xs[i].bal - m)]
    rw [hself] at hst1
    obtain ⟨u1, m1⟩ := fin (⟨xs[i].id, xs[i].bal - m, xs[i].hold, xs[i].due, xs[i].tx⟩ : Account).enc ⟨xs[i].id, xs[i].bal - m, xs[i].hold, xs[i].due, xs[i].tx⟩ ⟨rfl, rfl⟩
    clear hst hself hl2 fin
    simp only [Account.enc] at hst1 m1 hld
    generalize hg1 : h1.put y.sid (rows.set i [.int .u64 xs[i].id, .int .u64 (xs[i].bal - m), .int .u64 xs[i].hold, .int .u64 xs[i].due, .int .i64 xs[i].tx]) = g1 at *
    have u1' : SlR 11 (Fl Account.enc) g1 y (xs.set i ⟨xs[i].id, xs[i].bal - m, xs[i].hold, xs[i].due, xs[i].tx⟩) fq := by rw [← hg1]; exact u1
    have hk' : k < (xs.set i ⟨xs[i].id, xs[i].bal - m, xs[i].hold, xs[i].due, xs[i].tx⟩).length := by rw [List.length_set]; exact hk
    have hyk := u1'.idx hk'
    obtain ⟨r, f, rows2, hR, hs2, hld2, hself2, hst2, hl3, fin2⟩ := u1'.putRow (Fl.ok _) f1.nd (fun id hid => by rw [m1.fl]; exact hown id hid) hk'
    obtain ⟨rfl, rfl⟩ := hR
    rw [List.getElem_set_ne hik] at hld2 hself2
    have hst3 := hst2 xs[k].enc 1 [.int .u64 (xs[k].bal + m)]
    rw [hself2] at hst3
    obtain ⟨u2, m2⟩ := fin2 (⟨xs[k].id, xs[k].bal + m, xs[k].hold, xs[k].due, xs[k].tx⟩ : Account).enc ⟨xs[k].id, xs[k].bal + m, xs[k].hold, xs[k].due, xs[k].tx⟩ ⟨rfl, rfl⟩
    simp only [Account.enc] at hst3 hld2
    have hs1 : storeP h1 y.sid i 1 [.int .u64 (xs[i].bal - m)] = some g1 := by rw [hst1]; simp [splice?, putM_s, hg1]
    simp only [run0, run1, run2, run3, run4, noSlot, ownS, ownK, memN, RO.dst, lk, drop, forget, number, Nat.reduceBEq, cut?, splice?, builds, List.length_cons, List.length_nil, List.drop_succ_cons, List.drop_zero, List.take_succ_cons, List.take_zero, List.cons_append, List.nil_append, List.append_nil, List.drop_nil, List.take_nil, Nat.reduceAdd, Nat.reduceLeDiff, Nat.zero_add, Nat.add_zero, ↓reduceIte, Bool.not_true, Bool.not_false, decide_true, decide_false, eq_self, bne_self_eq_false, List.getElem?_cons_zero, List.getElem?_cons_succ, decide_eq_true_eq, Bool.false_eq_true, Bool.true_eq_false, reduceCtorEq, Nat.le_refl, e1, e2, e3, e4, hab', hxi, hli, c1', hxk, hlk, c2', c3', hw, c4', hyi, hld, hv, hs1, hyk, hld2, hst3, putM_s]
    exact ⟨_, _, _, rfl, o1.turned (m1.then m2) f1, u2, f1⟩
end
end Go.Proofs.Ytcdlbjomdokmiaa.A
/- The data of a LedgerCall, and its cells. -/
namespace Go.Proofs.Ytcdlbjomdokmiaa.A
open Go
set_option linter.unusedSimpArgs false
set_option linter.unusedVariables false
structure LedgerCall where
  kind : Int
  a : Int
  b : Int
  amount : Int
  deriving DecidableEq
namespace LedgerCall
def enc (t : LedgerCall) : List Cell := [.int .i64 t.kind, .int .u64 t.a, .int .u64 t.b, .int .u64 t.amount]
theorem len (t : LedgerCall) : t.enc.length = 4 := rfl
theorem tak (t : LedgerCall) : t.enc.take 4 = t.enc := rfl
def none_ : LedgerCall := ⟨0, 0, 0, 0⟩
/-- The numbers are those of the machine. -/
structure Ok (t : LedgerCall) : Prop where
  kind : -9223372036854775808 ≤ t.kind ∧ t.kind ≤ 9223372036854775807
  a : 0 ≤ t.a ∧ t.a ≤ 18446744073709551615
  b : 0 ≤ t.b ∧ t.b ≤ 18446744073709551615
  amount : 0 ≤ t.amount ∧ t.amount ≤ 18446744073709551615
end LedgerCall
theorem Wf.isLedgerCall {h : Heap} {n : Nat} {cs : List Cell} (w : Wf h (n + 2) shLedgerCall cs) : ∃ t : LedgerCall, cs = t.enc ∧ t.Ok := by
  obtain ⟨_, _, rfl, _, ⟨kind0, rfl, h0⟩, _, _, rfl, _, ⟨a0, rfl, h1⟩, _, _, rfl, _, ⟨b0, rfl, h2⟩, _, _, rfl, _, ⟨amount0, rfl, h3⟩, rfl⟩ := w
  exact ⟨⟨kind0, a0, b0, amount0⟩, rfl, ⟨wfI h0, wfU h1, wfU h2, wfU h3⟩⟩
end Go.Proofs.Ytcdlbjomdokmiaa.A
/- Money is moved between two accounts, the reference's way; deeds of a ledger. -/
namespace Go.Proofs.Ytcdlbjomdokmiaa.A
open Go
set_option linter.unusedSimpArgs false
set_option linter.unusedVariables false
section
variable {F : Nat → Option RF} {Z : CallF} {h : Heap} {x : Cell} {xs : List Account} {fp : List Nat}
theorem l10With_q (hS10 : Has F tS10) (w : SlR 11 (Fl Account.enc) h x xs fp) (sm : xs.length ≤ 1048576) (a : Account) :
    ∃ y h' g fq, call F Z 336 [.agg [x], .agg a.enc] ⟨h.next, h.next, h.get⟩ = some (.agg [y], h') ∧ Heap.mk h'.next h.floor h'.get = g ∧ On h g ∧ SlR 11 (Fl Account.enc) g y (xs.map a.put) fq ∧ Fre h fq := by
  obtain ⟨y, h', fq, e, o, u, f⟩ := l10With_c (Z := Z) (h := ⟨h.next, h.next, h.get⟩) hS10 (Nat.le_refl _) (w.up (Fl.ok _) h.next) sm a
  exact ⟨y, h', _, fq, e, rfl, ⟨⟨o.ext.1, o.ext.2⟩, rfl⟩, u.up (Fl.ok _) h.floor, ⟨f.lo, f.nd⟩⟩
theorem with_setS (g : Srt xs) {i : Nat} (hi : i < xs.length) {a : Account} (ha : a.id = xs[i].id) : xs.map a.put = xs.set i a := by
  apply List.ext_getElem
  · simp
  · intro j h1 h2
    rw [List.getElem_map, List.getElem_set]
    rw [List.length_map] at h1
    by_cases e : i = j
    · subst e; simp [Account.put, ha]
    · rw [if_neg e]
      have : ¬ xs[j].id = a.id := fun hc => e (srt_inj g hi h1 (by rw [← ha]; exact hc.symm))
      simp [Account.put, this]
theorem srt_set (g : Srt xs) {i : Nat} (hi : i < xs.length) {a : Account} (ha : a.id = xs[i].id) : Srt (xs.set i a) := by
  refine List.pairwise_iff_getElem.2 fun p q hp hq hpq => ?_
  rw [List.length_set] at hp hq
  have hl := srt_lt g hq hpq
  rw [List.getElem_set, List.getElem_set]
  by_cases e1 : i = p
  · subst e1
    rw [if_pos rfl, if_neg (by omega), ha]; exact hl
  · rw [if_neg e1]
    by_cases e2 : i = q
    · subst e2; rw [if_pos rfl, ha]; exact hl
    · rw [if_neg e2]; exact hl
set_option maxHeartbeats 4000000 in
theorem sMoveMoney_c (hS10 : Has F tS10) (hf : h.floor ≤ h.next) (w : SlR 11 (Fl Account.enc) h x xs fp) (a b m : Int) (hm : 0 ≤ m ∧ m ≤ 18446744073709551615) (hok : ∀ t, t ∈ xs → t.Ok) (sm : xs.length ≤ 1048576) :
    ∃ y h' fq, call F Z 327 [.agg [x], .c (.int .u64 a), .c (.int .u64 b), .c (.int .u64 m)] h = some (.tup [.agg [y], .c (.int .i64 (moveBook xs a b m).2)], h') ∧ On h h' ∧ SlR 11 (Fl Account.enc) h' y (moveBook xs a b m).1 fq ∧ Fre h fq := by
  obtain ⟨y, h1, fq, e1, o1, w1, f1⟩ := l10Copy_c (Z := Z) hS10 hf w sm
  have e3 := l10Of_run (Z := Z) hS10 w a 1 hok
  have e4 := l10Of_run (Z := Z) hS10 w b 1 hok
  have z0 : ((0 : Int) != 0) = false := rfl
  have z1 : ((1 : Int) != 0) = true := rfl
  have z2 : ((2 : Int) != 0) = true := rfl
  have y0 : ((0 : Int) == 1) = false := rfl
  have y1 : ((1 : Int) == 1) = true := rfl
  have y2 : ((2 : Int) == 1) = false := rfl
  have ht : ¬ (1 : Int) < 1 := by omega
  rw [call_run F Z (hS10.lk (g := 327) rfl) _ _ rfl]
  cases hb : bookOk xs with
  | false =>
    rw [of_bad hb] at e3 e4
    rw [move_bad hb]
    simp only [Account.enc, Account.none_] at e3 e4
    simp only [run0, run1, run2, run3, run4, noSlot, ownS, ownK, memN, RO.dst, lk, drop, forget, number, Nat.reduceBEq, cut?, splice?, builds, List.length_cons, List.length_nil, List.drop_succ_cons, List.drop_zero, List.take_succ_cons, List.take_zero, List.cons_append, List.nil_append, List.append_nil, List.drop_nil, List.take_nil, Nat.reduceAdd, Nat.reduceLeDiff, Nat.zero_add, Nat.add_zero, ↓reduceIte, Bool.not_true, Bool.not_false, decide_true, decide_false, eq_self, bne_self_eq_false, List.getElem?_cons_zero, List.getElem?_cons_succ, decide_eq_true_eq, Bool.false_eq_true, Bool.true_eq_false, reduceCtorEq, Nat.le_refl, e1, e3, e4, y1]
    exact ⟨_, _, _, rfl, o1, w1, f1⟩
  | true =>
    have hcode : ∀ id, (accOf xs id 1).2 = 0 ∨ (accOf xs id 1).2 = 2 := fun id => by
      rcases acc_found hb id with ⟨q1, _⟩ | ⟨i, q1, _⟩
      · rw [of_none hb ht q1]; exact .inr rfl
      · rw [of_at hb ht q1]; exact .inl rfl
    by_cases hab : a = b
    · rw [move_same hab]
      have hab' : (a == b) = true := by simpa using hab
      simp only [Account.enc] at e3 e4
      rcases hcode a with hc | hc <;> rw [hc] at e3 <;> simp only [run0, run1, run2, run3, run4, noSlot, ownS, ownK, memN, RO.dst, lk, drop, forget, number, Nat.reduceBEq, cut?, splice?, builds, List.length_cons, List.length_nil, List.drop_succ_cons, List.drop_zero, List.take_succ_cons, List.take_zero, List.cons_append, List.nil_append, List.append_nil, List.drop_nil, List.take_nil, Nat.reduceAdd, Nat.reduceLeDiff, Nat.zero_add, Nat.add_zero, ↓reduceIte, Bool.not_true, Bool.not_false, decide_true, decide_false, eq_self, bne_self_eq_false, List.getElem?_cons_zero, List.getElem?_cons_succ, decide_eq_true_eq, Bool.false_eq_true, Bool.true_eq_false, reduceCtorEq, Nat.le_refl, e1, e3, e4, hab', y0, y2] <;> exact ⟨_, _, _, rfl, o1, w1, f1⟩
    have hab' : (a == b) = false := by simpa using hab
    rcases acc_found hb a with ⟨q1, q2⟩ | ⟨i, q1, q2, q3, hi, q5⟩
    · rw [of_none hb ht q1] at e3
      rw [move_none hb hab (.inl q1)]
      simp only [Account.enc, Account.none_] at e3 e4
      simp only [run0, run1, run2, run3, run4, noSlot, ownS, ownK, memN, RO.dst, lk, drop, forget, number, Nat.reduceBEq, cut?, splice?, builds, List.length_cons, List.length_nil, List.drop_succ_cons, List.drop_zero, List.take_succ_cons, List.take_zero, List.cons_append, List.nil_append, List.append_nil, List.drop_nil, List.take_nil, Nat.reduceAdd, Nat.reduceLeDiff, Nat.zero_add, Nat.add_zero, ↓reduceIte, Bool.not_true, Bool.not_false, decide_true, decide_false, eq_self, bne_self_eq_false, List.getElem?_cons_zero, List.getElem?_cons_succ, decide_eq_true_eq, Bool.false_eq_true, Bool.true_eq_false, reduceCtorEq, Nat.le_refl, e1, e3, e4, hab', y2, z2]
      exact ⟨_, _, _, rfl, o1, w1, f1⟩
    rcases acc_found hb b with ⟨r1, r2⟩ | ⟨k, r1, r2, r3, hk, r5⟩
    · rw [of_at hb ht q1] at e3
      rw [of_none hb ht r1] at e4
      rw [move_none hb hab (.inr r1)]
      simp only [Account.enc, Account.none_] at e3 e4
      simp only [run0, run1, run2, run3, run4, noSlot, ownS, ownK, memN, RO.dst, lk, drop, forget, number, Nat.reduceBEq, cut?, splice?, builds, List.length_cons, List.length_nil, List.drop_succ_cons, List.drop_zero, List.take_succ_cons, List.take_zero, List.cons_append, List.nil_append, List.append_nil, List.drop_nil, List.take_nil, Nat.reduceAdd, Nat.reduceLeDiff, Nat.zero_add, Nat.add_zero, ↓reduceIte, Bool.not_true, Bool.not_false, decide_true, decide_false, eq_self, bne_self_eq_false, List.getElem?_cons_zero, List.getElem?_cons_succ, decide_eq_true_eq, Bool.false_eq_true, Bool.true_eq_false, reduceCtorEq, Nat.le_refl, e1, e3, e4, hab', y0, z0, z2]
      exact ⟨_, _, _, rfl, o1, w1, f1⟩
    rw [of_at hb ht q1] at e3
    rw [of_at hb ht r1] at e4
    rw [move_at hb hab q1 r1]
    have hik : i ≠ k := fun e => hab (by rw [← q5, ← r5, e])
    have oki := (hok _ (List.getElem_mem hi)).bal
    have okk := (hok _ (List.getElem_mem hk)).bal
    unfold moveTo
    rw [Account.at_get hi] at e3 ⊢
    rw [Account.at_get hk] at e4 ⊢
    simp only [Account.enc] at e3 e4
    by_cases c1 : xs[i].tx = 0
    case neg =>
      have c1' : (xs[i].tx != 0) = true := by simpa using c1
      rw [if_neg (fun hc => c1 hc.1)]
      simp only [run0, run1, run2, run3, run4, noSlot, ownS, ownK, memN, RO.dst, lk, drop, forget, number, Nat.reduceBEq, cut?, splice?, builds, List.length_cons, List.length_nil, List.drop_succ_cons, List.drop_zero, List.take_succ_cons, List.take_zero, List.cons_append, List.nil_append, List.append_nil, List.drop_nil, List.take_nil, Nat.reduceAdd, Nat.reduceLeDiff, Nat.zero_add, Nat.add_zero, ↓reduceIte, Bool.not_true, Bool.not_false, decide_true, decide_false, eq_self, bne_self_eq_false, List.getElem?_cons_zero, List.getElem?_cons_succ, decide_eq_true_eq, Bool.false_eq_true, Bool.true_eq_false, reduceCtorEq, Nat.le_refl, e1, e3, e4, hab', y0, z0, c1']
      exact ⟨_, _, _, rfl, o1, w1, f1⟩
    have c1' : (xs[i].tx != 0) = false := by simpa using c1
    by_cases c2 : xs[k].tx = 0
    case neg =>
      have c2' : (xs[k].tx != 0) = true := by simpa using c2
      rw [if_neg (fun hc => c2 hc.2)]
      simp only [run0, run1, run2, run3, run4, noSlot, ownS, ownK, memN, RO.dst, lk, drop, forget, number, Nat.reduceBEq, cut?, splice?, builds, List.length_cons, List.length_nil, List.drop_succ_cons, List.drop_zero, List.take_succ_cons, List.take_zero, List.cons_append, List.nil_append, List.append_nil, List.drop_nil, List.take_nil, Nat.reduceAdd, Nat.reduceLeDiff, Nat.zero_add, Nat.add_zero, ↓reduceIte, Bool.not_true, Bool.not_false, decide_true, decide_false, eq_self, bne_self_eq_false, List.getElem?_cons_zero, List.getElem?_cons_succ, decide_eq_true_eq, Bool.false_eq_true, Bool.true_eq_false, reduceCtorEq, Nat.le_refl, e1, e3, e4, hab', y0, z0, c1', c2']
      exact ⟨_, _, _, rfl, o1, w1, f1⟩
    have c2' : (xs[k].tx != 0) = false := by simpa using c2
    rw [if_pos ⟨c1, c2⟩]
    by_cases c3 : m ≤ xs[i].bal
    case neg =>
      have c3' : m > xs[i].bal := by omega
      rw [if_neg c3]
      simp only [run0, run1, run2, run3, run4, noSlot, ownS, ownK, memN, RO.dst, lk, drop, forget, number, Nat.reduceBEq, cut?, splice?, builds, List.length_cons, List.length_nil, List.drop_succ_cons, List.drop_zero, List.take_succ_cons, List.take_zero, List.cons_append, List.nil_append, List.append_nil, List.drop_nil, List.take_nil, Nat.reduceAdd, Nat.reduceLeDiff, Nat.zero_add, Nat.add_zero, ↓reduceIte, Bool.not_true, Bool.not_false, decide_true, decide_false, eq_self, bne_self_eq_false, List.getElem?_cons_zero, List.getElem?_cons_succ, decide_eq_true_eq, Bool.false_eq_true, Bool.true_eq_false, reduceCtorEq, Nat.le_refl, e1, e3, e4, hab', y0, z0, c1', c2', c3']
      exact ⟨_, _, _, rfl, o1, w1, f1⟩
    have c3' : ¬ m > xs[i].bal := by omega
    rw [if_pos c3]
    have hws : IntKind.u64.wrap (18446744073709551615 - xs[k].bal) = 18446744073709551615 - xs[k].bal := wrapU _ (by omega) (by omega)
    by_cases c4 : xs[k].bal + m ≤ 18446744073709551615
    case neg =>
      have c4' : m > 18446744073709551615 - xs[k].bal := by omega
      rw [if_neg c4]
      simp only [run0, run1, run2, run3, run4, noSlot, ownS, ownK, memN, RO.dst, lk, drop, forget, number, Nat.reduceBEq, cut?, splice?, builds, List.length_cons, List.length_nil, List.drop_succ_cons, List.drop_zero, List.take_succ_cons, List.take_zero, List.cons_append, List.nil_append, List.append_nil, List.drop_nil, List.take_nil, Nat.reduceAdd, Nat.reduceLeDiff, Nat.zero_add, Nat.add_zero, ↓reduceIte, Bool.not_true, Bool.not_false, decide_true, decide_false, eq_self, bne_self_eq_false, List.getElem?_cons_zero, List.getElem?_cons_succ, decide_eq_true_eq, Bool.false_eq_true, Bool.true_eq_false, reduceCtorEq, Nat.le_refl, e1, e3, e4, hab', y0, z0, c1', c2', c3', hws, c4']
      exact ⟨_, _, _, rfl, o1, w1, f1⟩
    have hw : IntKind.u64.wrap (xs[k].bal + m) = xs[k].bal + m := wrapU _ (by omega) (by omega)
    have hv : IntKind.u64.wrap (xs[i].bal - m) = xs[i].bal - m := wrapU _ (by omega) (by omega)
    have c4' : ¬ m > 18446744073709551615 - xs[k].bal := by omega
    rw [if_pos c4]
    have hs0 := book_srt hb
    obtain ⟨y2_, h2, g2, fr, e5, hg2, o2, w2, f2⟩ := l10With_q (Z := Z) hS10 w sm ⟨xs[i].id, xs[i].bal - m, xs[i].hold, xs[i].due, xs[i].tx⟩
    rw [with_setS hs0 hi (a := ⟨xs[i].id, xs[i].bal - m, xs[i].hold, xs[i].due, xs[i].tx⟩) rfl] at w2
    have hs1 := srt_set hs0 hi (a := ⟨xs[i].id, xs[i].bal - m, xs[i].hold, xs[i].due, xs[i].tx⟩) rfl
    have hk' : k < (xs.set i ⟨xs[i].id, xs[i].bal - m, xs[i].hold, xs[i].due, xs[i].tx⟩).length := by rw [List.length_set]; exact hk
    obtain ⟨y3, h3, g3, fs, e6, hg3, o3, w3, f3⟩ := l10With_q (Z := Z) hS10 w2 (by rw [List.length_set]; exact sm) ⟨xs[k].id, xs[k].bal + m, xs[k].hold, xs[k].due, xs[k].tx⟩
    rw [with_setS hs1 hk' (a := ⟨xs[k].id, xs[k].bal + m, xs[k].hold, xs[k].due, xs[k].tx⟩) (by rw [List.getElem_set_ne hik])] at w3
    simp only [Account.enc] at e5 e6
    simp only [run0, run1, run2, run3, run4, noSlot, ownS, ownK, memN, RO.dst, lk, drop, forget, number, Nat.reduceBEq, cut?, splice?, builds, List.length_cons, List.length_nil, List.drop_succ_cons, List.drop_zero, List.take_succ_cons, List.take_zero, List.cons_append, List.nil_append, List.append_nil, List.drop_nil, List.take_nil, Nat.reduceAdd, Nat.reduceLeDiff, Nat.zero_add, Nat.add_zero, ↓reduceIte, Bool.not_true, Bool.not_false, decide_true, decide_false, eq_self, bne_self_eq_false, List.getElem?_cons_zero, List.getElem?_cons_succ, decide_eq_true_eq, Bool.false_eq_true, Bool.true_eq_false, reduceCtorEq, Nat.le_refl, e1, e3, e4, hab', y0, z0, c1', c2', c3', hws, c4', hv, hw, e5, hg2, e6, hg3]
    exact ⟨_, _, _, rfl, o2.trans o3, w3, ⟨fun id hid => Nat.le_trans o2.ext.1 (f3.lo id hid), f3.nd⟩⟩
end
end Go.Proofs.Ytcdlbjomdokmiaa.A
/- What the converters of LedgerCall compute. -/
namespace Go.Proofs.Ytcdlbjomdokmiaa.A
open Go
set_option linter.unusedSimpArgs false
set_option linter.unusedVariables false
section
variable {F : Nat → Option RF} {Z : CallF} {h : Heap} {x y : Cell} {xs ys : List LedgerCall} {fp fq : List Nat}
def LedgerCall.zero : List Cell := [.int .i64 0, .int .u64 0, .int .u64 0, .int .u64 0]
theorem toLedgerCall_run (hL : Has F tLLedgerCall) (p : LedgerCall) (h : Heap) : call F Z 26 [.agg p.enc] h = some (.agg p.enc, h) := by
  rw [call_run F Z (hL.lk (g := 26) rfl) _ _ rfl]
  simp only [LedgerCall.enc, run0, run1, run2, run3, run4, noSlot, ownS, ownK, memN, RO.dst, lk, drop, forget, number, Nat.reduceBEq, cut?, splice?, builds, List.length_cons, List.length_nil, List.drop_succ_cons, List.drop_zero, List.take_succ_cons, List.take_zero, List.cons_append, List.nil_append, List.append_nil, List.drop_nil, List.take_nil, Nat.reduceAdd, Nat.reduceLeDiff, Nat.zero_add, Nat.add_zero, ↓reduceIte, Bool.not_true, Bool.not_false, decide_true, decide_false, eq_self, bne_self_eq_false, List.getElem?_cons_zero, List.getElem?_cons_succ, decide_eq_true_eq, Bool.false_eq_true, Bool.true_eq_false, reduceCtorEq, Nat.le_refl]
set_option maxHeartbeats 1000000 in
theorem eqLedgerCall_run (hL : Has F tLLedgerCall) (p q : LedgerCall) (h : Heap) : call F Z 119 [.agg p.enc, .agg q.enc] h = some (.c (.bool (decide (p = q))), h) := by
  rw [call_run F Z (hL.lk (g := 119) rfl) _ _ rfl]
  obtain ⟨kind1, a1, b1, amount1⟩ := p
  obtain ⟨kind2, a2, b2, amount2⟩ := q
  simp only [LedgerCall.enc, run0, run1, run2, run3, run4, noSlot, ownS, ownK, memN, RO.dst, lk, drop, forget, number, Nat.reduceBEq, cut?, splice?, builds, List.length_cons, List.length_nil, List.drop_succ_cons, List.drop_zero, List.take_succ_cons, List.take_zero, List.cons_append, List.nil_append, List.append_nil, List.drop_nil, List.take_nil, Nat.reduceAdd, Nat.reduceLeDiff, Nat.zero_add, Nat.add_zero, ↓reduceIte, Bool.not_true, Bool.not_false, decide_true, decide_false, eq_self, bne_self_eq_false, List.getElem?_cons_zero, List.getElem?_cons_succ, decide_eq_true_eq, Bool.false_eq_true, Bool.true_eq_false, reduceCtorEq, Nat.le_refl]
  (repeat' ((first | (rw [gF_if]; split) | (rw [condC_if]; split) | (rw [pickR_if]; split)) <;> (rename_i hh; (try simp only [Bool.not_eq_true, decide_eq_true_eq] at hh); simp only [hh, run0, run1, run2, run3, run4, noSlot, ownS, ownK, memN, RO.dst, lk, drop, forget, number, Nat.reduceBEq, cut?, splice?, builds, List.length_cons, List.length_nil, List.drop_succ_cons, List.drop_zero, List.take_succ_cons, List.take_zero, List.cons_append, List.nil_append, List.append_nil, List.drop_nil, List.take_nil, Nat.reduceAdd, Nat.reduceLeDiff, Nat.zero_add, Nat.add_zero, ↓reduceIte, Bool.not_true, Bool.not_false, decide_true, decide_false, eq_self, bne_self_eq_false, List.getElem?_cons_zero, List.getElem?_cons_succ, decide_eq_true_eq, Bool.false_eq_true, Bool.true_eq_false, reduceCtorEq, Nat.le_refl]))) <;> refine fin_bool ?_ <;> simp_all <;> (try (intros; omega))
theorem toLedgerCall_lit (hL : Has F tLLedgerCall) (kind1 a1 b1 amount1 : Int) (h : Heap) : call F Z 26 [.agg [.int .i64 kind1, .int .u64 a1, .int .u64 b1, .int .u64 amount1]] h = some (.agg [.int .i64 kind1, .int .u64 a1, .int .u64 b1, .int .u64 amount1], h) := toLedgerCall_run hL ⟨kind1, a1, b1, amount1⟩ h
theorem eqLedgerCall_lit (hL : Has F tLLedgerCall) (kind1 a1 b1 amount1 kind2 a2 b2 amount2 : Int) (h : Heap) : call F Z 119 [.agg [.int .i64 kind1, .int .u64 a1, .int .u64 b1, .int .u64 amount1], .agg [.int .i64 kind2, .int .u64 a2, .int .u64 b2, .int .u64 amount2]] h = some (.c (.bool (decide ((⟨kind1, a1, b1, amount1⟩ : LedgerCall) = ⟨kind2, a2, b2, amount2⟩))), h) := eqLedgerCall_run hL ⟨kind1, a1, b1, amount1⟩ ⟨kind2, a2, b2, amount2⟩ h
end
end Go.Proofs.Ytcdlbjomdokmiaa.A
/- Calls of a ledger are done. -/
namespace Go.Proofs.Ytcdlbjomdokmiaa.A
open Go
set_option linter.unusedSimpArgs false
set_option linter.unusedVariables false
def ledgerAct (xs : List Account) (c : LedgerCall) : List Account × Int :=
  bif c.kind == 0 then openBook xs c.a else bif c.kind == 1 then bookDo xs c.a closeF else bif c.kind == 2 then bookDo xs c.a (depF c.amount) else bif c.kind == 3 then bookDo xs c.a (witF c.amount) else bif c.kind == 4 then moveBook xs c.a c.b c.amount else bif c.kind == 5 then (xs, bif decide (0 ≤ accAt xs c.a) then 0 else 2) else (xs, 1)
def ledgerRes (xs : List Account) (c : LedgerCall) : List Account × Int := bif bookOk xs then ledgerAct xs c else (xs, 1)
def ledgerVal (r : List Account × Int) (a : Int) : Int := bif (r.2 == 0) && decide (0 ≤ accAt r.1 a) then (Account.at_ r.1 (accAt r.1 a).toNat).bal else 0
theorem tail_cases {r : List Account × Int} {a : Int} (hs : Srt r.1) : (¬ r.2 = 0 ∧ ledgerVal r a = 0) ∨ (r.2 = 0 ∧ accIs r.1 a = false ∧ accAt r.1 a = -1 ∧ ledgerVal r a = 0) ∨
    (r.2 = 0 ∧ ∃ i : Nat, accIs r.1 a = true ∧ accGo r.1 a = i ∧ accAt r.1 a = (i : Int) ∧ i < r.1.length ∧ ledgerVal r a = (Account.at_ r.1 i).bal) := by
  by_cases h : r.2 = 0
  · right
    rcases acc_foundS hs a with ⟨h1, h2⟩ | ⟨i, h1, h2, h3, h4, _⟩
    · exact .inl ⟨h, h2, h1, by simp [ledgerVal, h1]⟩
    · exact .inr ⟨h, i, h2, h3, h1, h4, by simp [ledgerVal, h, h1]⟩
  · have : (r.2 == 0) = false := by simpa using h
    exact .inl ⟨h, by simp [ledgerVal, this]⟩
theorem srt_erase {xs : List Account} (g : Srt xs) (i : Nat) : Srt (xs.eraseIdx i) := List.Pairwise.sublist (List.eraseIdx_sublist xs i) g
theorem bookDo_srt {xs : List Account} (g : bookOk xs = true) (id : Int) {f : Act} (hf : ∀ a, (f a).2.id = a.id) : Srt (bookDo xs id f).1 := by
  have hs := book_srt g
  rcases acc_found g id with ⟨h1, _⟩ | ⟨i, h1, _, _, hi, _⟩
  · rw [do_none g h1]; exact hs
  · rw [do_at g h1]
    cases ((f (Account.at_ xs i)).1 == 0) <;> simp only [cond_true, cond_false]
    · exact hs
    cases ((f (Account.at_ xs i)).2.tx == -1) <;> simp only [cond_true, cond_false]
    · exact srt_set hs hi (by rw [hf, Account.at_get hi])
    · exact srt_erase hs i
theorem closeF_id (a : Account) : (closeF a).2.id = a.id := by unfold closeF; split <;> (try split) <;> rfl
theorem depF_id (m : Int) (a : Account) : (depF m a).2.id = a.id := by unfold depF; split <;> (try split) <;> rfl
theorem witF_id (m : Int) (a : Account) : (witF m a).2.id = a.id := by unfold witF; split <;> (try split) <;> rfl
theorem openBook_srt {xs : List Account} (g : bookOk xs = true) (id : Int) : Srt (openBook xs id).1 := by
  have hs := book_srt g
  rcases acc_found g id with ⟨h1, _⟩ | ⟨i, h1, _⟩
  · cases c3 : ((xs.length : Int) == 40) with
    | true => rw [open_full g h1 c3]; exact hs
    | false => rw [open_new g h1 c3]; exact plusAcc_srt g h1
  · rw [open_there g h1]; exact hs
theorem moveBook_srt {xs : List Account} (g : bookOk xs = true) (a b m : Int) : Srt (moveBook xs a b m).1 := by
  have hs := book_srt g
  by_cases hab : a = b
  · rw [move_same hab]; exact hs
  rcases acc_found g a with ⟨h1, _⟩ | ⟨i, h1, _, _, hi, q5⟩
  · rw [move_none g hab (.inl h1)]; exact hs
  rcases acc_found g b with ⟨h2, _⟩ | ⟨k, h2, _, _, hk, r5⟩
  · rw [move_none g hab (.inr h2)]; exact hs
  rw [move_at g hab h1 h2]
  have hik : i ≠ k := fun e => hab (by rw [← q5, ← r5, e])
  unfold moveTo
  split
  · split
    · split
      · have h3 := srt_set hs hi (a := { Account.at_ xs i with bal := (Account.at_ xs i).bal - m }) (by rw [Account.at_get hi])
        exact srt_set h3 (by rw [List.length_set]; exact hk) (by rw [List.getElem_set_ne hik, Account.at_get hk])
      · exact hs
    · exact hs
  · exact hs
theorem ledgerRes_len (xs : List Account) (c : LedgerCall) : (ledgerRes xs c).1.length ≤ xs.length + 1 := by
  unfold ledgerRes ledgerAct
  cases bookOk xs <;> simp only [cond_true, cond_false]
  · omega
  cases (c.kind == 0) <;> simp only [cond_true, cond_false]
  · cases (c.kind == 1) <;> simp only [cond_true, cond_false]
    · cases (c.kind == 2) <;> simp only [cond_true, cond_false]
      · cases (c.kind == 3) <;> simp only [cond_true, cond_false]
        · cases (c.kind == 4) <;> simp only [cond_true, cond_false]
          · cases (c.kind == 5) <;> simp only [cond_true, cond_false] <;> omega
          · rw [moveBook_len]; omega
        · exact Nat.le_trans do_len (by omega)
      · exact Nat.le_trans do_len (by omega)
    · exact Nat.le_trans do_len (by omega)
  · exact openBook_len
section
variable {F : Nat → Option RF} {Z : CallF} {h : Heap} {x : Cell} {xs : List Account} {fp : List Nat}
set_option maxHeartbeats 4000000 in
theorem doLedger_c (hI10 : Has F tI10) (hI17 : Has F tI17) (pri : PrimAt F Z 343 (insF 11 40)) (prd : PrimAt F Z 348 (delF 11)) (hf : h.floor ≤ h.next) (w : SlR 11 (Fl Account.enc) h x xs fp) (c : LedgerCall) (okc : c.Ok) (hok : ∀ t, t ∈ xs → t.Ok) (sm : xs.length ≤ 1048576) :
    ∃ y h' fq, call F Z 329 [.agg [x], .agg c.enc] h = some (.tup [.agg [y], .c (.int .i64 (ledgerRes xs c).2), .c (.int .u64 (ledgerVal (ledgerRes xs c) c.a))], h') ∧ On h h' ∧ SlR 11 (Fl Account.enc) h' y (ledgerRes xs c).1 fq ∧ Fre h fq := by
  obtain ⟨y0, h1, f0, e1, o1, w1, f1⟩ := copyBook_c (Z := Z) hI10 hf w sm
  have wx := w.on (Fl.ok _) o1
  have e2 := isBook_run (Z := Z) hI10 wx hok
  have e8 := accountOf_run (Z := Z) hI10 w1 c.a
  have z0 : ((0 : Int) != 0) = false := rfl
  have z1 : ((1 : Int) != 0) = true := rfl
  have z2 : ((2 : Int) != 0) = true := rfl
  have nx : ∀ {g : Heap} {fq : List Nat}, Fre h1 fq → Fre h fq := fun f => ⟨fun id hid => Nat.le_trans o1.ext.1 (f.lo id hid), f.nd⟩
  rw [call_run F Z (hI17.lk (g := 329) rfl) _ _ rfl]
  cases hb : bookOk xs with
  | false =>
    rw [hb] at e2
    have hd : ledgerRes xs c = (xs, 1) := by simp [ledgerRes, hb]
    rw [hd]
    have hv : ledgerVal (xs, 1) c.a = 0 := by simp [ledgerVal]
    rw [hv]
    simp only [run0, run1, run2, run3, run4, noSlot, ownS, ownK, memN, RO.dst, lk, drop, forget, number, Nat.reduceBEq, cut?, splice?, builds, List.length_cons, List.length_nil, List.drop_succ_cons, List.drop_zero, List.take_succ_cons, List.take_zero, List.cons_append, List.nil_append, List.append_nil, List.drop_nil, List.take_nil, Nat.reduceAdd, Nat.reduceLeDiff, Nat.zero_add, Nat.add_zero, ↓reduceIte, Bool.not_true, Bool.not_false, decide_true, decide_false, eq_self, bne_self_eq_false, List.getElem?_cons_zero, List.getElem?_cons_succ, decide_eq_true_eq, Bool.false_eq_true, Bool.true_eq_false, reduceCtorEq, Nat.le_refl, LedgerCall.enc, e1, e2, e8, z1]
    exact ⟨_, _, _, rfl, o1, w1, f1⟩
  | true =>
    rw [hb] at e2
    by_cases k0 : c.kind = 0
    · have k0' : (c.kind == 0) = true := by simpa using k0
      have hact : ledgerRes xs c = openBook xs c.a := by simp [ledgerRes, hb, ledgerAct, k0]
      rw [hact]
      obtain ⟨y, h2, fq, e3, o3, u3, f3⟩ := OpenAccount_c (Z := Z) hI10 pri (o1.le hf) wx c.a hok sm
      have hsr : Srt (openBook xs c.a).1 := openBook_srt hb c.a
      generalize hr : openBook xs c.a = r at *
      have e9 := accountOf_run (Z := Z) hI10 u3 c.a
      rcases tail_cases (a := c.a) hsr with ⟨t1, t2⟩ | ⟨t1, t2, t3, t4⟩ | ⟨t1, i, t2, t3, t4, t5, t6⟩
      · have t1' : (r.2 != 0) = true := by simpa using t1
        rw [t2]
        simp only [run0, run1, run2, run3, run4, noSlot, ownS, ownK, memN, RO.dst, lk, drop, forget, number, Nat.reduceBEq, cut?, splice?, builds, List.length_cons, List.length_nil, List.drop_succ_cons, List.drop_zero, List.take_succ_cons, List.take_zero, List.cons_append, List.nil_append, List.append_nil, List.drop_nil, List.take_nil, Nat.reduceAdd, Nat.reduceLeDiff, Nat.zero_add, Nat.add_zero, ↓reduceIte, Bool.not_true, Bool.not_false, decide_true, decide_false, eq_self, bne_self_eq_false, List.getElem?_cons_zero, List.getElem?_cons_succ, decide_eq_true_eq, Bool.false_eq_true, Bool.true_eq_false, reduceCtorEq, Nat.le_refl, LedgerCall.enc, e1, e2, k0', e3, e9, t1']
        exact ⟨_, _, _, rfl, o1.trans o3, u3, nx (g := h1) f3⟩
      · have t1' : (r.2 != 0) = false := by simpa using t1
        rw [t2] at e9
        rw [t4]
        simp only [run0, run1, run2, run3, run4, noSlot, ownS, ownK, memN, RO.dst, lk, drop, forget, number, Nat.reduceBEq, cut?, splice?, builds, List.length_cons, List.length_nil, List.drop_succ_cons, List.drop_zero, List.take_succ_cons, List.take_zero, List.cons_append, List.nil_append, List.append_nil, List.drop_nil, List.take_nil, Nat.reduceAdd, Nat.reduceLeDiff, Nat.zero_add, Nat.add_zero, ↓reduceIte, Bool.not_true, Bool.not_false, decide_true, decide_false, eq_self, bne_self_eq_false, List.getElem?_cons_zero, List.getElem?_cons_succ, decide_eq_true_eq, Bool.false_eq_true, Bool.true_eq_false, reduceCtorEq, Nat.le_refl, LedgerCall.enc, e1, e2, k0', e3, e9, t1']
        exact ⟨_, _, _, rfl, o1.trans o3, u3, nx (g := h1) f3⟩
      · have t1' : (r.2 != 0) = false := by simpa using t1
        rw [t2, t3] at e9
        rw [t6]
        have hyi := u3.idx t5
        have hld := u3.load t5
        rw [← Account.at_get t5] at hld
        simp only [Account.enc] at hld
        simp only [run0, run1, run2, run3, run4, noSlot, ownS, ownK, memN, RO.dst, lk, drop, forget, number, Nat.reduceBEq, cut?, splice?, builds, List.length_cons, List.length_nil, List.drop_succ_cons, List.drop_zero, List.take_succ_cons, List.take_zero, List.cons_append, List.nil_append, List.append_nil, List.drop_nil, List.take_nil, Nat.reduceAdd, Nat.reduceLeDiff, Nat.zero_add, Nat.add_zero, ↓reduceIte, Bool.not_true, Bool.not_false, decide_true, decide_false, eq_self, bne_self_eq_false, List.getElem?_cons_zero, List.getElem?_cons_succ, decide_eq_true_eq, Bool.false_eq_true, Bool.true_eq_false, reduceCtorEq, Nat.le_refl, LedgerCall.enc, e1, e2, k0', e3, e9, t1', hyi, hld]
        exact ⟨_, _, _, rfl, o1.trans o3, u3, nx (g := h1) f3⟩
    have k0' : (c.kind == 0) = false := by simpa using k0
    by_cases k1 : c.kind = 1
    · have k1' : (c.kind == 1) = true := by simpa using k1
      have hact : ledgerRes xs c = bookDo xs c.a closeF := by simp [ledgerRes, hb, ledgerAct, k1]
      rw [hact]
      obtain ⟨y, h2, fq, e3, o3, u3, f3⟩ := CloseAccount_c (Z := Z) hI10 prd (o1.le hf) wx c.a hok sm
      have hsr : Srt (bookDo xs c.a closeF).1 := bookDo_srt hb c.a closeF_id
      generalize hr : bookDo xs c.a closeF = r at *
      have e9 := accountOf_run (Z := Z) hI10 u3 c.a
      rcases tail_cases (a := c.a) hsr with ⟨t1, t2⟩ | ⟨t1, t2, t3, t4⟩ | ⟨t1, i, t2, t3, t4, t5, t6⟩
      · have t1' : (r.2 != 0) = true := by simpa using t1
        rw [t2]
        simp only [run0, run1, run2, run3, run4, noSlot, ownS, ownK, memN, RO.dst, lk, drop, forget, number, Nat.reduceBEq, cut?, splice?, builds, List.length_cons, List.length_nil, List.drop_succ_cons, List.drop_zero, List.take_succ_cons, List.take_zero, List.cons_append, List.nil_append, List.append_nil, List.drop_nil, List.take_nil, Nat.reduceAdd, Nat.reduceLeDiff, Nat.zero_add, Nat.add_zero, ↓reduceIte, Bool.not_true, Bool.not_false, decide_true, decide_false, eq_self, bne_self_eq_false, List.getElem?_cons_zero, List.getElem?_cons_succ, decide_eq_true_eq, Bool.false_eq_true, Bool.true_eq_false, reduceCtorEq, Nat.le_refl, LedgerCall.enc, e1, e2, k0', k1', e3, e9, t1']
        exact ⟨_, _, _, rfl, o1.trans o3, u3, nx (g := h1) f3⟩
      · have t1' : (r.2 != 0) = false := by simpa using t1
        rw [t2] at e9
        rw [t4]
        simp only [run0, run1, run2, run3, run4, noSlot, ownS, ownK, memN, RO.dst, lk, drop, forget, number, Nat.reduceBEq, cut?, splice?, builds, List.length_cons, List.length_nil, List.drop_succ_cons, List.drop_zero, List.take_succ_cons, List.take_zero, List.cons_append, List.nil_append, List.append_nil, List.drop_nil, List.take_nil, Nat.reduceAdd, Nat.reduceLeDiff, Nat.zero_add, Nat.add_zero, ↓reduceIte, Bool.not_true, Bool.not_false, decide_true, decide_false, eq_self, bne_self_eq_false, List.getElem?_cons_zero, List.getElem?_cons_succ, decide_eq_true_eq, Bool.false_eq_true, Bool.true_eq_false, reduceCtorEq, Nat.le_refl, LedgerCall.enc, e1, e2, k0', k1', e3, e9, t1']
        exact ⟨_, _, _, rfl, o1.trans o3, u3, nx (g := h1) f3⟩
      · have t1' : (r.2 != 0) = false := by simpa using t1
        rw [t2, t3] at e9
        rw [t6]
        have hyi := u3.idx t5
        have hld := u3.load t5
        rw [← Account.at_get t5] at hld
        simp only [Account.enc] at hld
        simp only [run0, run1, run2, run3, run4, noSlot, ownS, ownK, memN, RO.dst, lk, drop, forget, number, Nat.reduceBEq, cut?, splice?, builds, List.length_cons, List.length_nil, List.drop_succ_cons, List.drop_zero, List.take_succ_cons, List.take_zero, List.cons_append, List.nil_append, List.append_nil, List.drop_nil, List.take_nil, Nat.reduceAdd, Nat.reduceLeDiff, Nat.zero_add, Nat.add_zero, ↓reduceIte, Bool.not_true, Bool.not_false, decide_true, decide_false, eq_self, bne_self_eq_false, List.getElem?_cons_zero, List.getElem?_cons_succ, decide_eq_true_eq, Bool.false_eq_true, Bool.true_eq_false, reduceCtorEq, Nat.le_refl, LedgerCall.enc, e1, e2, k0', k1', e3, e9, t1', hyi, hld]
        exact ⟨_, _, _, rfl, o1.trans o3, u3, nx (g := h1) f3⟩
    have k1' : (c.kind == 1) = false := by simpa using k1
    by_cases k2 : c.kind = 2
    · have k2' : (c.kind == 2) = true := by simpa using k2
      have hact : ledgerRes xs c = bookDo xs c.a (depF c.amount) := by simp [ledgerRes, hb, ledgerAct, k2]
      rw [hact]
      obtain ⟨y, h2, fq, e3, o3, u3, f3⟩ := Deposit_c (Z := Z) hI10 prd (o1.le hf) wx c.a c.amount okc.amount hok sm
      have hsr : Srt (bookDo xs c.a (depF c.amount)).1 := bookDo_srt hb c.a (depF_id _)
      generalize hr : bookDo xs c.a (depF c.amount) = r at *
      have e9 := accountOf_run (Z := Z) hI10 u3 c.a
      rcases tail_cases (a := c.a) hsr with ⟨t1, t2⟩ | ⟨t1, t2, t3, t4⟩ | ⟨t1, i, t2, t3, t4, t5, t6⟩
      · have t1' : (r.2 != 0) = true := by simpa using t1
        rw [t2]
        simp only [run0, run1, run2, run3, run4, noSlot, ownS, ownK, memN, RO.dst, lk, drop, forget, number, Nat.reduceBEq, cut?, splice?, builds, List.length_cons, List.length_nil, List.drop_succ_cons, List.drop_zero, List.take_succ_cons, List.take_zero, List.cons_append, List.nil_append, List.append_nil, List.drop_nil, List.take_nil, Nat.reduceAdd, Nat.reduceLeDiff, Nat.zero_add, Nat.add_zero, ↓reduceIte, Bool.not_true, Bool.not_false, decide_true, decide_false, eq_self, bne_self_eq_false, List.getElem?_cons_zero, List.getElem?_cons_succ, decide_eq_true_eq, Bool.false_eq_true, Bool.true_eq_false, reduceCtorEq, Nat.le_refl, LedgerCall.enc, e1, e2, k0', k1', k2', e3, e9, t1']
        exact ⟨_, _, _, rfl, o1.trans o3, u3, nx (g := h1) f3⟩
      · have t1' : (r.2 != 0) = false := by simpa using t1
        rw [t2] at e9
        rw [t4]
        simp only [run0, run1, run2, run3, run4, noSlot, ownS, ownK, memN, RO.dst, lk, drop, forget, number, Nat.reduceBEq, cut?, splice?, builds, List.length_cons, List.length_nil, List.drop_succ_cons, List.drop_zero, List.take_succ_cons, List.take_zero, List.cons_append, List.nil_append, List.append_nil, List.drop_nil, List.take_nil, Nat.reduceAdd, Nat.reduceLeDiff, Nat.zero_add, Nat.add_zero, ↓reduceIte, Bool.not_true, Bool.not_false, decide_true, decide_false, eq_self, bne_self_eq_false, List.getElem?_cons_zero, List.getElem?_cons_succ, decide_eq_true_eq, Bool.false_eq_true, Bool.true_eq_false, reduceCtorEq, Nat.le_refl, LedgerCall.enc, e1, e2, k0', k1', k2', e3, e9, t1']
        exact ⟨_, _, _, rfl, o1.trans o3, u3, nx (g := h1) f3⟩
      · have t1' : (r.2 != 0) = false := by simpa using t1
        rw [t2, t3] at e9
        rw [t6]
        have hyi := u3.idx t5
        have hld := u3.load t5
        rw [← Account.at_get t5] at hld
        simp only [Account.enc] at hld
        simp only [run0, run1, run2, run3, run4, noSlot, ownS, ownK, memN, RO.dst, lk, drop, forget, number, Nat.reduceBEq, cut?, splice?, builds, List.length_cons, List.length_nil, List.drop_succ_cons, List.drop_zero, List.take_succ_cons, List.take_zero, List.cons_append, List.nil_append, List.append_nil, List.drop_nil, List.take_nil, Nat.reduceAdd, Nat.reduceLeDiff, Nat.zero_add, Nat.add_zero, ↓reduceIte, Bool.not_true, Bool.not_false, decide_true, decide_false, eq_self, bne_self_eq_false, List.getElem?_cons_zero, List.getElem?_cons_succ, decide_eq_true_eq, Bool.false_eq_true, Bool.true_eq_false, reduceCtorEq, Nat.le_refl, LedgerCall.enc, e1, e2, k0', k1', k2', e3, e9, t1', hyi, hld]
        exact ⟨_, _, _, rfl, o1.trans o3, u3, nx (g := h1) f3⟩
    have k2' : (c.kind == 2) = false := by simpa using k2
    by_cases k3 : c.kind = 3
    · have k3' : (c.kind == 3) = true := by simpa using k3
      have hact : ledgerRes xs c = bookDo xs c.a (witF c.amount) := by simp [ledgerRes, hb, ledgerAct, k3]
      rw [hact]
      obtain ⟨y, h2, fq, e3, o3, u3, f3⟩ := Withdraw_c (Z := Z) hI10 prd (o1.le hf) wx c.a c.amount okc.amount hok sm
      have hsr : Srt (bookDo xs c.a (witF c.amount)).1 := bookDo_srt hb c.a (witF_id _)
      generalize hr : bookDo xs c.a (witF c.amount) = r at *
      have e9 := accountOf_run (Z := Z) hI10 u3 c.a
      rcases tail_cases (a := c.a) hsr with ⟨t1, t2⟩ | ⟨t1, t2, t3, t4⟩ | ⟨t1, i, t2, t3, t4, t5, t6⟩
      · have t1' : (r.2 != 0) = true := by simpa using t1
        rw [t2]
        simp only [run0, run1, run2, run3, run4, noSlot, ownS, ownK, memN, RO.dst, lk, drop, forget, number, Nat.reduceBEq, cut?, splice?, builds, List.length_cons, List.length_nil, List.drop_succ_cons, List.drop_zero, List.take_succ_cons, List.take_zero, List.cons_append, List.nil_append, List.append_nil, List.drop_nil, List.take_nil, Nat.reduceAdd, Nat.reduceLeDiff, Nat.zero_add, Nat.add_zero, ↓reduceIte, Bool.not_true, Bool.not_false, decide_true, decide_false, eq_self, bne_self_eq_false, List.getElem?_cons_zero, List.getElem?_cons_succ, decide_eq_true_eq, Bool.false_eq_true, Bool.true_eq_false, reduceCtorEq, Nat.le_refl, LedgerCall.enc, e1, e2, k0', k1', k2', k3', e3, e9, t1']
        exact ⟨_, _, _, rfl, o1.trans o3, u3, nx (g := h1) f3⟩
      · have t1' : (r.2 != 0) = false := by simpa using t1
        rw [t2] at e9
        rw [t4]
        simp only [run0, run1, run2, run3, run4, noSlot, ownS, ownK, memN, RO.dst, lk, drop, forget, number, Nat.reduceBEq, cut?, splice?, builds, List.length_cons, List.length_nil, List.drop_succ_cons, List.drop_zero, List.take_succ_cons, List.take_zero, List.cons_append, List.nil_append, List.append_nil, List.drop_nil, List.take_nil, Nat.reduceAdd, Nat.reduceLeDiff, Nat.zero_add, Nat.add_zero, ↓reduceIte, Bool.not_true, Bool.not_false, decide_true, decide_false, eq_self, bne_self_eq_false, List.getElem?_cons_zero, List.getElem?_cons_succ, decide_eq_true_eq, Bool.false_eq_true, Bool.true_eq_false, reduceCtorEq, Nat.le_refl, LedgerCall.enc, e1, e2, k0', k1', k2', k3', e3, e9, t1']
        exact ⟨_, _, _, rfl, o1.trans o3, u3, nx (g := h1) f3⟩
      · have t1' : (r.2 != 0) = false := by simpa using t1
        rw [t2, t3] at e9
        rw [t6]
        have hyi := u3.idx t5
        have hld := u3.load t5
        rw [← Account.at_get t5] at hld
        simp only [Account.enc] at hld
        simp only [run0, run1, run2, run3, run4, noSlot, ownS, ownK, memN, RO.dst, lk, drop, forget, number, Nat.reduceBEq, cut?, splice?, builds, List.length_cons, List.length_nil, List.drop_succ_cons, List.drop_zero, List.take_succ_cons, List.take_zero, List.cons_append, List.nil_append, List.append_nil, List.drop_nil, List.take_nil, Nat.reduceAdd, Nat.reduceLeDiff, Nat.zero_add, Nat.add_zero, ↓reduceIte, Bool.not_true, Bool.not_false, decide_true, decide_false, eq_self, bne_self_eq_false, List.getElem?_cons_zero, List.getElem?_cons_succ, decide_eq_true_eq, Bool.false_eq_true, Bool.true_eq_false, reduceCtorEq, Nat.le_refl, LedgerCall.enc, e1, e2, k0', k1', k2', k3', e3, e9, t1', hyi, hld]
        exact ⟨_, _, _, rfl, o1.trans o3, u3, nx (g := h1) f3⟩
    have k3' : (c.kind == 3) = false := by simpa using k3
    by_cases k4 : c.kind = 4
    · have k4' : (c.kind == 4) = true := by simpa using k4
      have hact : ledgerRes xs c = moveBook xs c.a c.b c.amount := by simp [ledgerRes, hb, ledgerAct, k4]
      rw [hact]
      obtain ⟨y, h2, fq, e3, o3, u3, f3⟩ := MoveMoney_c (Z := Z) hI10 (o1.le hf) wx c.a c.b c.amount okc.amount hok sm
      have hsr : Srt (moveBook xs c.a c.b c.amount).1 := moveBook_srt hb c.a c.b c.amount
      generalize hr : moveBook xs c.a c.b c.amount = r at *
      have e9 := accountOf_run (Z := Z) hI10 u3 c.a
      rcases tail_cases (a := c.a) hsr with ⟨t1, t2⟩ | ⟨t1, t2, t3, t4⟩ | ⟨t1, i, t2, t3, t4, t5, t6⟩
      · have t1' : (r.2 != 0) = true := by simpa using t1
        rw [t2]
        simp only [run0, run1, run2, run3, run4, noSlot, ownS, ownK, memN, RO.dst, lk, drop, forget, number, Nat.reduceBEq, cut?, splice?, builds, List.length_cons, List.length_nil, List.drop_succ_cons, List.drop_zero, List.take_succ_cons, List.take_zero, List.cons_append, List.nil_append, List.append_nil, List.drop_nil, List.take_nil, Nat.reduceAdd, Nat.reduceLeDiff, Nat.zero_add, Nat.add_zero, ↓reduceIte, Bool.not_true, Bool.not_false, decide_true, decide_false, eq_self, bne_self_eq_false, List.getElem?_cons_zero, List.getElem?_cons_succ, decide_eq_true_eq, Bool.false_eq_true, Bool.true_eq_false, reduceCtorEq, Nat.le_refl, LedgerCall.enc, e1, e2, k0', k1', k2', k3', k4', e3, e9, t1']
        exact ⟨_, _, _, rfl, o1.trans o3, u3, nx (g := h1) f3⟩
      · have t1' : (r.2 != 0) = false := by simpa using t1
        rw [t2] at e9
        rw [t4]
        simp only [run0, run1, run2, run3, run4, noSlot, ownS, ownK, memN, RO.dst, lk, drop, forget, number, Nat.reduceBEq, cut?, splice?, builds, List.length_cons, List.length_nil, List.drop_succ_cons, List.drop_zero, List.take_succ_cons, List.take_zero, List.cons_append, List.nil_append, List.append_nil, List.drop_nil, List.take_nil, Nat.reduceAdd, Nat.reduceLeDiff, Nat.zero_add, Nat.add_zero, ↓reduceIte, Bool.not_true, Bool.not_false, decide_true, decide_false, eq_self, bne_self_eq_false, List.getElem?_cons_zero, List.getElem?_cons_succ, decide_eq_true_eq, Bool.false_eq_true, Bool.true_eq_false, reduceCtorEq, Nat.le_refl, LedgerCall.enc, e1, e2, k0', k1', k2', k3', k4', e3, e9, t1']
        exact ⟨_, _, _, rfl, o1.trans o3, u3, nx (g := h1) f3⟩
      · have t1' : (r.2 != 0) = false := by simpa using t1
        rw [t2, t3] at e9
        rw [t6]
        have hyi := u3.idx t5
        have hld := u3.load t5
        rw [← Account.at_get t5] at hld
        simp only [Account.enc] at hld
        simp only [run0, run1, run2, run3, run4, noSlot, ownS, ownK, memN, RO.dst, lk, drop, forget, number, Nat.reduceBEq, cut?, splice?, builds, List.length_cons, List.length_nil, List.drop_succ_cons, List.drop_zero, List.take_succ_cons, List.take_zero, List.cons_append, List.nil_append, List.append_nil, List.drop_nil, List.take_nil, Nat.reduceAdd, Nat.reduceLeDiff, Nat.zero_add, Nat.add_zero, ↓reduceIte, Bool.not_true, Bool.not_false, decide_true, decide_false, eq_self, bne_self_eq_false, List.getElem?_cons_zero, List.getElem?_cons_succ, decide_eq_true_eq, Bool.false_eq_true, Bool.true_eq_false, reduceCtorEq, Nat.le_refl, LedgerCall.enc, e1, e2, k0', k1', k2', k3', k4', e3, e9, t1', hyi, hld]
        exact ⟨_, _, _, rfl, o1.trans o3, u3, nx (g := h1) f3⟩
    have k4' : (c.kind == 4) = false := by simpa using k4
    by_cases k5 : c.kind = 5
    · have k5' : (c.kind == 5) = true := by simpa using k5
      rcases acc_found hb c.a with ⟨q1, q2⟩ | ⟨i, q1, q2, q3, hi, q5⟩
      · have hact : ledgerRes xs c = (xs, 2) := by simp [ledgerRes, hb, ledgerAct, k5, q1]
        have hv : ledgerVal (xs, 2) c.a = 0 := by simp [ledgerVal]
        rw [hact, hv]
        have e7 := accountOf_run (Z := Z) hI10 wx c.a
        rw [q2] at e7 e8
        simp only [run0, run1, run2, run3, run4, noSlot, ownS, ownK, memN, RO.dst, lk, drop, forget, number, Nat.reduceBEq, cut?, splice?, builds, List.length_cons, List.length_nil, List.drop_succ_cons, List.drop_zero, List.take_succ_cons, List.take_zero, List.cons_append, List.nil_append, List.append_nil, List.drop_nil, List.take_nil, Nat.reduceAdd, Nat.reduceLeDiff, Nat.zero_add, Nat.add_zero, ↓reduceIte, Bool.not_true, Bool.not_false, decide_true, decide_false, eq_self, bne_self_eq_false, List.getElem?_cons_zero, List.getElem?_cons_succ, decide_eq_true_eq, Bool.false_eq_true, Bool.true_eq_false, reduceCtorEq, Nat.le_refl, LedgerCall.enc, e1, e2, k0', k1', k2', k3', k4', k5', e7, e8, z2]
        exact ⟨_, _, _, rfl, o1, w1, f1⟩
      · have hact : ledgerRes xs c = (xs, 0) := by simp [ledgerRes, hb, ledgerAct, k5, q1]
        have hv : ledgerVal (xs, 0) c.a = (Account.at_ xs i).bal := by simp [ledgerVal, q1]
        rw [hact, hv]
        have hyi := w1.idx hi
        have hld := w1.load hi
        rw [← Account.at_get hi] at hld
        simp only [Account.enc] at hld
        have e7 := accountOf_run (Z := Z) hI10 wx c.a
        rw [q2, q3] at e7 e8
        simp only [run0, run1, run2, run3, run4, noSlot, ownS, ownK, memN, RO.dst, lk, drop, forget, number, Nat.reduceBEq, cut?, splice?, builds, List.length_cons, List.length_nil, List.drop_succ_cons, List.drop_zero, List.take_succ_cons, List.take_zero, List.cons_append, List.nil_append, List.append_nil, List.drop_nil, List.take_nil, Nat.reduceAdd, Nat.reduceLeDiff, Nat.zero_add, Nat.add_zero, ↓reduceIte, Bool.not_true, Bool.not_false, decide_true, decide_false, eq_self, bne_self_eq_false, List.getElem?_cons_zero, List.getElem?_cons_succ, decide_eq_true_eq, Bool.false_eq_true, Bool.true_eq_false, reduceCtorEq, Nat.le_refl, LedgerCall.enc, e1, e2, k0', k1', k2', k3', k4', k5', e7, e8, z0, hyi, hld]
        exact ⟨_, _, _, rfl, o1, w1, f1⟩
    have k5' : (c.kind == 5) = false := by simpa using k5
    have hact : ledgerRes xs c = (xs, 1) := by simp [ledgerRes, hb, ledgerAct, k0', k1', k2', k3', k4', k5']
    have hv : ledgerVal (xs, 1) c.a = 0 := by simp [ledgerVal]
    rw [hact, hv]
    simp only [run0, run1, run2, run3, run4, noSlot, ownS, ownK, memN, RO.dst, lk, drop, forget, number, Nat.reduceBEq, cut?, splice?, builds, List.length_cons, List.length_nil, List.drop_succ_cons, List.drop_zero, List.take_succ_cons, List.take_zero, List.cons_append, List.nil_append, List.append_nil, List.drop_nil, List.take_nil, Nat.reduceAdd, Nat.reduceLeDiff, Nat.zero_add, Nat.add_zero, ↓reduceIte, Bool.not_true, Bool.not_false, decide_true, decide_false, eq_self, bne_self_eq_false, List.getElem?_cons_zero, List.getElem?_cons_succ, decide_eq_true_eq, Bool.false_eq_true, Bool.true_eq_false, reduceCtorEq, Nat.le_refl, LedgerCall.enc, e1, e2, k0', k1', k2', k3', k4', k5', e8, z1]
    exact ⟨_, _, _, rfl, o1, w1, f1⟩
set_option maxHeartbeats 4000000 in
theorem sDoLedger_c0 (hS10 : Has F tS10) (hS17 : Has F tS17) (hf : h.floor ≤ h.next) (w : SlR 11 (Fl Account.enc) h x xs fp) (c : LedgerCall) (okc : c.Ok) (hok : ∀ t, t ∈ xs → t.Ok) (sm : xs.length ≤ 1048576) :
    ∃ y h' fq, call F Z 294 [.agg [x], .agg c.enc] h = some (.tup [.agg [y], .c (.int .i64 (ledgerRes xs c).2), .c (.int .u64 (ledgerVal (ledgerRes xs c) c.a))], h') ∧ On h h' ∧ SlR 11 (Fl Account.enc) h' y (ledgerRes xs c).1 fq ∧ Fre h fq := by
  obtain ⟨y0, h1, f0, e1, o1, w1, f1⟩ := l10Copy_c (Z := Z) hS10 hf w sm
  have wx := w.on (Fl.ok _) o1
  have e2 := sBookOk_run (Z := Z) hS10 wx hok
  have e8 := l10Find_run (Z := Z) hS10 w1 c.a
  have e7 := l10Find_run (Z := Z) hS10 wx c.a
  have z0 : ((0 : Int) != 0) = false := rfl
  have z1 : ((1 : Int) != 0) = true := rfl
  have z2 : ((2 : Int) != 0) = true := rfl
  rw [call_run F Z (hS17.lk (g := 294) rfl) _ _ rfl]
  cases hb : bookOk xs with
  | false =>
    rw [hb] at e2
    have hd : ledgerRes xs c = (xs, 1) := by simp [ledgerRes, hb]
    rw [hd]
    have hv : ledgerVal (xs, 1) c.a = 0 := by simp [ledgerVal]
    rw [hv]
    simp only [run0, run1, run2, run3, run4, noSlot, ownS, ownK, memN, RO.dst, lk, drop, forget, number, Nat.reduceBEq, cut?, splice?, builds, List.length_cons, List.length_nil, List.drop_succ_cons, List.drop_zero, List.take_succ_cons, List.take_zero, List.cons_append, List.nil_append, List.append_nil, List.drop_nil, List.take_nil, Nat.reduceAdd, Nat.reduceLeDiff, Nat.zero_add, Nat.add_zero, ↓reduceIte, Bool.not_true, Bool.not_false, decide_true, decide_false, eq_self, bne_self_eq_false, List.getElem?_cons_zero, List.getElem?_cons_succ, decide_eq_true_eq, Bool.false_eq_true, Bool.true_eq_false, reduceCtorEq, Nat.le_refl, LedgerCall.enc, e1, e2, e8, z1]
    exact ⟨_, _, _, rfl, o1, w1, f1⟩
  | true =>
    rw [hb] at e2
    by_cases k0 : c.kind = 0
    · have k0' : (c.kind == 0) = true := by simpa using k0
      have hact : ledgerRes xs c = openBook xs c.a := by simp [ledgerRes, hb, ledgerAct, k0]
      rw [hact]
      obtain ⟨y, h2, fq, e3, o3, u3, f3⟩ := sOpenAccount_c (Z := Z) hS10 (o1.le hf) wx c.a hok sm
      replace f3 : Fre h fq := ⟨fun id hid => Nat.le_trans o1.ext.1 (f3.lo id hid), f3.nd⟩
      replace o3 := o1.trans o3
      have hsr : Srt (openBook xs c.a).1 := openBook_srt hb c.a
      generalize hr : openBook xs c.a = r at *
      have e9 := l10Find_run (Z := Z) hS10 u3 c.a
      rcases tail_cases (a := c.a) hsr with ⟨t1, t2⟩ | ⟨t1, t2, t3, t4⟩ | ⟨t1, i, t2, t3, t4, t5, t6⟩
      · have t1' : (r.2 != 0) = true := by simpa using t1
        rw [t2]
        simp only [run0, run1, run2, run3, run4, noSlot, ownS, ownK, memN, RO.dst, lk, drop, forget, number, Nat.reduceBEq, cut?, splice?, builds, List.length_cons, List.length_nil, List.drop_succ_cons, List.drop_zero, List.take_succ_cons, List.take_zero, List.cons_append, List.nil_append, List.append_nil, List.drop_nil, List.take_nil, Nat.reduceAdd, Nat.reduceLeDiff, Nat.zero_add, Nat.add_zero, ↓reduceIte, Bool.not_true, Bool.not_false, decide_true, decide_false, eq_self, bne_self_eq_false, List.getElem?_cons_zero, List.getElem?_cons_succ, decide_eq_true_eq, Bool.false_eq_true, Bool.true_eq_false, reduceCtorEq, Nat.le_refl, LedgerCall.enc, e1, e2, k0', e3, e9, t1']
        exact ⟨_, _, _, rfl, o3, u3, f3⟩
      · have t1' : (r.2 != 0) = false := by simpa using t1
        rw [t3] at e9
        rw [t4]
        simp only [run0, run1, run2, run3, run4, noSlot, ownS, ownK, memN, RO.dst, lk, drop, forget, number, Nat.reduceBEq, cut?, splice?, builds, List.length_cons, List.length_nil, List.drop_succ_cons, List.drop_zero, List.take_succ_cons, List.take_zero, List.cons_append, List.nil_append, List.append_nil, List.drop_nil, List.take_nil, Nat.reduceAdd, Nat.reduceLeDiff, Nat.zero_add, Nat.add_zero, ↓reduceIte, Bool.not_true, Bool.not_false, decide_true, decide_false, eq_self, bne_self_eq_false, List.getElem?_cons_zero, List.getElem?_cons_succ, decide_eq_true_eq, Bool.false_eq_true, Bool.true_eq_false, reduceCtorEq, Nat.le_refl, LedgerCall.enc, e1, e2, k0', e3, e9, t1', Int.reduceLT, Int.reduceNeg]
        exact ⟨_, _, _, rfl, o3, u3, f3⟩
      · have t1' : (r.2 != 0) = false := by simpa using t1
        rw [t4] at e9
        rw [t6]
        have g0 : ¬ (i : Int) < 0 := by omega
        have hyi := u3.idx t5
        have hld := u3.load t5
        rw [← Account.at_get t5] at hld
        simp only [Account.enc] at hld
        simp only [run0, run1, run2, run3, run4, noSlot, ownS, ownK, memN, RO.dst, lk, drop, forget, number, Nat.reduceBEq, cut?, splice?, builds, List.length_cons, List.length_nil, List.drop_succ_cons, List.drop_zero, List.take_succ_cons, List.take_zero, List.cons_append, List.nil_append, List.append_nil, List.drop_nil, List.take_nil, Nat.reduceAdd, Nat.reduceLeDiff, Nat.zero_add, Nat.add_zero, ↓reduceIte, Bool.not_true, Bool.not_false, decide_true, decide_false, eq_self, bne_self_eq_false, List.getElem?_cons_zero, List.getElem?_cons_succ, decide_eq_true_eq, Bool.false_eq_true, Bool.true_eq_false, reduceCtorEq, Nat.le_refl, LedgerCall.enc, e1, e2, k0', e3, e9, t1', g0, hyi, hld]
        exact ⟨_, _, _, rfl, o3, u3, f3⟩
    have k0' : (c.kind == 0) = false := by simpa using k0
    by_cases k1 : c.kind = 1
    · have k1' : (c.kind == 1) = true := by simpa using k1
      have hact : ledgerRes xs c = bookDo xs c.a closeF := by simp [ledgerRes, hb, ledgerAct, k1]
      rw [hact]
      obtain ⟨y, h2, fq, e3, o3, u3, f3⟩ := sCloseAccount_c (Z := Z) hS10 (o1.le hf) wx c.a hok sm
      replace f3 : Fre h fq := ⟨fun id hid => Nat.le_trans o1.ext.1 (f3.lo id hid), f3.nd⟩
      replace o3 := o1.trans o3
      have hsr : Srt (bookDo xs c.a closeF).1 := bookDo_srt hb c.a closeF_id
      generalize hr : bookDo xs c.a closeF = r at *
      have e9 := l10Find_run (Z := Z) hS10 u3 c.a
      rcases tail_cases (a := c.a) hsr with ⟨t1, t2⟩ | ⟨t1, t2, t3, t4⟩ | ⟨t1, i, t2, t3, t4, t5, t6⟩
      · have t1' : (r.2 != 0) = true := by simpa using t1
        rw [t2]
        simp only [run0, run1, run2, run3, run4, noSlot, ownS, ownK, memN, RO.dst, lk, drop, forget, number, Nat.reduceBEq, cut?, splice?, builds, List.length_cons, List.length_nil, List.drop_succ_cons, List.drop_zero, List.take_succ_cons, List.take_zero, List.cons_append, List.nil_append, List.append_nil, List.drop_nil, List.take_nil, Nat.reduceAdd, Nat.reduceLeDiff, Nat.zero_add, Nat.add_zero, ↓reduceIte, Bool.not_true, Bool.not_false, decide_true, decide_false, eq_self, bne_self_eq_false, List.getElem?_cons_zero, List.getElem?_cons_succ, decide_eq_true_eq, Bool.false_eq_true, Bool.true_eq_false, reduceCtorEq, Nat.le_refl, LedgerCall.enc, e1, e2, k0', k1', e3, e9, t1']
        exact ⟨_, _, _, rfl, o3, u3, f3⟩
      · have t1' : (r.2 != 0) = false := by simpa using t1
        rw [t3] at e9
        rw [t4]
        simp only [run0, run1, run2, run3, run4, noSlot, ownS, ownK, memN, RO.dst, lk, drop, forget, number, Nat.reduceBEq, cut?, splice?, builds, List.length_cons, List.length_nil, List.drop_succ_cons, List.drop_zero, List.take_succ_cons, List.take_zero, List.cons_append, List.nil_append, List.append_nil, List.drop_nil, List.take_nil, Nat.reduceAdd, Nat.reduceLeDiff, Nat.zero_add, Nat.add_zero, ↓reduceIte, Bool.not_true, Bool.not_false, decide_true, decide_false, eq_self, bne_self_eq_false, List.getElem?_cons_zero, List.getElem?_cons_succ, decide_eq_true_eq, Bool.false_eq_true, Bool.true_eq_false, reduceCtorEq, Nat.le_refl, LedgerCall.enc, e1, e2, k0', k1', e3, e9, t1', Int.reduceLT, Int.reduceNeg]
        exact ⟨_, _, _, rfl, o3, u3, f3⟩
      · have t1' : (r.2 != 0) = false := by simpa using t1
        rw [t4] at e9
        rw [t6]
        have g0 : ¬ (i : Int) < 0 := by omega
        have hyi := u3.idx t5
        have hld := u3.load t5
        rw [← Account.at_get t5] at hld
        simp only [Account.enc] at hld
        simp only [run0, run1, run2, run3, run4, noSlot, ownS, ownK, memN, RO.dst, lk, drop, forget, number, Nat.reduceBEq, cut?, splice?, builds, List.length_cons, List.length_nil, List.drop_succ_cons, List.drop_zero, List.take_succ_cons, List.take_zero, List.cons_append, List.nil_append, List.append_nil, List.drop_nil, List.take_nil, Nat.reduceAdd, Nat.reduceLeDiff, Nat.zero_add, Nat.add_zero, ↓reduceIte, Bool.not_true, Bool.not_false, decide_true, decide_false, eq_self, bne_self_eq_false, List.getElem?_cons_zero, List.getElem?_cons_succ, decide_eq_true_eq, Bool.false_eq_true, Bool.true_eq_false, reduceCtorEq, Nat.le_refl, LedgerCall.enc, e1, e2, k0', k1', e3, e9, t1', g0, hyi, hld]
        exact ⟨_, _, _, rfl, o3, u3, f3⟩
    have k1' : (c.kind == 1) = false := by simpa using k1
    by_cases k2 : c.kind = 2
    · have k2' : (c.kind == 2) = true := by simpa using k2
      have hact : ledgerRes xs c = bookDo xs c.a (depF c.amount) := by simp [ledgerRes, hb, ledgerAct, k2]
      rw [hact]
      obtain ⟨y, h2, fq, e3, o3, u3, f3⟩ := sDeposit_c (Z := Z) hS10 (o1.le hf) wx c.a c.amount okc.amount hok sm
      replace f3 : Fre h fq := ⟨fun id hid => Nat.le_trans o1.ext.1 (f3.lo id hid), f3.nd⟩
      replace o3 := o1.trans o3
      have hsr : Srt (bookDo xs c.a (depF c.amount)).1 := bookDo_srt hb c.a (depF_id _)
      generalize hr : bookDo xs c.a (depF c.amount) = r at *
      have e9 := l10Find_run (Z := Z) hS10 u3 c.a
      rcases tail_cases (a := c.a) hsr with ⟨t1, t2⟩ | ⟨t1, t2, t3, t4⟩ | ⟨t1, i, t2, t3, t4, t5, t6⟩
      · have t1' : (r.2 != 0) = true := by simpa using t1
        rw [t2]
        simp only [run0, run1, run2, run3, run4, noSlot, ownS, ownK, memN, RO.dst, lk, drop, forget, number, Nat.reduceBEq, cut?, splice?, builds, List.length_cons, List.length_nil, List.drop_succ_cons, List.drop_zero, List.take_succ_cons, List.take_zero, List.cons_append, List.nil_append, List.append_nil, List.drop_nil, List.take_nil, Nat.reduceAdd, Nat.reduceLeDiff, Nat.zero_add, Nat.add_zero, ↓reduceIte, Bool.not_true, Bool.not_false, decide_true, decide_false, eq_self, bne_self_eq_false, List.getElem?_cons_zero, List.getElem?_cons_succ, decide_eq_true_eq, Bool.false_eq_true, Bool.true_eq_false, reduceCtorEq, Nat.le_refl, LedgerCall.enc, e1, e2, k0', k1', k2', e3, e9, t1']
        exact ⟨_, _, _, rfl, o3, u3, f3⟩
      · have t1' : (r.2 != 0) = false := by simpa using t1
        rw [t3] at e9
        rw [t4]
        simp only [run0, run1, run2, run3, run4, noSlot, ownS, ownK, memN, RO.dst, lk, drop, forget, number, Nat.reduceBEq, cut?, splice?, builds, List.length_cons, List.length_nil, List.drop_succ_cons, List.drop_zero, List.take_succ_cons, List.take_zero, List.cons_append, List.nil_append, List.append_nil, List.drop_nil, List.take_nil, Nat.reduceAdd, Nat.reduceLeDiff, Nat.zero_add, Nat.add_zero, ↓reduceIte, Bool.not_true, Bool.not_false, decide_true, decide_false, eq_self, bne_self_eq_false, List.getElem?_cons_zero, List.getElem?_cons_succ, decide_eq_true_eq, Bool.false_eq_true, Bool.true_eq_false, reduceCtorEq, Nat.le_refl, LedgerCall.enc, e1, e2, k0', k1', k2', e3, e9, t1', Int.reduceLT, Int.reduceNeg]
        exact ⟨_, _, _, rfl, o3, u3, f3⟩
      · have t1' : (r.2 != 0) = false := by simpa using t1
        rw [t4] at e9
        rw [t6]
        have g0 : ¬ (i : Int) < 0 := by omega
        have hyi := u3.idx t5
        have hld := u3.load t5
        rw [← Account.at_get t5] at hld
        simp only [Account.enc] at hld
        simp only [run0, run1, run2, run3, run4, noSlot, ownS, ownK, memN, RO.dst, lk, drop, forget, number, Nat.reduceBEq, cut?, splice?, builds, List.length_cons, List.length_nil, List.drop_succ_cons, List.drop_zero, List.take_succ_cons, List.take_zero, List.cons_append, List.nil_append, List.append_nil, List.drop_nil, List.take_nil, Nat.reduceAdd, Nat.reduceLeDiff, Nat.zero_add, Nat.add_zero, ↓reduceIte, Bool.not_true, Bool.not_false, decide_true, decide_false, eq_self, bne_self_eq_false, List.getElem?_cons_zero, List.getElem?_cons_succ, decide_eq_true_eq, Bool.false_eq_true, Bool.true_eq_false, reduceCtorEq, Nat.le_refl, LedgerCall.enc, e1, e2, k0', k1', k2', e3, e9, t1', g0, hyi, hld]
        exact ⟨_, _, _, rfl, o3, u3, f3⟩
    have k2' : (c.kind == 2) = false := by simpa using k2
    by_cases k3 : c.kind = 3
    · have k3' : (c.kind == 3) = true := by simpa using k3
      have hact : ledgerRes xs c = bookDo xs c.a (witF c.amount) := by simp [ledgerRes, hb, ledgerAct, k3]
      rw [hact]
      obtain ⟨y, h2, fq, e3, o3, u3, f3⟩ := sWithdraw_c (Z := Z) hS10 (o1.le hf) wx c.a c.amount okc.amount hok sm
      replace f3 : Fre h fq := ⟨fun id hid => Nat.le_trans o1.ext.1 (f3.lo id hid), f3.nd⟩
      replace o3 := o1.trans o3
      have hsr : Srt (bookDo xs c.a (witF c.amount)).1 := bookDo_srt hb c.a (witF_id _)
      generalize hr : bookDo xs c.a (witF c.amount) = r at *
      have e9 := l10Find_run (Z := Z) hS10 u3 c.a
      rcases tail_cases (a := c.a) hsr with ⟨t1, t2⟩ | ⟨t1, t2, t3, t4⟩ | ⟨t1, i, t2, t3, t4, t5, t6⟩
      · have t1' : (r.2 != 0) = true := by simpa using t1
        rw [t2]
        simp only [run0, run1, run2, run3, run4, noSlot, ownS, ownK, memN, RO.dst, lk, drop, forget, number, Nat.reduceBEq, cut?, splice?, builds, List.length_cons, List.length_nil, List.drop_succ_cons, List.drop_zero, List.take_succ_cons, List.take_zero, List.cons_append, List.nil_append, List.append_nil, List.drop_nil, List.take_nil, Nat.reduceAdd, Nat.reduceLeDiff, Nat.zero_add, Nat.add_zero, ↓reduceIte, Bool.not_true, Bool.not_false, decide_true, decide_false, eq_self, bne_self_eq_false, List.getElem?_cons_zero, List.getElem?_cons_succ, decide_eq_true_eq, Bool.false_eq_true, Bool.true_eq_false, reduceCtorEq, Nat.le_refl, LedgerCall.enc, e1, e2, k0', k1', k2', k3', e3, e9, t1']
        exact ⟨_, _, _, rfl, o3, u3, f3⟩
      · have t1' : (r.2 != 0) = false := by simpa using t1
        rw [t3] at e9
        rw [t4]
        simp only [run0, run1, run2, run3, run4, noSlot, ownS, ownK, memN, RO.dst, lk, drop, forget, number, Nat.reduceBEq, cut?, splice?, builds, List.length_cons, List.length_nil, List.drop_succ_cons, List.drop_zero, List.take_succ_cons, List.take_zero, List.cons_append, List.nil_append, List.append_nil, List.drop_nil, List.take_nil, Nat.reduceAdd, Nat.reduceLeDiff, Nat.zero_add, Nat.add_zero, ↓reduceIte, Bool.not_true, Bool.not_false, decide_true, decide_false, eq_self, bne_self_eq_false, List.getElem?_cons_zero, List.getElem?_cons_succ, decide_eq_true_eq, Bool.false_eq_true, Bool.true_eq_false, reduceCtorEq, Nat.le_refl, LedgerCall.enc, e1, e2, k0', k1', k2', k3', e3, e9, t1', Int.reduceLT, Int.reduceNeg]
        exact ⟨_, _, _, rfl, o3, u3, f3⟩
      · have t1' : (r.2 != 0) = false := by simpa using t1
        rw [t4] at e9
        rw [t6]
        have g0 : ¬ (i : Int) < 0 := by omega
        have hyi := u3.idx t5
        have hld := u3.load t5
        rw [← Account.at_get t5] at hld
        simp only [Account.enc] at hld
        simp only [run0, run1, run2, run3, run4, noSlot, ownS, ownK, memN, RO.dst, lk, drop, forget, number, Nat.reduceBEq, cut?, splice?, builds, List.length_cons, List.length_nil, List.drop_succ_cons, List.drop_zero, List.take_succ_cons, List.take_zero, List.cons_append, List.nil_append, List.append_nil, List.drop_nil, List.take_nil, Nat.reduceAdd, Nat.reduceLeDiff, Nat.zero_add, Nat.add_zero, ↓reduceIte, Bool.not_true, Bool.not_false, decide_true, decide_false, eq_self, bne_self_eq_false, List.getElem?_cons_zero, List.getElem?_cons_succ, decide_eq_true_eq, Bool.false_eq_true, Bool.true_eq_false, reduceCtorEq, Nat.le_refl, LedgerCall.enc, e1, e2, k0', k1', k2', k3', e3, e9, t1', g0, hyi, hld]
        exact ⟨_, _, _, rfl, o3, u3, f3⟩
    have k3' : (c.kind == 3) = false := by simpa using k3
    by_cases k4 : c.kind = 4
    · have k4' : (c.kind == 4) = true := by simpa using k4
      have hact : ledgerRes xs c = moveBook xs c.a c.b c.amount := by simp [ledgerRes, hb, ledgerAct, k4]
      rw [hact]
      obtain ⟨y, h2, fq, e3, o3, u3, f3⟩ := sMoveMoney_c (Z := Z) hS10 (o1.le hf) wx c.a c.b c.amount okc.amount hok sm
      replace f3 : Fre h fq := ⟨fun id hid => Nat.le_trans o1.ext.1 (f3.lo id hid), f3.nd⟩
      replace o3 := o1.trans o3
      have hsr : Srt (moveBook xs c.a c.b c.amount).1 := moveBook_srt hb c.a c.b c.amount
      generalize hr : moveBook xs c.a c.b c.amount = r at *
      have e9 := l10Find_run (Z := Z) hS10 u3 c.a
      rcases tail_cases (a := c.a) hsr with ⟨t1, t2⟩ | ⟨t1, t2, t3, t4⟩ | ⟨t1, i, t2, t3, t4, t5, t6⟩
      · have t1' : (r.2 != 0) = true := by simpa using t1
        rw [t2]
        simp only [run0, run1, run2, run3, run4, noSlot, ownS, ownK, memN, RO.dst, lk, drop, forget, number, Nat.reduceBEq, cut?, splice?, builds, List.length_cons, List.length_nil, List.drop_succ_cons, List.drop_zero, List.take_succ_cons, List.take_zero, List.cons_append, List.nil_append, List.append_nil, List.drop_nil, List.take_nil, Nat.reduceAdd, Nat.reduceLeDiff, Nat.zero_add, Nat.add_zero, ↓reduceIte, Bool.not_true, Bool.not_false, decide_true, decide_false, eq_self, bne_self_eq_false, List.getElem?_cons_zero, List.getElem?_cons_succ, decide_eq_true_eq, Bool.false_eq_true, Bool.true_eq_false, reduceCtorEq, Nat.le_refl, LedgerCall.enc, e1, e2, k0', k1', k2', k3', k4', e3, e9, t1']
        exact ⟨_, _, _, rfl, o3, u3, f3⟩
      · have t1' : (r.2 != 0) = false := by simpa using t1
        rw [t3] at e9
        rw [t4]
        simp only [run0, run1, run2, run3, run4, noSlot, ownS, ownK, memN, RO.dst, lk, drop, forget, number, Nat.reduceBEq, cut?, splice?, builds, List.length_cons, List.length_nil, List.drop_succ_cons, List.drop_zero, List.take_succ_cons, List.take_zero, List.cons_append, List.nil_append, List.append_nil, List.drop_nil, List.take_nil, Nat.reduceAdd, Nat.reduceLeDiff, Nat.zero_add, Nat.add_zero, ↓reduceIte, Bool.not_true, Bool.not_false, decide_true, decide_false, eq_self, bne_self_eq_false, List.getElem?_cons_zero, List.getElem?_cons_succ, decide_eq_true_eq, Bool.false_eq_true, Bool.true_eq_false, reduceCtorEq, Nat.le_refl, LedgerCall.enc, e1, e2, k0', k1', k2', k3', k4', e3, e9, t1', Int.reduceLT, Int.reduceNeg]
        exact ⟨_, _, _, rfl, o3, u3, f3⟩
      · have t1' : (r.2 != 0) = false := by simpa using t1
        rw [t4] at e9
        rw [t6]
        have g0 : ¬ (i : Int) < 0 := by omega
        have hyi := u3.idx t5
        have hld := u3.load t5
        rw [← Account.at_get t5] at hld
        simp only [Account.enc] at hld
        simp only [run0, run1, run2, run3, run4, noSlot, ownS, ownK, memN, RO.dst, lk, drop, forget, number, Nat.reduceBEq, cut?, splice?, builds, List.length_cons, List.length_nil, List.drop_succ_cons, List.drop_zero, List.take_succ_cons, List.take_zero, List.cons_append, List.nil_append, List.append_nil, List.drop_nil, List.take_nil, Nat.reduceAdd, Nat.reduceLeDiff, Nat.zero_add, Nat.add_zero, ↓reduceIte, Bool.not_true, Bool.not_false, decide_true, decide_false, eq_self, bne_self_eq_false, List.getElem?_cons_zero, List.getElem?_cons_succ, decide_eq_true_eq, Bool.false_eq_true, Bool.true_eq_false, reduceCtorEq, Nat.le_refl, LedgerCall.enc, e1, e2, k0', k1', k2', k3', k4', e3, e9, t1', g0, hyi, hld]
        exact ⟨_, _, _, rfl, o3, u3, f3⟩
    have k4' : (c.kind == 4) = false := by simpa using k4
    by_cases k5 : c.kind = 5
    · have k5' : (c.kind == 5) = true := by simpa using k5
      rcases acc_found hb c.a with ⟨q1, q2⟩ | ⟨i, q1, q2, q3, hi, q5⟩
      · have hact : ledgerRes xs c = (xs, 2) := by simp [ledgerRes, hb, ledgerAct, k5, q1]
        have hv : ledgerVal (xs, 2) c.a = 0 := by simp [ledgerVal]
        rw [hact, hv]
        rw [q1] at e7 e8
        simp only [run0, run1, run2, run3, run4, noSlot, ownS, ownK, memN, RO.dst, lk, drop, forget, number, Nat.reduceBEq, cut?, splice?, builds, List.length_cons, List.length_nil, List.drop_succ_cons, List.drop_zero, List.take_succ_cons, List.take_zero, List.cons_append, List.nil_append, List.append_nil, List.drop_nil, List.take_nil, Nat.reduceAdd, Nat.reduceLeDiff, Nat.zero_add, Nat.add_zero, ↓reduceIte, Bool.not_true, Bool.not_false, decide_true, decide_false, eq_self, bne_self_eq_false, List.getElem?_cons_zero, List.getElem?_cons_succ, decide_eq_true_eq, Bool.false_eq_true, Bool.true_eq_false, reduceCtorEq, Nat.le_refl, LedgerCall.enc, e1, e2, k0', k1', k2', k3', k4', k5', e7, e8, z2, Int.reduceLT, Int.reduceNeg]
        exact ⟨_, _, _, rfl, o1, w1, f1⟩
      · have hact : ledgerRes xs c = (xs, 0) := by simp [ledgerRes, hb, ledgerAct, k5, q1]
        have hv : ledgerVal (xs, 0) c.a = (Account.at_ xs i).bal := by simp [ledgerVal, q1]
        rw [hact, hv]
        have hyi := w1.idx hi
        have hld := w1.load hi
        rw [← Account.at_get hi] at hld
        simp only [Account.enc] at hld
        have g0 : ¬ (i : Int) < 0 := by omega
        rw [q1] at e7 e8
        simp only [run0, run1, run2, run3, run4, noSlot, ownS, ownK, memN, RO.dst, lk, drop, forget, number, Nat.reduceBEq, cut?, splice?, builds, List.length_cons, List.length_nil, List.drop_succ_cons, List.drop_zero, List.take_succ_cons, List.take_zero, List.cons_append, List.nil_append, List.append_nil, List.drop_nil, List.take_nil, Nat.reduceAdd, Nat.reduceLeDiff, Nat.zero_add, Nat.add_zero, ↓reduceIte, Bool.not_true, Bool.not_false, decide_true, decide_false, eq_self, bne_self_eq_false, List.getElem?_cons_zero, List.getElem?_cons_succ, decide_eq_true_eq, Bool.false_eq_true, Bool.true_eq_false, reduceCtorEq, Nat.le_refl, LedgerCall.enc, e1, e2, k0', k1', k2', k3', k4', k5', e7, e8, z0, g0, hyi, hld]
        exact ⟨_, _, _, rfl, o1, w1, f1⟩
    have k5' : (c.kind == 5) = false := by simpa using k5
    have hact : ledgerRes xs c = (xs, 1) := by simp [ledgerRes, hb, ledgerAct, k0', k1', k2', k3', k4', k5']
    have hv : ledgerVal (xs, 1) c.a = 0 := by simp [ledgerVal]
    rw [hact, hv]
    simp only [run0, run1, run2, run3, run4, noSlot, ownS, ownK, memN, RO.dst, lk, drop, forget, number, Nat.reduceBEq, cut?, splice?, builds, List.length_cons, List.length_nil, List.drop_succ_cons, List.drop_zero, List.take_succ_cons, List.take_zero, List.cons_append, List.nil_append, List.append_nil, List.drop_nil, List.take_nil, Nat.reduceAdd, Nat.reduceLeDiff, Nat.zero_add, Nat.add_zero, ↓reduceIte, Bool.not_true, Bool.not_false, decide_true, decide_false, eq_self, bne_self_eq_false, List.getElem?_cons_zero, List.getElem?_cons_succ, decide_eq_true_eq, Bool.false_eq_true, Bool.true_eq_false, reduceCtorEq, Nat.le_refl, LedgerCall.enc, e1, e2, k0', k1', k2', k3', k4', k5', e8, z1]
    exact ⟨_, _, _, rfl, o1, w1, f1⟩
end
section
variable {F : Nat → Option RF} {Z : CallF} {h : Heap} {cs : List Cell} {t : Book} {fp : List Nat}
def doLedger (t : Book) (c : LedgerCall) : Book × Int × Int := (⟨(ledgerRes t.list c).1⟩, (ledgerRes t.list c).2, ledgerVal (ledgerRes t.list c) c.a)
theorem doLedger_len (t : Book) (c : LedgerCall) : (doLedger t c).1.list.length ≤ t.list.length + 1 := ledgerRes_len _ _
theorem DoLedger_c (hI10 : Has F tI10) (hI17 : Has F tI17) (pri : PrimAt F Z 343 (insF 11 40)) (prd : PrimAt F Z 348 (delF 11)) (hf : h.floor ≤ h.next) (v : Book.RI h cs t fp) (c : LedgerCall) (okc : c.Ok) (ok : t.Ok) (sm : t.Small) :
    ∃ cs' h' fq, call F Z 295 [.agg cs, .agg c.enc] h = some (.tup [.agg cs', .c (.int .i64 (doLedger t c).2.1), .c (.int .u64 (doLedger t c).2.2)], h') ∧ On h h' ∧ Book.RI h' cs' (doLedger t c).1 fq ∧ Fre h fq := by
  obtain ⟨x, p, rfl, rfl, w⟩ := v
  obtain ⟨y, h', fq, e, o, u, f⟩ := doLedger_c (Z := Z) hI10 hI17 pri prd hf w c okc ok.list sm
  rw [call_run F Z (hI17.lk (g := 295) rfl) _ _ rfl]
  simp only [LedgerCall.enc] at e ⊢
  simp only [run0, run1, run2, run3, run4, noSlot, ownS, ownK, memN, RO.dst, lk, drop, forget, number, Nat.reduceBEq, cut?, splice?, builds, List.length_cons, List.length_nil, List.drop_succ_cons, List.drop_zero, List.take_succ_cons, List.take_zero, List.cons_append, List.nil_append, List.append_nil, List.drop_nil, List.take_nil, Nat.reduceAdd, Nat.reduceLeDiff, Nat.zero_add, Nat.add_zero, ↓reduceIte, Bool.not_true, Bool.not_false, decide_true, decide_false, eq_self, bne_self_eq_false, List.getElem?_cons_zero, List.getElem?_cons_succ, decide_eq_true_eq, Bool.false_eq_true, Bool.true_eq_false, reduceCtorEq, Nat.le_refl, e]
  exact ⟨_, _, _, rfl, o, ⟨y, _, rfl, rfl, u⟩, f⟩
theorem sDoLedger_c (hS10 : Has F tS10) (hS17 : Has F tS17) (hf : h.floor ≤ h.next) (v : Book.RI h cs t fp) (c : LedgerCall) (okc : c.Ok) (ok : t.Ok) (sm : t.Small) :
    ∃ cs' h' fq, call F Z 294 [.agg cs, .agg c.enc] h = some (.tup [.agg cs', .c (.int .i64 (doLedger t c).2.1), .c (.int .u64 (doLedger t c).2.2)], h') ∧ On h h' ∧ Book.RI h' cs' (doLedger t c).1 fq ∧ Fre h fq := by
  obtain ⟨x, p, rfl, rfl, w⟩ := v
  obtain ⟨y, h', fq, e, o, u, f⟩ := sDoLedger_c0 (Z := Z) hS10 hS17 hf w c okc ok.list sm
  exact ⟨[y], h', fq, e, o, ⟨y, _, rfl, rfl, u⟩, f⟩
end
end Go.Proofs.Ytcdlbjomdokmiaa.A
/- What the functions of a call's record compute. -/
namespace Go.Proofs.Ytcdlbjomdokmiaa.A
open Go
set_option linter.unusedSimpArgs false
set_option linter.unusedVariables false
structure Past where
  kind : Int
  a : Int
  b : Int
  m : Int
  start : Int
  end_ : Int
  code : Int
  value : Int
  deriving DecidableEq
def Past.enc (p : Past) : List Cell := [.int .i64 p.kind, .int .u64 p.a, .int .u64 p.b, .int .u64 p.m, .int .i64 p.start, .int .i64 p.end_, .int .i64 p.code, .int .u64 p.value]
theorem Past.len (t : Past) : t.enc.length = 8 := rfl
theorem Past.tak (t : Past) : t.enc.take 8 = t.enc := rfl
theorem Wf.past {h : Heap} {n : Nat} {cs : List Cell} (w : Wf h (n + 3) shPast cs) : ∃ kind a b m start end_ code value, cs = [.int .i64 kind, .int .u64 a, .int .u64 b, .int .u64 m, .int .i64 start, .int .i64 end_, .int .i64 code, .int .u64 value] := by
  obtain ⟨_, _, rfl, _, ⟨_, _, rfl, _, ⟨k, rfl, _⟩, _, _, rfl, _, ⟨a, rfl, _⟩, _, _, rfl, _, ⟨b, rfl, _⟩, _, _, rfl, _, ⟨m, rfl, _⟩, rfl⟩, _, _, rfl, _, ⟨s, rfl, _⟩, _, _, rfl, _, ⟨e, rfl, _⟩, _, _, rfl, _, ⟨c, rfl, _⟩, _, _, rfl, _, ⟨v, rfl, _⟩, rfl⟩ := w
  exact ⟨k, a, b, m, s, e, c, v, rfl⟩
section
variable {F : Nat → Option RF} {Z : CallF}
theorem toLedgerCallP_run (hL : Has F tLLedgerCall) (kind a b m : Int) (h : Heap) : call F Z 26 [.agg [.int .i64 kind, .int .u64 a, .int .u64 b, .int .u64 m]] h = some (.agg [.int .i64 kind, .int .u64 a, .int .u64 b, .int .u64 m], h) := by
  rw [call_run F Z (hL.lk (g := 26) rfl) _ _ rfl]
  simp only [run0, run1, run2, run3, run4, noSlot, ownS, ownK, memN, RO.dst, lk, drop, forget, number, Nat.reduceBEq, cut?, splice?, builds, List.length_cons, List.length_nil, List.drop_succ_cons, List.drop_zero, List.take_succ_cons, List.take_zero, List.cons_append, List.nil_append, List.append_nil, List.drop_nil, List.take_nil, Nat.reduceAdd, Nat.reduceLeDiff, Nat.zero_add, Nat.add_zero, ↓reduceIte, Bool.not_true, Bool.not_false, decide_true, decide_false, eq_self, bne_self_eq_false, List.getElem?_cons_zero, List.getElem?_cons_succ, decide_eq_true_eq, Bool.false_eq_true, Bool.true_eq_false, reduceCtorEq, Nat.le_refl]
theorem toPast_run (hL : Has F tLPast) (hLL : Has F tLLedgerCall) (kind a b m start end_ code value : Int) (h : Heap) : call F Z 9 [.agg [.int .i64 kind, .int .u64 a, .int .u64 b, .int .u64 m, .int .i64 start, .int .i64 end_, .int .i64 code, .int .u64 value]] h = some (.agg [.int .i64 kind, .int .u64 a, .int .u64 b, .int .u64 m, .int .i64 start, .int .i64 end_, .int .i64 code, .int .u64 value], h) := by
  rw [call_run F Z (hL.lk (g := 9) rfl) _ _ rfl]
  simp only [run0, run1, run2, run3, run4, noSlot, ownS, ownK, memN, RO.dst, lk, drop, forget, number, Nat.reduceBEq, cut?, splice?, builds, List.length_cons, List.length_nil, List.drop_succ_cons, List.drop_zero, List.take_succ_cons, List.take_zero, List.cons_append, List.nil_append, List.append_nil, List.drop_nil, List.take_nil, Nat.reduceAdd, Nat.reduceLeDiff, Nat.zero_add, Nat.add_zero, ↓reduceIte, Bool.not_true, Bool.not_false, decide_true, decide_false, eq_self, bne_self_eq_false, List.getElem?_cons_zero, List.getElem?_cons_succ, decide_eq_true_eq, Bool.false_eq_true, Bool.true_eq_false, reduceCtorEq, Nat.le_refl, toLedgerCallP_run hLL]
def aheadB (end_ start' : Int) : Bool := (end_ != -1) && decide (end_ < start')
theorem ahead_run (hI17 : Has F tI17) (kind a b m start end_ code value : Int) (kind' a' b' m' start' end_' code' value' : Int) (h : Heap) : call F Z 27 [.agg [.int .i64 kind, .int .u64 a, .int .u64 b, .int .u64 m, .int .i64 start, .int .i64 end_, .int .i64 code, .int .u64 value], .agg [.int .i64 kind', .int .u64 a', .int .u64 b', .int .u64 m', .int .i64 start', .int .i64 end_', .int .i64 code', .int .u64 value']] h = some (.c (.bool (aheadB end_ start')), h) := by
  rw [call_run F Z (hI17.lk (g := 27) rfl) _ _ rfl]
  simp only [run0, run1, run2, run3, run4, noSlot, ownS, ownK, memN, RO.dst, lk, drop, forget, number, Nat.reduceBEq, cut?, splice?, builds, List.length_cons, List.length_nil, List.drop_succ_cons, List.drop_zero, List.take_succ_cons, List.take_zero, List.cons_append, List.nil_append, List.append_nil, List.drop_nil, List.take_nil, Nat.reduceAdd, Nat.reduceLeDiff, Nat.zero_add, Nat.add_zero, ↓reduceIte, Bool.not_true, Bool.not_false, decide_true, decide_false, eq_self, bne_self_eq_false, List.getElem?_cons_zero, List.getElem?_cons_succ, decide_eq_true_eq, Bool.false_eq_true, Bool.true_eq_false, reduceCtorEq, Nat.le_refl]
  (repeat' ((first | (rw [gF_if]; split) | (rw [condC_if]; split) | (rw [pickR_if]; split)) <;> (rename_i hh; (try simp only [Bool.not_eq_true, decide_eq_true_eq] at hh); simp only [hh, run0, run1, run2, run3, run4, noSlot, ownS, ownK, memN, RO.dst, lk, drop, forget, number, Nat.reduceBEq, cut?, splice?, builds, List.length_cons, List.length_nil, List.drop_succ_cons, List.drop_zero, List.take_succ_cons, List.take_zero, List.cons_append, List.nil_append, List.append_nil, List.drop_nil, List.take_nil, Nat.reduceAdd, Nat.reduceLeDiff, Nat.zero_add, Nat.add_zero, ↓reduceIte, Bool.not_true, Bool.not_false, decide_true, decide_false, eq_self, bne_self_eq_false, List.getElem?_cons_zero, List.getElem?_cons_succ, decide_eq_true_eq, Bool.false_eq_true, Bool.true_eq_false, reduceCtorEq, Nat.le_refl]))) <;> refine fin_bool ?_ <;> simp_all [aheadB]
theorem Ahead_run (hI17 : Has F tI17) (kind a b m start end_ code value : Int) (kind' a' b' m' start' end_' code' value' : Int) (h : Heap) : call F Z 11 [.agg [.int .i64 kind, .int .u64 a, .int .u64 b, .int .u64 m, .int .i64 start, .int .i64 end_, .int .i64 code, .int .u64 value], .agg [.int .i64 kind', .int .u64 a', .int .u64 b', .int .u64 m', .int .i64 start', .int .i64 end_', .int .i64 code', .int .u64 value']] h = some (.c (.bool (aheadB end_ start')), h) := by
  rw [call_run F Z (hI17.lk (g := 11) rfl) _ _ rfl]
  simp only [run0, run1, run2, run3, run4, noSlot, ownS, ownK, memN, RO.dst, lk, drop, forget, number, Nat.reduceBEq, cut?, splice?, builds, List.length_cons, List.length_nil, List.drop_succ_cons, List.drop_zero, List.take_succ_cons, List.take_zero, List.cons_append, List.nil_append, List.append_nil, List.drop_nil, List.take_nil, Nat.reduceAdd, Nat.reduceLeDiff, Nat.zero_add, Nat.add_zero, ↓reduceIte, Bool.not_true, Bool.not_false, decide_true, decide_false, eq_self, bne_self_eq_false, List.getElem?_cons_zero, List.getElem?_cons_succ, decide_eq_true_eq, Bool.false_eq_true, Bool.true_eq_false, reduceCtorEq, Nat.le_refl, ahead_run hI17]
theorem sAhead_run (hS17 : Has F tS17) (kind a b m start end_ code value : Int) (kind' a' b' m' start' end_' code' value' : Int) (h : Heap) : call F Z 10 [.agg [.int .i64 kind, .int .u64 a, .int .u64 b, .int .u64 m, .int .i64 start, .int .i64 end_, .int .i64 code, .int .u64 value], .agg [.int .i64 kind', .int .u64 a', .int .u64 b', .int .u64 m', .int .i64 start', .int .i64 end_', .int .i64 code', .int .u64 value']] h = some (.c (.bool (aheadB end_ start')), h) := by
  rw [call_run F Z (hS17.lk (g := 10) rfl) _ _ rfl]
  simp only [run0, run1, run2, run3, run4, noSlot, ownS, ownK, memN, RO.dst, lk, drop, forget, number, Nat.reduceBEq, cut?, splice?, builds, List.length_cons, List.length_nil, List.drop_succ_cons, List.drop_zero, List.take_succ_cons, List.take_zero, List.cons_append, List.nil_append, List.append_nil, List.drop_nil, List.take_nil, Nat.reduceAdd, Nat.reduceLeDiff, Nat.zero_add, Nat.add_zero, ↓reduceIte, Bool.not_true, Bool.not_false, decide_true, decide_false, eq_self, bne_self_eq_false, List.getElem?_cons_zero, List.getElem?_cons_succ, decide_eq_true_eq, Bool.false_eq_true, Bool.true_eq_false, reduceCtorEq, Nat.le_refl]
  (repeat' ((first | (rw [gF_if]; split) | (rw [condC_if]; split) | (rw [pickR_if]; split)) <;> (rename_i hh; (try simp only [Bool.not_eq_true, decide_eq_true_eq] at hh); simp only [hh, run0, run1, run2, run3, run4, noSlot, ownS, ownK, memN, RO.dst, lk, drop, forget, number, Nat.reduceBEq, cut?, splice?, builds, List.length_cons, List.length_nil, List.drop_succ_cons, List.drop_zero, List.take_succ_cons, List.take_zero, List.cons_append, List.nil_append, List.append_nil, List.drop_nil, List.take_nil, Nat.reduceAdd, Nat.reduceLeDiff, Nat.zero_add, Nat.add_zero, ↓reduceIte, Bool.not_true, Bool.not_false, decide_true, decide_false, eq_self, bne_self_eq_false, List.getElem?_cons_zero, List.getElem?_cons_succ, decide_eq_true_eq, Bool.false_eq_true, Bool.true_eq_false, reduceCtorEq, Nat.le_refl]))) <;> refine fin_bool ?_ <;> simp_all [aheadB]
end
end Go.Proofs.Ytcdlbjomdokmiaa.A
/- What the converters of Past compute. -/
namespace Go.Proofs.Ytcdlbjomdokmiaa.A
open Go
set_option linter.unusedSimpArgs false
set_option linter.unusedVariables false
section
variable {F : Nat → Option RF} {Z : CallF} {h : Heap} {x y : Cell} {xs ys : List Past} {fp fq : List Nat}
def Past.zero : List Cell := [.int .i64 0, .int .u64 0, .int .u64 0, .int .u64 0, .int .i64 0, .int .i64 0, .int .i64 0, .int .u64 0]
theorem toPast_run' (hL : Has F tLPast) (hLL : Has F tLLedgerCall) (p : Past) (h : Heap) : call F Z 9 [.agg p.enc] h = some (.agg p.enc, h) := toPast_run hL hLL _ _ _ _ _ _ _ _ h
set_option maxHeartbeats 1000000 in
theorem eqPast_run (hL : Has F tLPast) (hLL : Has F tLLedgerCall) (p q : Past) (h : Heap) : call F Z 98 [.agg p.enc, .agg q.enc] h = some (.c (.bool (decide (p = q))), h) := by
  have hc : ∀ (kind a b m kind' a' b' m' : Int) (h : Heap), call F Z 119 [.agg [.int .i64 kind, .int .u64 a, .int .u64 b, .int .u64 m], .agg [.int .i64 kind', .int .u64 a', .int .u64 b', .int .u64 m']] h = some (.c (.bool (decide (kind = kind' ∧ a = a' ∧ b = b' ∧ m = m'))), h) := by
    intro kind a b m kind' a' b' m' h
    rw [call_run F Z (hLL.lk (g := 119) rfl) _ _ rfl]
    simp only [run0, run1, run2, run3, run4, noSlot, ownS, ownK, memN, RO.dst, lk, drop, forget, number, Nat.reduceBEq, cut?, splice?, builds, List.length_cons, List.length_nil, List.drop_succ_cons, List.drop_zero, List.take_succ_cons, List.take_zero, List.cons_append, List.nil_append, List.append_nil, List.drop_nil, List.take_nil, Nat.reduceAdd, Nat.reduceLeDiff, Nat.zero_add, Nat.add_zero, ↓reduceIte, Bool.not_true, Bool.not_false, decide_true, decide_false, eq_self, bne_self_eq_false, List.getElem?_cons_zero, List.getElem?_cons_succ, decide_eq_true_eq, Bool.false_eq_true, Bool.true_eq_false, reduceCtorEq, Nat.le_refl]
    (repeat' ((first | (rw [gF_if]; split) | (rw [condC_if]; split) | (rw [pickR_if]; split)) <;> (rename_i hh; (try simp only [Bool.not_eq_true, decide_eq_true_eq] at hh); simp only [hh, run0, run1, run2, run3, run4, noSlot, ownS, ownK, memN, RO.dst, lk, drop, forget, number, Nat.reduceBEq, cut?, splice?, builds, List.length_cons, List.length_nil, List.drop_succ_cons, List.drop_zero, List.take_succ_cons, List.take_zero, List.cons_append, List.nil_append, List.append_nil, List.drop_nil, List.take_nil, Nat.reduceAdd, Nat.reduceLeDiff, Nat.zero_add, Nat.add_zero, ↓reduceIte, Bool.not_true, Bool.not_false, decide_true, decide_false, eq_self, bne_self_eq_false, List.getElem?_cons_zero, List.getElem?_cons_succ, decide_eq_true_eq, Bool.false_eq_true, Bool.true_eq_false, reduceCtorEq, Nat.le_refl]))) <;> refine fin_bool ?_ <;> simp_all
  rw [call_run F Z (hL.lk (g := 98) rfl) _ _ rfl]
  obtain ⟨k, a, b, m, s, e, c, v⟩ := p
  obtain ⟨k', a', b', m', s', e', c', v'⟩ := q
  simp only [Past.enc, run0, run1, run2, run3, run4, noSlot, ownS, ownK, memN, RO.dst, lk, drop, forget, number, Nat.reduceBEq, cut?, splice?, builds, List.length_cons, List.length_nil, List.drop_succ_cons, List.drop_zero, List.take_succ_cons, List.take_zero, List.cons_append, List.nil_append, List.append_nil, List.drop_nil, List.take_nil, Nat.reduceAdd, Nat.reduceLeDiff, Nat.zero_add, Nat.add_zero, ↓reduceIte, Bool.not_true, Bool.not_false, decide_true, decide_false, eq_self, bne_self_eq_false, List.getElem?_cons_zero, List.getElem?_cons_succ, decide_eq_true_eq, Bool.false_eq_true, Bool.true_eq_false, reduceCtorEq, Nat.le_refl, hc]
  (repeat' ((first | (rw [gF_if]; split) | (rw [condC_if]; split) | (rw [pickR_if]; split)) <;> (rename_i hh; (try simp only [Bool.not_eq_true, decide_eq_true_eq] at hh); simp only [hh, run0, run1, run2, run3, run4, noSlot, ownS, ownK, memN, RO.dst, lk, drop, forget, number, Nat.reduceBEq, cut?, splice?, builds, List.length_cons, List.length_nil, List.drop_succ_cons, List.drop_zero, List.take_succ_cons, List.take_zero, List.cons_append, List.nil_append, List.append_nil, List.drop_nil, List.take_nil, Nat.reduceAdd, Nat.reduceLeDiff, Nat.zero_add, Nat.add_zero, ↓reduceIte, Bool.not_true, Bool.not_false, decide_true, decide_false, eq_self, bne_self_eq_false, List.getElem?_cons_zero, List.getElem?_cons_succ, decide_eq_true_eq, Bool.false_eq_true, Bool.true_eq_false, reduceCtorEq, Nat.le_refl, hc]))) <;> refine fin_bool ?_ <;> simp_all <;> (try (intros; omega))
theorem szPastS_run (hL : Has F tLPast) (w : SlR 2 (Fl Past.enc) h x xs fp) (left : Int) (h1 : 0 ≤ left) (h2 : left ≤ 1048576) : call F Z 40 [.c x, .c (.int .i64 left)] h = some (.c (.int .i64 (if left - xs.length < 0 then -1 else left - xs.length)), h) := by
  have := w.le2
  rw [call_run F Z (hL.lk (g := 40) rfl) _ _ rfl]
  simp only [run0, run1, run2, run3, run4, noSlot, ownS, ownK, memN, RO.dst, lk, drop, forget, number, Nat.reduceBEq, cut?, splice?, builds, List.length_cons, List.length_nil, List.drop_succ_cons, List.drop_zero, List.take_succ_cons, List.take_zero, List.cons_append, List.nil_append, List.append_nil, List.drop_nil, List.take_nil, Nat.reduceAdd, Nat.reduceLeDiff, Nat.zero_add, Nat.add_zero, ↓reduceIte, Bool.not_true, Bool.not_false, decide_true, decide_false, eq_self, bne_self_eq_false, List.getElem?_cons_zero, List.getElem?_cons_succ, decide_eq_true_eq, Bool.false_eq_true, Bool.true_eq_false, reduceCtorEq, Nat.le_refl, w.len, wrapI (left - xs.length) (by omega) (by omega)]
  (repeat' ((first | (rw [gF_if]; split) | (rw [condC_if]; split) | (rw [pickR_if]; split)) <;> (rename_i hh; (try simp only [Bool.not_eq_true, decide_eq_true_eq] at hh); simp only [hh, run0, run1, run2, run3, run4, noSlot, ownS, ownK, memN, RO.dst, lk, drop, forget, number, Nat.reduceBEq, cut?, splice?, builds, List.length_cons, List.length_nil, List.drop_succ_cons, List.drop_zero, List.take_succ_cons, List.take_zero, List.cons_append, List.nil_append, List.append_nil, List.drop_nil, List.take_nil, Nat.reduceAdd, Nat.reduceLeDiff, Nat.zero_add, Nat.add_zero, ↓reduceIte, Bool.not_true, Bool.not_false, decide_true, decide_false, eq_self, bne_self_eq_false, List.getElem?_cons_zero, List.getElem?_cons_succ, decide_eq_true_eq, Bool.false_eq_true, Bool.true_eq_false, reduceCtorEq, Nat.le_refl]))) <;> simp_all
theorem toPastS_run (hL : Has F tLPast) (hLL : Has F tLLedgerCall) (hf : h.floor ≤ h.next) (w : SlR 2 (Fl Past.enc) h x xs fp) (hn : xs.length ≤ 1048576) : call F Z 41 [.c x] h = some (.c (.sl 1 h.next 0 xs.length), h.push (xs.map Past.enc)) := by
  rw [call_run F Z (hL.lk (g := 41) rfl) _ _ rfl]
  simp only [run0, run1, run2, run3, run4, noSlot, ownS, ownK, memN, RO.dst, lk, drop, forget, number, Nat.reduceBEq, cut?, splice?, builds, List.length_cons, List.length_nil, List.drop_succ_cons, List.drop_zero, List.take_succ_cons, List.take_zero, List.cons_append, List.nil_append, List.append_nil, List.drop_nil, List.take_nil, Nat.reduceAdd, Nat.reduceLeDiff, Nat.zero_add, Nat.add_zero, ↓reduceIte, Bool.not_true, Bool.not_false, decide_true, decide_false, eq_self, bne_self_eq_false, List.getElem?_cons_zero, List.getElem?_cons_succ, decide_eq_true_eq, Bool.false_eq_true, Bool.true_eq_false, reduceCtorEq, Nat.le_refl, w.len]
  rw [if_pos (by omega)]
  simp only [run0, run1, run2, run3, run4, noSlot, ownS, ownK, memN, RO.dst, lk, drop, forget, number, Nat.reduceBEq, cut?, splice?, builds, List.length_cons, List.length_nil, List.drop_succ_cons, List.drop_zero, List.take_succ_cons, List.take_zero, List.cons_append, List.nil_append, List.append_nil, List.drop_nil, List.take_nil, Nat.reduceAdd, Nat.reduceLeDiff, Nat.zero_add, Nat.add_zero, ↓reduceIte, Bool.not_true, Bool.not_false, decide_true, decide_false, eq_self, bne_self_eq_false, List.getElem?_cons_zero, List.getElem?_cons_succ, decide_eq_true_eq, Bool.false_eq_true, Bool.true_eq_false, reduceCtorEq, Nat.le_refl, Int.toNat_natCast]
  have key : loop F Z [0, 3, 4] r41L0 ⟨[(0, .c x), (3, .c (.sl 1 h.next 0 xs.length)), (4, .c (.int .i64 (0 : Nat)))], [], [], h.push (fillR Past.enc Past.zero xs 0)⟩ = loop F Z [0, 3, 4] r41L0 ⟨[(0, .c x), (3, .c (.sl 1 h.next 0 xs.length)), (4, .c (.int .i64 (xs.length : Nat)))], [], [], h.push (fillR Past.enc Past.zero xs xs.length)⟩ :=
    loop_goesF xs.length (fun i => ⟨[(0, .c x), (3, .c (.sl 1 h.next 0 xs.length)), (4, .c (.int .i64 (i : Nat)))], [], [], h.push (fillR Past.enc Past.zero xs i)⟩) fun i hi => by
      have w' := w.mono (Fl.ok _) (HExt.push h (fillR Past.enc Past.zero xs i))
      have hlt : (i : Int) < xs.length := by omega
      have h0 : (0 : Int) ≤ i := by omega
      rw [loop_run]
      simp only [r41L0, run0, run1, run2, run3, run4, noSlot, ownS, ownK, memN, RO.dst, lk, drop, forget, number, Nat.reduceBEq, cut?, splice?, builds, List.length_cons, List.length_nil, List.drop_succ_cons, List.drop_zero, List.take_succ_cons, List.take_zero, List.cons_append, List.nil_append, List.append_nil, List.drop_nil, List.take_nil, Nat.reduceAdd, Nat.reduceLeDiff, Nat.zero_add, Nat.add_zero, ↓reduceIte, Bool.not_true, Bool.not_false, decide_true, decide_false, eq_self, bne_self_eq_false, List.getElem?_cons_zero, List.getElem?_cons_succ, decide_eq_true_eq, Bool.false_eq_true, Bool.true_eq_false, reduceCtorEq, Nat.le_refl, w.len, hlt, w.idx hi, w'.load hi, Past.len, Past.tak, toPast_run' hL hLL, h0, and_self, Int.toNat_natCast, storeP_push hf (fillR_get Past.enc Past.zero xs hi) (Past.len xs[i]), wrapS i (by omega)]
      rw [← fillR_set Past.enc Past.zero xs hi]
  rw [fillR_0] at key
  rw [fillR_n] at key
  rw [show ((0 : Nat) : Int) = 0 from rfl] at key
  simp only [Past.zero] at key
  rw [key, loop_run]
  have hlt : ¬ (xs.length : Int) < xs.length := by omega
  simp only [r41L0, run0, run1, run2, run3, run4, noSlot, ownS, ownK, memN, RO.dst, lk, drop, forget, number, Nat.reduceBEq, cut?, splice?, builds, List.length_cons, List.length_nil, List.drop_succ_cons, List.drop_zero, List.take_succ_cons, List.take_zero, List.cons_append, List.nil_append, List.append_nil, List.drop_nil, List.take_nil, Nat.reduceAdd, Nat.reduceLeDiff, Nat.zero_add, Nat.add_zero, ↓reduceIte, Bool.not_true, Bool.not_false, decide_true, decide_false, eq_self, bne_self_eq_false, List.getElem?_cons_zero, List.getElem?_cons_succ, decide_eq_true_eq, Bool.false_eq_true, Bool.true_eq_false, reduceCtorEq, Nat.le_refl, w.len, hlt]
theorem toPastS_c (hL : Has F tLPast) (hLL : Has F tLLedgerCall) (hf : h.floor ≤ h.next) (w : SlR 2 (Fl Past.enc) h x xs fp) (hn : xs.length ≤ 1048576) : ∃ y h' fq, call F Z 41 [.c x] h = some (.c y, h') ∧ On h h' ∧ SlR 1 (Fl Past.enc) h' y xs fq ∧ Fre h fq :=
  ⟨_, _, _, toPastS_run hL hLL hf w hn, On.push _ _, SlR.ofFlat w.le (push_get _ _) (by rw [push_next]; omega), Fre.one h⟩
theorem eqPastS_run (hL : Has F tLPast) (hLL : Has F tLLedgerCall) (w : SlR 1 (Fl Past.enc) h x xs fp) (v : SlR 1 (Fl Past.enc) h y ys fq) : call F Z 44 [.c x, .c y] h = some (.c (.bool (decide (xs = ys))), h) := by
  have hw := w.le2
  have hv := v.le2
  rw [call_run F Z (hL.lk (g := 44) rfl) _ _ rfl]
  simp only [run0, run1, run2, run3, run4, noSlot, ownS, ownK, memN, RO.dst, lk, drop, forget, number, Nat.reduceBEq, cut?, splice?, builds, List.length_cons, List.length_nil, List.drop_succ_cons, List.drop_zero, List.take_succ_cons, List.take_zero, List.cons_append, List.nil_append, List.append_nil, List.drop_nil, List.take_nil, Nat.reduceAdd, Nat.reduceLeDiff, Nat.zero_add, Nat.add_zero, ↓reduceIte, Bool.not_true, Bool.not_false, decide_true, decide_false, eq_self, bne_self_eq_false, List.getElem?_cons_zero, List.getElem?_cons_succ, decide_eq_true_eq, Bool.false_eq_true, Bool.true_eq_false, reduceCtorEq, Nat.le_refl, w.len, v.len]
  rw [condC_if]
  split
  · rename_i hne
    have : xs ≠ ys := by rintro rfl; simp at hne
    simp only [run0, run1, run2, run3, run4, noSlot, ownS, ownK, memN, RO.dst, lk, drop, forget, number, Nat.reduceBEq, cut?, splice?, builds, List.length_cons, List.length_nil, List.drop_succ_cons, List.drop_zero, List.take_succ_cons, List.take_zero, List.cons_append, List.nil_append, List.append_nil, List.drop_nil, List.take_nil, Nat.reduceAdd, Nat.reduceLeDiff, Nat.zero_add, Nat.add_zero, ↓reduceIte, Bool.not_true, Bool.not_false, decide_true, decide_false, eq_self, bne_self_eq_false, List.getElem?_cons_zero, List.getElem?_cons_succ, decide_eq_true_eq, Bool.false_eq_true, Bool.true_eq_false, reduceCtorEq, Nat.le_refl, this]
  · rename_i he
    have he : xs.length = ys.length := by simp at he; omega
    simp only [run0, run1, run2, run3, run4, noSlot, ownS, ownK, memN, RO.dst, lk, drop, forget, number, Nat.reduceBEq, cut?, splice?, builds, List.length_cons, List.length_nil, List.drop_succ_cons, List.drop_zero, List.take_succ_cons, List.take_zero, List.cons_append, List.nil_append, List.append_nil, List.drop_nil, List.take_nil, Nat.reduceAdd, Nat.reduceLeDiff, Nat.zero_add, Nat.add_zero, ↓reduceIte, Bool.not_true, Bool.not_false, decide_true, decide_false, eq_self, bne_self_eq_false, List.getElem?_cons_zero, List.getElem?_cons_succ, decide_eq_true_eq, Bool.false_eq_true, Bool.true_eq_false, reduceCtorEq, Nat.le_refl]
    have key := loop_allN (F := F) (Z := Z) (live := [0, 1, 5]) (b := r44L0) xs.length (fun i => ⟨[(0, .c x), (1, .c y), (5, .c (.int .i64 (i : Nat)))], [], [], h⟩) (fun i => decide (xs[i]? = ys[i]?)) (fun s => lk s.env 4 = some (.c (.bool false)) ∧ s.hp = h) fun i hi => by
      have hi' : i < ys.length := by omega
      have hlt : (i : Int) < xs.length := by omega
      rw [loop_run]
      simp only [r44L0, run0, run1, run2, run3, run4, noSlot, ownS, ownK, memN, RO.dst, lk, drop, forget, number, Nat.reduceBEq, cut?, splice?, builds, List.length_cons, List.length_nil, List.drop_succ_cons, List.drop_zero, List.take_succ_cons, List.take_zero, List.cons_append, List.nil_append, List.append_nil, List.drop_nil, List.take_nil, Nat.reduceAdd, Nat.reduceLeDiff, Nat.zero_add, Nat.add_zero, ↓reduceIte, Bool.not_true, Bool.not_false, decide_true, decide_false, eq_self, bne_self_eq_false, List.getElem?_cons_zero, List.getElem?_cons_succ, decide_eq_true_eq, Bool.false_eq_true, Bool.true_eq_false, reduceCtorEq, Nat.le_refl, w.len, hlt, w.idx hi, v.idx hi', w.load hi, v.load hi', Past.len, Past.tak, eqPast_run hL hLL, wrapS i (by omega)]
      rw [List.getElem?_eq_getElem hi, List.getElem?_eq_getElem hi']
      (repeat' ((first | (rw [gF_if]; split) | (rw [condC_if]; split) | (rw [pickR_if]; split)) <;> (rename_i hh; (try simp only [Bool.not_eq_true, decide_eq_true_eq] at hh); simp only [hh, run0, run1, run2, run3, run4, noSlot, ownS, ownK, memN, RO.dst, lk, drop, forget, number, Nat.reduceBEq, cut?, splice?, builds, List.length_cons, List.length_nil, List.drop_succ_cons, List.drop_zero, List.take_succ_cons, List.take_zero, List.cons_append, List.nil_append, List.append_nil, List.drop_nil, List.take_nil, Nat.reduceAdd, Nat.reduceLeDiff, Nat.zero_add, Nat.add_zero, ↓reduceIte, Bool.not_true, Bool.not_false, decide_true, decide_false, eq_self, bne_self_eq_false, List.getElem?_cons_zero, List.getElem?_cons_succ, decide_eq_true_eq, Bool.false_eq_true, Bool.true_eq_false, reduceCtorEq, Nat.le_refl, wrapS i (by omega)])))
      · exact .inr ⟨by simp_all, _, rfl, rfl, rfl⟩
      · exact .inl ⟨by simp_all, rfl⟩
    rw [all_same he] at key
    rcases key with ⟨k1, k2⟩ | ⟨k1, s, k2, k3, k4⟩
    · simp only [show ((0 : Nat) : Int) = 0 from rfl] at k2
      rw [k2, loop_run]
      have hlt : ¬ (xs.length : Int) < xs.length := by omega
      simp only [r44L0, run0, run1, run2, run3, run4, noSlot, ownS, ownK, memN, RO.dst, lk, drop, forget, number, Nat.reduceBEq, cut?, splice?, builds, List.length_cons, List.length_nil, List.drop_succ_cons, List.drop_zero, List.take_succ_cons, List.take_zero, List.cons_append, List.nil_append, List.append_nil, List.drop_nil, List.take_nil, Nat.reduceAdd, Nat.reduceLeDiff, Nat.zero_add, Nat.add_zero, ↓reduceIte, Bool.not_true, Bool.not_false, decide_true, decide_false, eq_self, bne_self_eq_false, List.getElem?_cons_zero, List.getElem?_cons_succ, decide_eq_true_eq, Bool.false_eq_true, Bool.true_eq_false, reduceCtorEq, Nat.le_refl, w.len, hlt, k1]
    · simp only [show ((0 : Nat) : Int) = 0 from rfl] at k2
      rw [k2]
      simp only [run0, run1, run2, run3, run4, noSlot, ownS, ownK, memN, RO.dst, lk, drop, forget, number, Nat.reduceBEq, cut?, splice?, builds, List.length_cons, List.length_nil, List.drop_succ_cons, List.drop_zero, List.take_succ_cons, List.take_zero, List.cons_append, List.nil_append, List.append_nil, List.drop_nil, List.take_nil, Nat.reduceAdd, Nat.reduceLeDiff, Nat.zero_add, Nat.add_zero, ↓reduceIte, Bool.not_true, Bool.not_false, decide_true, decide_false, eq_self, bne_self_eq_false, List.getElem?_cons_zero, List.getElem?_cons_succ, decide_eq_true_eq, Bool.false_eq_true, Bool.true_eq_false, reduceCtorEq, Nat.le_refl, k3, k4, k1]
/-- What is written to mark one. -/
def Past.mk_ (k : Int) : Past := ⟨k, k + 1, k + 1 + 1, k + 1 + 1 + 1, k + 1 + 1 + 1 + 1, k + 1 + 1 + 1 + 1 + 1, k + 1 + 1 + 1 + 1 + 1 + 1, k + 1 + 1 + 1 + 1 + 1 + 1 + 1⟩
def Past.marks (n : Nat) (k : Int) : List Past := (List.range n).map fun i : Nat => Past.mk_ (k + 8 * (i : Int))
theorem Past.marks_len (n : Nat) (k : Int) : (Past.marks n k).length = n := by simp [Past.marks]
set_option maxHeartbeats 1000000 in
theorem markPastS_run (hL : Has F tLPast) (w : SlR 1 (Fl Past.enc) h x xs fp) (hlo : ∀ id, id ∈ fp → h.floor ≤ id) (k : Int) (h1 : 0 ≤ k) (h2 : k + 8 * xs.length ≤ 9200000000000000000) :
    ∃ h', call F Z 54 [.c x, .c (.int .i64 k)] h = some (.c (.int .i64 (k + 8 * xs.length)), h') ∧ Mk h h' fp ∧ SlR 1 (Fl Past.enc) h' x (Past.marks xs.length k) fp := by
  have hle := w.le2
  have hlm := Past.marks_len xs.length k
  rw [call_run F Z (hL.lk (g := 54) rfl) _ _ rfl]
  simp only [run0, run1, run2, run3, run4, noSlot, ownS, ownK, memN, RO.dst, lk, drop, forget, number, Nat.reduceBEq, cut?, splice?, builds, List.length_cons, List.length_nil, List.drop_succ_cons, List.drop_zero, List.take_succ_cons, List.take_zero, List.cons_append, List.nil_append, List.append_nil, List.drop_nil, List.take_nil, Nat.reduceAdd, Nat.reduceLeDiff, Nat.zero_add, Nat.add_zero, ↓reduceIte, Bool.not_true, Bool.not_false, decide_true, decide_false, eq_self, bne_self_eq_false, List.getElem?_cons_zero, List.getElem?_cons_succ, decide_eq_true_eq, Bool.false_eq_true, Bool.true_eq_false, reduceCtorEq, Nat.le_refl]
  rcases w.flat with ⟨rfl, rfl, rfl⟩ | ⟨hx, hg, hn, rfl⟩
  · rw [loop_run]
    simp only [r54L0, run0, run1, run2, run3, run4, noSlot, ownS, ownK, memN, RO.dst, lk, drop, forget, number, Nat.reduceBEq, cut?, splice?, builds, List.length_cons, List.length_nil, List.drop_succ_cons, List.drop_zero, List.take_succ_cons, List.take_zero, List.cons_append, List.nil_append, List.append_nil, List.drop_nil, List.take_nil, Nat.reduceAdd, Nat.reduceLeDiff, Nat.zero_add, Nat.add_zero, ↓reduceIte, Bool.not_true, Bool.not_false, decide_true, decide_false, eq_self, bne_self_eq_false, List.getElem?_cons_zero, List.getElem?_cons_succ, decide_eq_true_eq, Bool.false_eq_true, Bool.true_eq_false, reduceCtorEq, Nat.le_refl, show ¬ ((0 : Int) < 0) from by omega]
    exact ⟨h, by simp, Mk.refl _ _, by simpa [Past.marks] using w⟩
  · have hfl : h.floor ≤ x.sid := hlo _ (by simp)
    have key : loop F Z [0, 1, 5] r54L0 ⟨[(0, .c x), (1, .c (.int .i64 (k + 8 * (0 : Nat)))), (5, .c (.int .i64 (0 : Nat)))], [], [], h.put x.sid (mixR Past.enc (Past.marks xs.length k) xs 0)⟩ = loop F Z [0, 1, 5] r54L0 ⟨[(0, .c x), (1, .c (.int .i64 (k + 8 * (xs.length : Nat)))), (5, .c (.int .i64 (xs.length : Nat)))], [], [], h.put x.sid (mixR Past.enc (Past.marks xs.length k) xs xs.length)⟩ :=
      loop_goesF xs.length (fun i => ⟨[(0, .c x), (1, .c (.int .i64 (k + 8 * (i : Nat)))), (5, .c (.int .i64 (i : Nat)))], [], [], h.put x.sid (mixR Past.enc (Past.marks xs.length k) xs i)⟩) fun i hi => by
        have hlt : (i : Int) < xs.length := by omega
        have hi2 : i < (mixR Past.enc (Past.marks xs.length k) xs i).length := by rw [mixR_len _ hlm]; exact hi
        have hms : (Past.marks xs.length k)[i]'(by omega) = Past.mk_ (k + 8 * i) := by simp [Past.marks]
        have hset := mixR_set Past.enc hlm hi
        rw [hms] at hset
        have hput := storeP_put (h := h) hfl hi2
        rw [← mixR_cur Past.enc hlm hi, ← hset, loop_run]
        simp (disch := omega) only [r54L0, run0, run1, run2, run3, run4, noSlot, ownS, ownK, memN, RO.dst, lk, drop, forget, number, Nat.reduceBEq, cut?, splice?, builds, List.length_cons, List.length_nil, List.drop_succ_cons, List.drop_zero, List.take_succ_cons, List.take_zero, List.cons_append, List.nil_append, List.append_nil, List.drop_nil, List.take_nil, Nat.reduceAdd, Nat.reduceLeDiff, Nat.zero_add, Nat.add_zero, ↓reduceIte, Bool.not_true, Bool.not_false, decide_true, decide_false, eq_self, bne_self_eq_false, List.getElem?_cons_zero, List.getElem?_cons_succ, decide_eq_true_eq, Bool.false_eq_true, Bool.true_eq_false, reduceCtorEq, Nat.le_refl, w.len, hlt, w.idx hi, hput, putM_s, wrapI1, wrapU1, Past.enc, Int.reduceEq, Past.mk_]
        rw [show k + 8 * ((i : Nat) : Int) + 1 + 1 + 1 + 1 + 1 + 1 + 1 + 1 = k + 8 * ((i + 1 : Nat) : Int) from by omega, show ((i : Nat) : Int) + 1 = ((i + 1 : Nat) : Int) from rfl]
    rw [mixR_0, put_same hg, mixR_n _ hlm] at key
    simp only [show ((0 : Nat) : Int) = 0 from rfl, Int.mul_zero, Int.add_zero] at key
    rw [key, loop_run]
    have hlt : ¬ (xs.length : Int) < xs.length := by omega
    simp only [r54L0, run0, run1, run2, run3, run4, noSlot, ownS, ownK, memN, RO.dst, lk, drop, forget, number, Nat.reduceBEq, cut?, splice?, builds, List.length_cons, List.length_nil, List.drop_succ_cons, List.drop_zero, List.take_succ_cons, List.take_zero, List.cons_append, List.nil_append, List.append_nil, List.drop_nil, List.take_nil, Nat.reduceAdd, Nat.reduceLeDiff, Nat.zero_add, Nat.add_zero, ↓reduceIte, Bool.not_true, Bool.not_false, decide_true, decide_false, eq_self, bne_self_eq_false, List.getElem?_cons_zero, List.getElem?_cons_succ, decide_eq_true_eq, Bool.false_eq_true, Bool.true_eq_false, reduceCtorEq, Nat.le_refl, w.len, hlt]
    refine ⟨_, rfl, Mk.put _ _ _, ?_⟩
    have := SlR.ofFlat (tag := 1) (h := h.put x.sid ((Past.marks xs.length k).map Past.enc)) (enc := Past.enc) (xs := Past.marks xs.length k) (id := x.sid) (by rw [hlm]; exact w.le) (by simp [Heap.put]) hn
    rw [hlm, ← hx] at this
    exact this
set_option maxHeartbeats 1000000 in
theorem heldPastS_run (hL : Has F tLPast) {n : Nat} {k : Int} (w : SlR 1 (Fl Past.enc) h x (Past.marks n k) fp) (h1 : 0 ≤ k) (h2 : k + 8 * n ≤ 9200000000000000000) :
    call F Z 55 [.c x, .c (.int .i64 k)] h = some (.c (.int .i64 (k + 8 * n)), h) := by
  have hle := w.le2
  have hwl := w.len
  rw [Past.marks_len] at hle hwl
  rw [call_run F Z (hL.lk (g := 55) rfl) _ _ rfl]
  simp only [run0, run1, run2, run3, run4, noSlot, ownS, ownK, memN, RO.dst, lk, drop, forget, number, Nat.reduceBEq, cut?, splice?, builds, List.length_cons, List.length_nil, List.drop_succ_cons, List.drop_zero, List.take_succ_cons, List.take_zero, List.cons_append, List.nil_append, List.append_nil, List.drop_nil, List.take_nil, Nat.reduceAdd, Nat.reduceLeDiff, Nat.zero_add, Nat.add_zero, ↓reduceIte, Bool.not_true, Bool.not_false, decide_true, decide_false, eq_self, bne_self_eq_false, List.getElem?_cons_zero, List.getElem?_cons_succ, decide_eq_true_eq, Bool.false_eq_true, Bool.true_eq_false, reduceCtorEq, Nat.le_refl]
  have key : loop F Z [0, 1, 5] r55L0 ⟨[(0, .c x), (1, .c (.int .i64 (k + 8 * (0 : Nat)))), (5, .c (.int .i64 (0 : Nat)))], [], [], h⟩ = loop F Z [0, 1, 5] r55L0 ⟨[(0, .c x), (1, .c (.int .i64 (k + 8 * (n : Nat)))), (5, .c (.int .i64 (n : Nat)))], [], [], h⟩ :=
    loop_goesF n (fun i => ⟨[(0, .c x), (1, .c (.int .i64 (k + 8 * (i : Nat)))), (5, .c (.int .i64 (i : Nat)))], [], [], h⟩) fun i hi0 => by
      have hi : i < (Past.marks n k).length := by rw [Past.marks_len]; exact hi0
      have hlt : (i : Int) < n := by omega
      have hms : (Past.marks n k)[i] = Past.mk_ (k + 8 * i) := by simp [Past.marks]
      have hld := w.load hi
      rw [hms] at hld
      rw [loop_run]
      simp (disch := omega) only [r55L0, run0, run1, run2, run3, run4, noSlot, ownS, ownK, memN, RO.dst, lk, drop, forget, number, Nat.reduceBEq, cut?, splice?, builds, List.length_cons, List.length_nil, List.drop_succ_cons, List.drop_zero, List.take_succ_cons, List.take_zero, List.cons_append, List.nil_append, List.append_nil, List.drop_nil, List.take_nil, Nat.reduceAdd, Nat.reduceLeDiff, Nat.zero_add, Nat.add_zero, ↓reduceIte, Bool.not_true, Bool.not_false, decide_true, decide_false, eq_self, bne_self_eq_false, List.getElem?_cons_zero, List.getElem?_cons_succ, decide_eq_true_eq, Bool.false_eq_true, Bool.true_eq_false, reduceCtorEq, Nat.le_refl, hwl, hlt, w.idx hi, hld, wrapI1, wrapU1, Past.enc, Past.mk_, Int.reduceEq]
      rw [show k + 8 * ((i : Nat) : Int) + 1 + 1 + 1 + 1 + 1 + 1 + 1 + 1 = k + 8 * ((i + 1 : Nat) : Int) from by omega, show ((i : Nat) : Int) + 1 = ((i + 1 : Nat) : Int) from rfl]
  simp only [show ((0 : Nat) : Int) = 0 from rfl, Int.mul_zero, Int.add_zero] at key
  rw [key, loop_run]
  have hlt : ¬ (n : Int) < n := by omega
  simp only [r55L0, run0, run1, run2, run3, run4, noSlot, ownS, ownK, memN, RO.dst, lk, drop, forget, number, Nat.reduceBEq, cut?, splice?, builds, List.length_cons, List.length_nil, List.drop_succ_cons, List.drop_zero, List.take_succ_cons, List.take_zero, List.cons_append, List.nil_append, List.append_nil, List.drop_nil, List.take_nil, Nat.reduceAdd, Nat.reduceLeDiff, Nat.zero_add, Nat.add_zero, ↓reduceIte, Bool.not_true, Bool.not_false, decide_true, decide_false, eq_self, bne_self_eq_false, List.getElem?_cons_zero, List.getElem?_cons_succ, decide_eq_true_eq, Bool.false_eq_true, Bool.true_eq_false, reduceCtorEq, Nat.le_refl, hwl, hlt]
end
end Go.Proofs.Ytcdlbjomdokmiaa.A
