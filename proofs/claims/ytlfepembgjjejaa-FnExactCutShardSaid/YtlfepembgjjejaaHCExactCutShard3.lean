/- The functions that the statement reaches, part 3: bodies and what they compute. No condition. -/
import Derived.Test.YtlfepembgjjejaaHCExactCutShard2
import Derived.Test.YtlfepembgjjejaaZ6
import Derived.Test.YtlfepembgjjejaaB9
/- Slices of data with memory: built by appending, and with one row turned. -/
namespace Go.Proofs.Ytlfepembgjjejaa.A
open Go
set_option linter.unusedSimpArgs false
set_option linter.unusedVariables false
theorem push_ne {h : Heap} (r : List (List Cell)) {id : Nat} (hid : id ≠ h.next) : (h.push r).get id = h.get id := by simp only [Heap.push]; rw [if_neg hid]
theorem kill_ne {h : Heap} {k id : Nat} (hid : id ≠ k) : (h.kill k).get id = h.get id := by simp only [Heap.kill]; rw [if_neg hid]
theorem put_ne {h : Heap} {k id : Nat} (r : List (List Cell)) (hid : id ≠ k) : (h.put k r).get id = h.get id := by simp only [Heap.put]; rw [if_neg hid]
theorem kill_next (h : Heap) (k : Nat) : (h.kill k).next = h.next := rfl
/-- A cell shows data that was made behind h0. -/
structure AccM {α : Type} (R : Rel α) (tag : Nat) (h0 h : Heap) (x : Cell) (xs : List α) (fp : List Nat) : Prop where
  on : On h0 h
  sh : SlR tag R h x xs fp
  fr : Fre h0 fp
section
variable {α : Type} {R : Rel α} {tag : Nat} {h0 h g : Heap} {x : Cell} {xs : List α} {fp fq : List Nat}
theorem AccM.nil (R : Rel α) (tag : Nat) (h : Heap) : AccM R tag h h .nil [] [] := ⟨On.refl h, SlR.nil _ _ _, Fre.nil h⟩
theorem AccM.none (R : Rel α) (tag : Nat) (o : On h0 h) : AccM R tag h0 h .nil [] [] := ⟨o, SlR.nil _ _ _, Fre.nil h0⟩
theorem AccM.lit0 (R : Rel α) (tag : Nat) (o : On h0 h) : AccM R tag h0 (h.push []) (.sl tag h.next 0 0) [] [h.next] :=
  ⟨o.trans (On.push h []), ⟨by simp, .inr ⟨h.next, [], [], rfl, push_get _ _, by rw [push_next]; omega, rfl, trivial⟩⟩, Fre.at o.ext.1⟩
theorem AccM.go (a : AccM R tag h0 h x xs fp) (ok : RelOk R) (o : On h g) : AccM R tag h0 g x xs fp := ⟨a.on.trans o, a.sh.on ok o, a.fr⟩
theorem Fre.gt (f : Fre h0 fp) : ∀ id, id < h0.next → id ∉ fp := fun id h1 h2 => by have := f.lo id h2; omega
theorem Fre.sep {p q : List Nat} (f : Fre h0 p) (hp : ∀ id, id ∈ p → id < h.next) (g : Fre h q) : ∀ id, id ∈ q → id ∉ p := fun id h1 h2 => by
  have := hp id h2
  have := g.lo id h1
  omega
theorem flat_snoc {fps : List (List Nat)} {fq : List Nat} : (fps ++ [fq]).flatten = fps.flatten ++ fq := by simp
/-- One more element. -/
theorem AccM.one (ok : RelOk R) (a : AccM R tag h0 h x xs fp) (hf : h0.floor ≤ h0.next) {bytes : Nat} (hb : (xs.length + 1) * bytes ≤ 140737488355328) (hl : xs.length + 1 ≤ 140737488355328)
    (o : On h g) {cs : List Cell} {t : α} (v : R g cs t fq) (f : Fre h0 fq) (d : ∀ id, id ∈ fq → id ∉ fp) :
    ∃ y' g' fp', appF (g.push [cs]) tag bytes x (.sl tag g.next 0 1) = some (y', g') ∧ AccM R tag h0 g' y' (xs ++ [t]) fp' ∧ h.next ≤ g'.next ∧ (∀ id, id ∈ fp' → id ∈ fp ∨ id ∈ fq ∨ g.next ≤ id) ∧ (∀ id, id < g.next → id ∉ fp → g'.get id = g.get id) := by
  have on' := a.on.trans o
  have hlt : ∀ id, id ∈ fq → id < g.next := ok.lt v
  have hp1 : ∀ id, id < g.next → (g.push [cs]).get id = g.get id := fun id hid => by simp only [Heap.push]; rw [if_neg (by omega)]
  have hn := o.ext.1
  rcases a.sh with ⟨_, ⟨rfl, rfl, rfl⟩ | ⟨id, rows, fps, rfl, q1, q2, rfl, q3⟩⟩
  · refine ⟨.sl tag (g.next + 1) 0 1, (g.push [cs]).push [cs], (g.next + 1) :: ([fq] : List (List Nat)).flatten, ?_, ⟨on'.trans ((On.push _ _).trans (On.push _ _)), ⟨by simp [maxLen], .inr ⟨g.next + 1, [cs], [fq], rfl, ?_, ?_, rfl, ?_⟩⟩, ⟨?_, ?_⟩⟩, ?_, ?_, ?_⟩
    · simp only [List.length_nil, Nat.zero_add] at hb
      simp only [appF, isTag, beq_self_eq_true, ↓reduceIte, rowsOf, push_get, Option.bind_some, List.length_singleton, Nat.zero_add, Nat.le_refl, List.drop_zero, List.take_one, List.head?_cons, Option.toList_some]
      rw [if_neg (by omega), if_pos (by omega)]; rfl
    · exact push_get _ _
    · simp only [push_next]; omega
    · refine ⟨ok.mv v (by simp only [push_next]; omega) fun id hid => ?_, trivial⟩
      have := hlt id hid
      rw [push_ne _ (by rw [push_next]; omega), push_ne _ (by omega)]
    · intro id hid
      simp only [List.flatten_cons, List.flatten_nil, List.append_nil, List.mem_cons] at hid
      rcases hid with rfl | hid
      · have := on'.ext.1; omega
      · exact f.lo id hid
    · simp only [List.flatten_cons, List.flatten_nil, List.append_nil, List.nodup_cons]
      exact ⟨fun hc => by have := hlt _ hc; omega, f.nd⟩
    · simp only [push_next]; omega
    · intro id hid
      simp only [List.flatten_cons, List.flatten_nil, List.append_nil, List.mem_cons] at hid
      rcases hid with rfl | hid
      · exact .inr (.inr (by omega))
      · exact .inr (.inl hid)
    · intro id h1 _
      rw [push_ne _ (by rw [push_next]; omega), push_ne _ (by omega)]
  · have hlo : h0.next ≤ id := a.fr.lo id (by simp)
    have hnd := List.nodup_cons.1 a.fr.nd
    have hrl := q3.len
    have hg : (g.push [cs]).get id = some rows := by rw [hp1 id (by omega), o.ext.2 id q2, q1]
    have hfl : g.floor ≤ id := by rw [on'.fl]; omega
    have hin : ∀ j, j ∈ fps.flatten → j < h.next := q3.lt ok
    have hgt : ∀ j, j < g.next → j ≠ id → (((g.push [cs]).kill id).push (rows ++ [cs])).get j = g.get j := fun j h1 h2 => by
      rw [push_ne _ (by rw [kill_next, push_next]; omega), kill_ne h2, push_ne _ (by omega)]
    refine ⟨.sl tag (g.next + 1) 0 (xs.length + 1), ((g.push [cs]).kill id).push (rows ++ [cs]), (g.next + 1) :: (fps ++ [fq]).flatten, ?_, ⟨⟨⟨?_, ?_⟩, ?_⟩, ⟨by simp [maxLen]; omega, .inr ⟨g.next + 1, rows ++ [cs], fps ++ [fq], by simp, ?_, ?_, rfl, ?_⟩⟩, ⟨?_, ?_⟩⟩, ?_, ?_, ?_⟩
    · simp only [appF, isTag, beq_self_eq_true, ↓reduceIte, rowsOf, push_get, Option.bind_some, List.length_singleton, Nat.zero_add, Nat.le_refl, List.drop_zero, List.take_one, List.head?_cons, Option.toList_some, hg]
      simp only [hrl, push_floor, hfl, hb, and_self, ↓reduceIte]; rfl
    · have := on'.ext.1
      simp only [Heap.push, Heap.kill]; omega
    · intro j hj
      have := on'.ext.1
      rw [hgt j (by omega) (by omega)]
      exact on'.ext.2 j hj
    · exact on'.fl
    · simp [Heap.push, Heap.kill]
    · simp only [Heap.push, Heap.kill]; omega
    · refine AllR.snoc (q3.mv (h' := ((g.push [cs]).kill id).push (rows ++ [cs])) ok (by simp only [Heap.push, Heap.kill]; omega) fun j hj => ?_) (ok.mv v (by simp only [Heap.push, Heap.kill]; omega) fun j hj => ?_)
      · have h1 := hin j hj
        rw [hgt j (by omega) (fun e => hnd.1 (e ▸ hj))]
        exact o.ext.2 j h1
      · exact hgt j (hlt j hj) fun e => d j hj (by rw [e]; simp)
    · intro j hj
      rw [flat_snoc] at hj
      rcases List.mem_cons.1 hj with rfl | hj
      · have := on'.ext.1; omega
      · rcases List.mem_append.1 hj with hj | hj
        · exact a.fr.lo j (by simp [hj])
        · exact f.lo j hj
    · rw [flat_snoc, List.nodup_cons]
      refine ⟨fun hc => ?_, List.nodup_append.2 ⟨hnd.2, f.nd, fun p hp q hq e => d q hq (by rw [← e]; simp [hp])⟩⟩
      rcases List.mem_append.1 hc with hc | hc
      · have := hin _ hc; omega
      · have := hlt _ hc; omega
    · simp only [Heap.push, Heap.kill]; omega
    · intro j hj
      rw [flat_snoc] at hj
      rcases List.mem_cons.1 hj with rfl | hj
      · exact .inr (.inr (by omega))
      · rcases List.mem_append.1 hj with hj | hj
        · exact .inl (by simp [hj])
        · exact .inr (.inl hj)
    · intro j h1 h2
      exact hgt j h1 fun e => h2 (by rw [e]; simp)
end
end Go.Proofs.Ytlfepembgjjejaa.A
/- One row of data with memory is turned in place. -/
namespace Go.Proofs.Ytlfepembgjjejaa.A
open Go
set_option linter.unusedSimpArgs false
set_option linter.unusedVariables false
theorem flat_set_mem {fq : List Nat} {id : Nat} : ∀ (fps : List (List Nat)) (i : Nat), id ∈ (fps.set i fq).flatten → id ∈ fps.flatten ∨ id ∈ fq
  | [], i, h => by simp at h
  | f :: r, 0, h => by
    simp only [List.set_cons_zero, List.flatten_cons, List.mem_append] at h ⊢
    rcases h with h | h
    · exact .inr h
    · exact .inl (.inr h)
  | f :: r, i + 1, h => by
    simp only [List.set_cons_succ, List.flatten_cons, List.mem_append] at h ⊢
    rcases h with h | h
    · exact .inl (.inl h)
    · rcases flat_set_mem r i h with h | h
      · exact .inl (.inr h)
      · exact .inr h
theorem flat_set_nodup {fq : List Nat} (nq : fq.Nodup) : ∀ (fps : List (List Nat)) (i : Nat) (f : List Nat), fps[i]? = some f → fps.flatten.Nodup → (∀ id, id ∈ fq → id ∈ f ∨ id ∉ fps.flatten) → (fps.set i fq).flatten.Nodup
  | [], i, f, h, _, _ => by simp at h
  | g :: r, 0, f, h, nd, hd => by
    simp only [List.getElem?_cons_zero, Option.some.injEq] at h
    subst h
    simp only [List.set_cons_zero, List.flatten_cons] at nd ⊢
    obtain ⟨n1, n2, n3⟩ := List.nodup_append.1 nd
    refine List.nodup_append.2 ⟨nq, n2, fun a ha b hb e => ?_⟩
    subst e
    rcases hd a ha with h | h
    · exact n3 a h a hb rfl
    · exact h (by rw [List.flatten_cons, List.mem_append]; exact .inr hb)
  | g :: r, i + 1, f, h, nd, hd => by
    simp only [List.getElem?_cons_succ] at h
    simp only [List.set_cons_succ, List.flatten_cons] at nd ⊢
    obtain ⟨n1, n2, n3⟩ := List.nodup_append.1 nd
    refine List.nodup_append.2 ⟨n1, flat_set_nodup nq r i f h n2 fun id hid => ?_, fun a ha b hb e => ?_⟩
    · rcases hd id hid with h | h
      · exact .inl h
      · exact .inr fun hc => h (by rw [List.flatten_cons, List.mem_append]; exact .inr hc)
    · subst e
      rcases flat_set_mem r i hb with hb | hb
      · exact n3 a ha a hb rfl
      · rcases hd a hb with h' | h'
        · exact n3 a ha a (List.mem_flatten.2 ⟨f, List.mem_of_getElem? h, h'⟩) rfl
        · exact h' (by rw [List.flatten_cons, List.mem_append]; exact .inl ha)
section
variable {α : Type} {R : Rel α} {tag : Nat} {h0 h g : Heap} {x : Cell} {xs : List α} {fp fq : List Nat}
theorem AllR.set {r : List Cell} {t : α} (w1 : R h r t fq) : ∀ {rows : List (List Cell)} {xs : List α} {fps : List (List Nat)}, AllR R h rows xs fps → ∀ (i : Nat), AllR R h (rows.set i r) (xs.set i t) (fps.set i fq)
  | [], [], [], _, _ => trivial
  | _ :: _, _ :: _, _ :: _, ⟨_, w⟩, 0 => ⟨w1, w⟩
  | _ :: _, _ :: _, _ :: _, ⟨w0, w⟩, i + 1 => ⟨w0, AllR.set w1 w i⟩
  | [], [], _ :: _, w, _ => w.elim
  | [], _ :: _, _, w, _ => w.elim
  | _ :: _, [], _, w, _ => w.elim
  | _ :: _, _ :: _, [], w, _ => w.elim
/-- One row, and what a store into it leaves. -/
theorem SlR.setRow (ok : RelOk R) (w : SlR tag R h x xs fp) (nd : fp.Nodup) (hfl : ∀ id, id ∈ fp → h.floor ≤ id) {i : Nat} (hi : i < xs.length) :
    ∃ r f, ∃ rows : List (List Cell), R h r xs[i] f ∧ (∀ id, id ∈ f → id ∈ fp) ∧ f.Nodup ∧ x.sid ∈ fp ∧ x.sid ∉ f ∧ (∀ j n, loadP h x.sid i j n = cut? r j n) ∧ (∀ j new r', splice? r j new = some r' → storeP h x.sid i j new = some (h.put x.sid (rows.set i r'))) ∧
      ∀ r' t' fq, R h r' t' fq → fq.Nodup → (∀ id, id ∈ fq → id ∈ f ∨ id ∉ fp) → ∃ fp', SlR tag R (h.put x.sid (rows.set i r')) x (xs.set i t') fp' ∧ fp'.Nodup ∧ ∀ id, id ∈ fp' → id ∈ fp ∨ id ∈ fq := by
  rcases w with ⟨hl, ⟨rfl, rfl, rfl⟩ | ⟨id, rows, fps, rfl, q1, q2, rfl, q3⟩⟩
  · exact absurd hi (Nat.not_lt_zero _)
  obtain ⟨r, f, e1, e2, v⟩ := q3.at i hi
  have hn := List.nodup_cons.1 nd
  have hin : ∀ j, j ∈ f → j ∈ fps.flatten := fun j hj => List.mem_flatten.2 ⟨f, List.mem_of_getElem? e2, hj⟩
  have hfn : f.Nodup := by
    have : ∀ (fps : List (List Nat)) (i : Nat), fps[i]? = some f → fps.flatten.Nodup → f.Nodup := by
      intro fps
      induction fps with
      | nil => intro i h _; simp at h
      | cons g r ih =>
        intro i h nd
        rw [List.flatten_cons] at nd
        obtain ⟨n1, n2, _⟩ := List.nodup_append.1 nd
        cases i with
        | zero => simp only [List.getElem?_cons_zero, Option.some.injEq] at h; exact h ▸ n1
        | succ i => exact ih i (by simpa using h) n2
    exact this fps i e2 hn.2
  refine ⟨r, f, rows, v, fun j hj => List.mem_cons_of_mem _ (hin j hj), hfn, by simp [Cell.sid], fun hc => hn.1 (hin _ hc), fun j n => by simp [loadP, rowOf, Cell.sid, q1, e1], fun j new r' hs => ?_, fun r' t' fq v' nq hd => ?_⟩
  · exact storeP_at (hfl _ (by simp [Cell.sid])) q1 e1 hs
  · have hne : ∀ j, j ∈ fq → j ≠ id := fun j hj e => by
      rcases hd j hj with h1 | h1
      · exact hn.1 (e ▸ hin j h1)
      · exact h1 (by rw [e]; simp)
    refine ⟨id :: (fps.set i fq).flatten, ⟨by simpa using hl, .inr ⟨id, rows.set i r', fps.set i fq, by simp, by simp [Heap.put, Cell.sid], q2, rfl, ?_⟩⟩, ?_, ?_⟩
    · have v'' : R (h.put id (rows.set i r')) r' t' fq := ok.mv v' (Nat.le_refl _) fun j hj => put_ne _ (hne j hj)
      exact AllR.set v'' (q3.mv (h' := h.put id (rows.set i r')) ok (Nat.le_refl _) fun j hj => put_ne _ fun e => hn.1 (e ▸ hj)) i
    · rw [List.nodup_cons]
      refine ⟨fun hc => ?_, flat_set_nodup nq fps i f e2 hn.2 fun j hj => ?_⟩
      · rcases flat_set_mem _ _ hc with hc | hc
        · exact hn.1 hc
        · exact hne _ hc rfl
      · rcases hd j hj with h1 | h1
        · exact .inl h1
        · exact .inr fun hc => h1 (List.mem_cons_of_mem _ hc)
    · intro j hj
      rcases List.mem_cons.1 hj with rfl | hj
      · exact .inl (by simp)
      · rcases flat_set_mem _ _ hj with hj | hj
        · exact .inl (List.mem_cons_of_mem _ hj)
        · exact .inr hj
theorem AllR.turn (ok : RelOk R) {h' : Heap} (hn : h.next ≤ h'.next) {r' : List Cell} {t' : α} : ∀ {rows : List (List Cell)} {xs : List α} {fps : List (List Nat)}, AllR R h rows xs fps → ∀ (i : Nat) (f : List Nat), fps[i]? = some f → fps.flatten.Nodup →
    (∀ id, id ∈ fps.flatten → id ∉ f → h'.get id = h.get id) → R h' r' t' f → AllR R h' (rows.set i r') (xs.set i t') fps
  | [], [], [], _, i, f, e, _, _, _ => by simp at e
  | r :: rs, a :: bs, g :: gs, ⟨w0, w⟩, 0, f, e, nd, hg, v => by
    simp only [List.getElem?_cons_zero, Option.some.injEq] at e
    subst e
    rw [List.flatten_cons] at nd
    obtain ⟨n1, n2, n3⟩ := List.nodup_append.1 nd
    exact ⟨v, w.mv ok hn fun id hid => hg id (by rw [List.flatten_cons, List.mem_append]; exact .inr hid) fun hf => n3 id hf id hid rfl⟩
  | r :: rs, a :: bs, g :: gs, ⟨w0, w⟩, i + 1, f, e, nd, hg, v => by
    simp only [List.getElem?_cons_succ] at e
    rw [List.flatten_cons] at nd
    obtain ⟨n1, n2, n3⟩ := List.nodup_append.1 nd
    exact ⟨ok.mv w0 hn fun id hid => hg id (by rw [List.flatten_cons, List.mem_append]; exact .inl hid) fun hf => n3 id hid id (List.mem_flatten.2 ⟨f, List.mem_of_getElem? e, hf⟩) rfl,
      AllR.turn ok hn w i f e n2 (fun id hid hf => hg id (by rw [List.flatten_cons, List.mem_append]; exact .inr hid) hf) v⟩
  | [], [], _ :: _, w, _, _, _, _, _, _ => w.elim
  | [], _ :: _, _, w, _, _, _, _, _, _ => w.elim
  | _ :: _, [], _, w, _, _, _, _, _, _ => w.elim
  | _ :: _, _ :: _, [], w, _, _, _, _, _, _ => w.elim
theorem flat_at_nodup {f : List Nat} : ∀ (fps : List (List Nat)) (i : Nat), fps[i]? = some f → fps.flatten.Nodup → f.Nodup
  | [], i, h, _ => by simp at h
  | g :: r, i, h, nd => by
    rw [List.flatten_cons] at nd
    obtain ⟨n1, n2, _⟩ := List.nodup_append.1 nd
    cases i with
    | zero => simp only [List.getElem?_cons_zero, Option.some.injEq] at h; exact h ▸ n1
    | succ i => exact flat_at_nodup r i (by simpa using h) n2
/-- One element with its own memory is turned. -/
theorem SlR.turn (ok : RelOk R) (w : SlR tag R h x xs fp) (nd : fp.Nodup) {i : Nat} (hi : i < xs.length) :
    ∃ r f, ∃ rows : List (List Cell), R h r xs[i] f ∧ (∀ id, id ∈ f → id ∈ fp) ∧ f.Nodup ∧ x.sid ∈ fp ∧ x.sid ∉ f ∧ x.sid < h.next ∧ h.get x.sid = some rows ∧ rows[i]? = some r ∧ i < rows.length ∧
      ∀ h' r' t', h.next ≤ h'.next → (∀ id, id ∈ fp → id ≠ x.sid → id ∉ f → h'.get id = h.get id) → h'.get x.sid = some (rows.set i r') → R h' r' t' f → SlR tag R h' x (xs.set i t') fp := by
  rcases w with ⟨hl, ⟨rfl, rfl, rfl⟩ | ⟨id, rows, fps, rfl, q1, q2, rfl, q3⟩⟩
  · exact absurd hi (Nat.not_lt_zero _)
  obtain ⟨r, f, e1, e2, v⟩ := q3.at i hi
  have hn := List.nodup_cons.1 nd
  have hin : ∀ j, j ∈ f → j ∈ fps.flatten := fun j hj => List.mem_flatten.2 ⟨f, List.mem_of_getElem? e2, hj⟩
  refine ⟨r, f, rows, v, fun j hj => List.mem_cons_of_mem _ (hin j hj), flat_at_nodup fps i e2 hn.2, by simp [Cell.sid], fun hc => hn.1 (hin _ hc), q2, q1, e1, by rw [q3.len]; exact hi, fun h' r' t' hn' hg hg' v' => ?_⟩
  refine ⟨by simpa using hl, .inr ⟨id, rows.set i r', fps, by simp, hg', Nat.lt_of_lt_of_le q2 hn', rfl, ?_⟩⟩
  exact q3.turn ok hn' i f e2 hn.2 (fun j hj hf => hg j (List.mem_cons_of_mem _ hj) (fun e => hn.1 (by simp only [Cell.sid] at e; exact e ▸ hj)) hf) v'
theorem loadP_row {h : Heap} {id i : Nat} {rows : List (List Cell)} {r : List Cell} (hg : h.get id = some rows) (hi : rows[i]? = some r) (j n : Nat) : loadP h id i j n = cut? r j n := by simp [loadP, rowOf, hg, hi]
theorem loadP_put {h : Heap} {id i : Nat} {rows : List (List Cell)} (hi : i < rows.length) (r : List Cell) (j n : Nat) : loadP (h.put id (rows.set i r)) id i j n = cut? r j n := loadP_row (rows := rows.set i r) (by simp [Heap.put]) (List.getElem?_set_self hi) j n
theorem put_row {h : Heap} {id i : Nat} {rows : List (List Cell)} {r : List Cell} (hg : h.get id = some rows) (hi : rows[i]? = some r) : h.put id (rows.set i r) = h := by
  have : rows.set i r = rows := by
    apply List.ext_getElem?
    intro j
    by_cases e : i = j
    · subst e
      have hlt : i < rows.length := by
        rcases Nat.lt_or_ge i rows.length with hlt | hge
        · exact hlt
        · rw [List.getElem?_eq_none hge] at hi; cases hi
      rw [List.getElem?_set_self hlt, hi]
    · rw [List.getElem?_set_ne e]
  rw [this]; exact put_same hg
end
end Go.Proofs.Ytlfepembgjjejaa.A
/- Loops that look for one, behind which the heap goes on; rows that are shown twice. -/
namespace Go.Proofs.Ytlfepembgjjejaa.A
open Go
set_option linter.unusedSimpArgs false
set_option linter.unusedVariables false
section
variable {F : Nat → Option RF} {Z : CallF} {live : List Nat} {b : RC}
theorem loop_findO {α : Type} (xs : List α) (p : α → Bool) (st : Nat → Heap → St) (h : Heap) (Q : Nat → St → Prop)
    (hs : ∀ i (hi : i < xs.length) g, On h g → TurnO (loop F Z live b (st i g)) (fun g' => loop F Z live b (st (i + 1) g')) g (!p xs[i]) (Q i)) :
    (xs.findIdx? p = none ∧ ∃ g, On h g ∧ loop F Z live b (st 0 h) = loop F Z live b (st xs.length g)) ∨ ∃ i, xs.findIdx? p = some i ∧ i < xs.length ∧ ∃ s, loop F Z live b (st 0 h) = some (.ret, s) ∧ On h s.hp ∧ Q i s := by
  have key : ∀ n, n ≤ xs.length → ((∀ i (hi : i < xs.length), i < n → p xs[i] = false) ∧ ∃ g, On h g ∧ loop F Z live b (st 0 h) = loop F Z live b (st n g)) ∨ ∃ i, xs.findIdx? p = some i ∧ i < xs.length ∧ ∃ s, loop F Z live b (st 0 h) = some (.ret, s) ∧ On h s.hp ∧ Q i s := by
    intro n
    induction n with
    | zero => intro _; exact .inl ⟨fun i hi h => absurd h (Nat.not_lt_zero _), h, On.refl h, rfl⟩
    | succ n ih =>
      intro hn
      rcases ih (by omega) with ⟨h1, g, og, h2⟩ | h
      · rcases hs n (by omega) g og with ⟨h3, g', og', h4⟩ | ⟨h3, s, h4, os, h5⟩
        · refine .inl ⟨fun i hi hl => ?_, g', og.trans og', h2.trans h4⟩
          by_cases he : i = n
          · subst he; simpa using h3
          · exact h1 i hi (by omega)
        · refine .inr ⟨n, ?_, by omega, s, h2.trans h4, og.trans os, h5⟩
          rw [List.findIdx?_eq_some_iff_getElem]
          refine ⟨by omega, by simpa using h3, fun j hj => ?_⟩
          simpa using h1 j (by omega) (by omega)
      · exact .inr h
  rcases key xs.length (Nat.le_refl _) with ⟨h1, g, og, h2⟩ | h
  · refine .inl ⟨?_, g, og, h2⟩
    rw [List.findIdx?_eq_none_iff]
    intro a ha
    obtain ⟨i, hi, rfl⟩ := List.mem_iff_getElem.1 ha
    exact h1 i hi hi
  · exact .inr h
end
theorem findI_any {α : Type} (p : α → Bool) (xs : List α) : decide (findI p xs ≥ 0) = xs.any p := by
  unfold findI
  cases hf : xs.findIdx? p with
  | none =>
    rw [List.findIdx?_eq_none_iff] at hf
    have : xs.any p = false := by rw [List.any_eq_false]; intro a ha; simp [hf a ha]
    rw [this]; rfl
  | some i =>
    rw [List.findIdx?_eq_some_iff_getElem] at hf
    obtain ⟨h1, h2, _⟩ := hf
    have : xs.any p = true := List.any_eq_true.2 ⟨_, List.getElem_mem h1, h2⟩
    rw [this]; simp
section
variable {α : Type} {R : Rel α} {tag : Nat} {h0 h g : Heap} {x : Cell} {xs ys : List α} {fp fq : List Nat}
theorem SlR.rowsM (w : SlR tag R h x xs fp) : ∃ rows fps, rowsOf h x = some rows ∧ AllR R h rows xs fps := by
  rcases w with ⟨_, ⟨rfl, rfl, rfl⟩ | ⟨id, rows, fps, rfl, q1, q2, rfl, q3⟩⟩
  · exact ⟨[], [], rfl, trivial⟩
  · refine ⟨rows, fps, ?_, q3⟩
    have := q3.len
    simp only [rowsOf, q1, Option.bind_some, Nat.zero_add]
    rw [if_pos (by omega), List.drop_zero, List.take_of_length_le (by omega)]
theorem AllR.app : ∀ {r1 r2 : List (List Cell)} {xs ys : List α} {f1 f2 : List (List Nat)}, AllR R h r1 xs f1 → AllR R h r2 ys f2 → AllR R h (r1 ++ r2) (xs ++ ys) (f1 ++ f2)
  | [], _, [], _, [], _, _, w => w
  | _ :: _, _, _ :: _, _, _ :: _, _, ⟨w1, w⟩, u => ⟨w1, AllR.app w u⟩
  | [], _, [], _, _ :: _, _, w, _ => w.elim
  | [], _, _ :: _, _, _, _, w, _ => w.elim
  | _ :: _, _, [], _, _, _, w, _ => w.elim
  | _ :: _, _, _ :: _, _, [], _, w, _ => w.elim
/-- Raw rows that were laid together show what they show. -/
theorem Acc.shows (ok : RelOk R) {rows : List (List Cell)} {fps : List (List Nat)} (a : Acc tag h0 h x rows) (w : AllR R h0 rows xs fps) : ∃ fp, SlR tag R h x xs fp := by
  obtain ⟨o, fp, v, f⟩ := a
  have w' : AllR R h rows xs fps := w.mv ok o.ext.1 fun id hid => o.ext.2 id (w.lt ok id hid)
  have hl := w.len
  have hle := v.le
  rcases v.flat with ⟨rfl, h2, rfl⟩ | ⟨hx, hg, hn, rfl⟩
  · have : xs = [] := List.eq_nil_of_length_eq_zero (by rw [← hl, h2]; rfl)
    subst this
    exact ⟨_, SlR.nil _ _ _⟩
  · refine ⟨x.sid :: fps.flatten, by omega, .inr ⟨x.sid, rows, fps, by rw [← hl]; exact hx, by simpa using hg, hn, rfl, w'⟩⟩
end
end Go.Proofs.Ytlfepembgjjejaa.A
/- Stores into rows of data with memory. -/
namespace Go.Proofs.Ytlfepembgjjejaa.A
open Go
set_option linter.unusedSimpArgs false
set_option linter.unusedVariables false
section
variable {α : Type} {R : Rel α} {tag : Nat} {h0 h g : Heap} {x : Cell} {xs : List α} {fp fq : List Nat}
/-- Rows that were made behind h have turned: h goes on all the same. -/
theorem On.turned (o : On h0 h) (m : Mk h g fp) (f : Fre h0 fp) : On h0 g :=
  ⟨⟨by rw [m.next]; exact o.ext.1, fun id hid => by rw [m.get id (f.gt id hid)]; exact o.ext.2 id hid⟩, m.fl.trans o.fl⟩
theorem Fre.own (f : Fre h0 fp) (o : On h0 h) (hf : h0.floor ≤ h0.next) : ∀ id, id ∈ fp → h.floor ≤ id := fun id hid => by
  rw [o.fl]; exact Nat.le_trans hf (f.lo id hid)
theorem Mk.then {a b c : Heap} (m : Mk a b fp) (n : Mk b c fp) : Mk a c fp := ⟨n.next.trans m.next, n.fl.trans m.fl, fun id hid => (n.get id hid).trans (m.get id hid)⟩
/-- One row, and what stores into it leave. -/
theorem SlR.putRow (ok : RelOk R) (w : SlR tag R h x xs fp) (nd : fp.Nodup) (hfl : ∀ id, id ∈ fp → h.floor ≤ id) {i : Nat} (hi : i < xs.length) :
    ∃ r f, ∃ rows : List (List Cell), R h r xs[i] f ∧ x.sid ∈ fp ∧ (∀ j n, loadP h x.sid i j n = cut? r j n) ∧ h.put x.sid (rows.set i r) = h ∧
      (∀ r1 j new, storeP (h.put x.sid (rows.set i r1)) x.sid i j new = putM h x.sid rows i (splice? r1 j new)) ∧ (∀ r1 j n, loadP (h.put x.sid (rows.set i r1)) x.sid i j n = cut? r1 j n) ∧
      ∀ r' t', R h r' t' f → SlR tag R (h.put x.sid (rows.set i r')) x (xs.set i t') fp ∧ Mk h (h.put x.sid (rows.set i r')) fp := by
  obtain ⟨r, f, rows, hR, hin, nf, hs, hns, hsl, hg, hr, hir, fin⟩ := w.turn ok nd hi
  refine ⟨r, f, rows, hR, hs, loadP_row hg hr, put_row hg hr, fun r1 j new => storeP_put (hfl _ hs) hir r1 new j, fun r1 j n => loadP_put hir r1 j n, fun r' t' v => ⟨?_, rfl, rfl, fun id hid => put_ne _ fun e => hid (e ▸ hs)⟩⟩
  exact fin _ r' t' (Nat.le_refl _) (fun id _ h2 _ => put_ne _ h2) (by simp [Heap.put]) (ok.mv v (Nat.le_refl _) fun id hid => put_ne _ fun e => hns (e ▸ hid))
end
end Go.Proofs.Ytlfepembgjjejaa.A
/- Small laws of lists and of slices, used in many texts. -/
namespace Go.Proofs.Ytlfepembgjjejaa.A
open Go
set_option linter.unusedSimpArgs false
set_option linter.unusedVariables false
theorem findI_lt {α : Type} {p : α → Bool} {xs : List α} : -1 ≤ findI p xs ∧ findI p xs < xs.length := by
  unfold findI
  split
  · rename_i i hi
    rw [List.findIdx?_eq_some_iff_getElem] at hi
    obtain ⟨h, _⟩ := hi
    omega
  · omega
theorem findI_at {α : Type} {p : α → Bool} {xs : List α} (h : 0 ≤ findI p xs) : ∃ i : Nat, findI p xs = (i : Int) ∧ ∃ hi : i < xs.length, p xs[i] = true := by
  unfold findI at h ⊢
  split at h
  · rename_i i hi
    rw [List.findIdx?_eq_some_iff_getElem] at hi
    obtain ⟨h1, h2, _⟩ := hi
    exact ⟨i, rfl, h1, h2⟩
  · omega
theorem findI_no {α : Type} {p : α → Bool} {xs : List α} (h : findI p xs < 0) : findI p xs = -1 := by
  unfold findI at h ⊢
  split at h
  · omega
  · rfl
theorem mix_set {α : Type} (f : α → α) (xs : List α) {i : Nat} (hi : i < xs.length) : ((xs.take i).map f ++ xs.drop i).set i (f xs[i]) = (xs.take (i + 1)).map f ++ xs.drop (i + 1) := by
  rw [List.set_append_right _ _ (by simp; omega), show i - ((xs.take i).map f).length = 0 from by simp; omega, List.drop_eq_getElem_cons hi, List.set_cons_zero,
    show xs.take (i + 1) = xs.take i ++ [xs[i]] from by rw [List.take_add_one, List.getElem?_eq_getElem hi]; rfl, List.map_append, List.append_assoc]
  rfl
theorem mix_at {α : Type} (f : α → α) (xs : List α) {i : Nat} (hi : i < xs.length) (h : i < ((xs.take i).map f ++ xs.drop i).length) : ((xs.take i).map f ++ xs.drop i)[i] = xs[i] := by
  rw [List.getElem_append_right (by simp; omega)]
  simp
  congr 1
  omega
theorem set_same {α : Type} (xs : List α) {i : Nat} (hi : i < xs.length) : xs.set i xs[i] = xs := by
  apply List.ext_getElem?
  intro j
  by_cases e : i = j
  · subst e; rw [List.getElem?_set_self hi, List.getElem?_eq_getElem hi]
  · rw [List.getElem?_set_ne e]
theorem filter_next {α : Type} (p : α → Bool) {xs : List α} {i : Nat} (hi : i < xs.length) : (xs.take (i + 1)).filter p = (xs.take i).filter p ++ if p xs[i] then [xs[i]] else [] := by
  rw [List.take_add_one, List.getElem?_eq_getElem hi, List.filter_append]
  cases h : p xs[i] <;> simp [h]
theorem filter_len {α : Type} (p : α → Bool) (xs : List α) (i : Nat) : ((xs.take i).filter p).length ≤ xs.length := Nat.le_trans (List.length_filter_le _ _) (by rw [List.length_take]; omega)
section
variable {α : Type} {R : Rel α} {tag : Nat} {h0 h g : Heap} {x y : Cell} {xs ys : List α} {fp fq : List Nat}
/-- A slice of one. -/
theorem SlR.lit1 (ok : RelOk R) {cs : List Cell} {t : α} (v : R h cs t fp) (nd : fp.Nodup) : SlR tag R (h.push [cs]) (.sl tag h.next 0 1) [t] (h.next :: fp) ∧ (h.next :: fp).Nodup :=
  ⟨⟨by simp [maxLen], .inr ⟨h.next, [cs], [fp], rfl, by simp [Heap.push], by simp [Heap.push], by simp, ⟨ok.mv v (by simp [Heap.push]) fun id hid => push_ne _ (by have := ok.lt v id hid; omega), trivial⟩⟩⟩, List.nodup_cons.2 ⟨fun hc => by have := ok.lt v _ hc; omega, nd⟩⟩
end
end Go.Proofs.Ytlfepembgjjejaa.A
/- Where an id lies in the shards of a store. -/
namespace Go.Proofs.Ytlfepembgjjejaa.A
open Go
set_option linter.unusedSimpArgs false
set_option linter.unusedVariables false
def findId (xs : List Shard) (id : Int) : Int := findI (fun t => decide (t.lo ≤ id) && decide (id ≤ t.hi)) xs
def findAt (xs : List Shard) (lo st : Int) : Int := findI (fun t => (t.lo == lo) && (t.state == st)) xs
section
variable {F : Nat → Option RF} {Z : CallF} {h : Heap} {x : Cell} {xs : List Shard} {fp : List Nat} {cs : List Cell} {s : Store}
/-- slices.IndexFunc, of a function that leaves the heap alone. -/
theorem indexShard_run (hL : Has F tLibslicesIndexFuncimplShardimplShard) (w : SlR 16 Shard.RI h x xs fp) (f : Nat) (ps : List (Nat × Nat × Nat)) (p : Shard → Bool)
    (hc : ∀ r t q, Shard.RI h r t q → call F Z f (.agg r :: capV ps) h = some (.c (.bool (p t)), h)) : call F Z 248 [.c x, .c (.fn f ps)] h = some (.c (.int .i64 (findI p xs)), h) := by
  have hle := w.le2
  rw [call_run F Z (hL.lk (g := 248) rfl) _ _ rfl]
  simp only [run0, run1, run2, run3, run4, noSlot, ownS, ownK, memN, RO.dst, lk, drop, forget, number, Nat.reduceBEq, cut?, splice?, builds, List.length_cons, List.length_nil, List.drop_succ_cons, List.drop_zero, List.take_succ_cons, List.take_zero, List.cons_append, List.nil_append, List.append_nil, List.drop_nil, List.take_nil, Nat.reduceAdd, Nat.reduceLeDiff, Nat.zero_add, Nat.add_zero, ↓reduceIte, Bool.not_true, Bool.not_false, decide_true, decide_false, eq_self, bne_self_eq_false, List.getElem?_cons_zero, List.getElem?_cons_succ, decide_eq_true_eq, Bool.false_eq_true, Bool.true_eq_false, reduceCtorEq, Nat.le_refl, w.len]
  have key := loop_find (F := F) (Z := Z) (live := [0, 1, 7, 8]) (b := r248L0) xs p (fun i => ⟨[(0, .c x), (1, .c (.fn f ps)), (7, .c (.int .i64 (xs.length : Nat))), (8, .c (.int .i64 (i : Nat)))], [], [], h⟩) (fun i s => lk s.env 4 = some (.c (.int .i64 (i : Nat))) ∧ s.hp = h) fun i hi => by
    have hlt : (i : Int) < xs.length := by omega
    have hws := wrapS i (by omega)
    obtain ⟨r, q, hld, hR, _⟩ := w.one hi
    have hci := hc _ _ _ hR
    obtain ⟨r1, r2, r3⟩ := Shard.lenI hR
    have hxi := w.idx hi
    clear w hR
    rw [loop_run]
    conv in (codeF _ _ r248L0 _) => unfold r248L0
    simp only [run0, run1, run2, run3, run4, noSlot, ownS, ownK, memN, RO.dst, lk, drop, forget, number, Nat.reduceBEq, cut?, splice?, builds, List.length_cons, List.length_nil, List.drop_succ_cons, List.drop_zero, List.take_succ_cons, List.take_zero, List.cons_append, List.nil_append, List.append_nil, List.drop_nil, List.take_nil, Nat.reduceAdd, Nat.reduceLeDiff, Nat.zero_add, Nat.add_zero, ↓reduceIte, Bool.not_true, Bool.not_false, decide_true, decide_false, eq_self, bne_self_eq_false, List.getElem?_cons_zero, List.getElem?_cons_succ, decide_eq_true_eq, Bool.false_eq_true, Bool.true_eq_false, reduceCtorEq, Nat.le_refl, hlt, hxi, hld, r1, r2, r3]
    simp only [hci, run0, run1, run2, run3, run4, noSlot, ownS, ownK, memN, RO.dst, lk, drop, forget, number, Nat.reduceBEq, cut?, splice?, builds, List.length_cons, List.length_nil, List.drop_succ_cons, List.drop_zero, List.take_succ_cons, List.take_zero, List.cons_append, List.nil_append, List.append_nil, List.drop_nil, List.take_nil, Nat.reduceAdd, Nat.reduceLeDiff, Nat.zero_add, Nat.add_zero, ↓reduceIte, Bool.not_true, Bool.not_false, decide_true, decide_false, eq_self, bne_self_eq_false, List.getElem?_cons_zero, List.getElem?_cons_succ, decide_eq_true_eq, Bool.false_eq_true, Bool.true_eq_false, reduceCtorEq, Nat.le_refl]
    (repeat' ((first | (rw [gF_if]; split) | (rw [condC_if]; split) | (rw [pickR_if]; split)) <;> (rename_i hh; (try simp only [Bool.not_eq_true, decide_eq_true_eq] at hh); simp only [hh, run0, run1, run2, run3, run4, noSlot, ownS, ownK, memN, RO.dst, lk, drop, forget, number, Nat.reduceBEq, cut?, splice?, builds, List.length_cons, List.length_nil, List.drop_succ_cons, List.drop_zero, List.take_succ_cons, List.take_zero, List.cons_append, List.nil_append, List.append_nil, List.drop_nil, List.take_nil, Nat.reduceAdd, Nat.reduceLeDiff, Nat.zero_add, Nat.add_zero, ↓reduceIte, Bool.not_true, Bool.not_false, decide_true, decide_false, eq_self, bne_self_eq_false, List.getElem?_cons_zero, List.getElem?_cons_succ, decide_eq_true_eq, Bool.false_eq_true, Bool.true_eq_false, reduceCtorEq, Nat.le_refl, hws]))) <;> first
      | exact .inl ⟨by simp_all, rfl⟩
      | exact .inr ⟨by simp_all, _, rfl, rfl, rfl⟩
  have hlt : ¬ (xs.length : Int) < xs.length := by omega
  simp only [show ((0 : Nat) : Int) = 0 from rfl] at key
  rcases key with ⟨k1, k2⟩ | ⟨i, k1, hi, s, k2, k3, k4⟩
  · rw [k2, loop_run]
    conv in (codeF _ _ r248L0 _) => unfold r248L0
    simp only [run0, run1, run2, run3, run4, noSlot, ownS, ownK, memN, RO.dst, lk, drop, forget, number, Nat.reduceBEq, cut?, splice?, builds, List.length_cons, List.length_nil, List.drop_succ_cons, List.drop_zero, List.take_succ_cons, List.take_zero, List.cons_append, List.nil_append, List.append_nil, List.drop_nil, List.take_nil, Nat.reduceAdd, Nat.reduceLeDiff, Nat.zero_add, Nat.add_zero, ↓reduceIte, Bool.not_true, Bool.not_false, decide_true, decide_false, eq_self, bne_self_eq_false, List.getElem?_cons_zero, List.getElem?_cons_succ, decide_eq_true_eq, Bool.false_eq_true, Bool.true_eq_false, reduceCtorEq, Nat.le_refl, hlt, findI, k1]
  · rw [k2]
    simp only [run0, run1, run2, run3, run4, noSlot, ownS, ownK, memN, RO.dst, lk, drop, forget, number, Nat.reduceBEq, cut?, splice?, builds, List.length_cons, List.length_nil, List.drop_succ_cons, List.drop_zero, List.take_succ_cons, List.take_zero, List.cons_append, List.nil_append, List.append_nil, List.drop_nil, List.take_nil, Nat.reduceAdd, Nat.reduceLeDiff, Nat.zero_add, Nat.add_zero, ↓reduceIte, Bool.not_true, Bool.not_false, decide_true, decide_false, eq_self, bne_self_eq_false, List.getElem?_cons_zero, List.getElem?_cons_succ, decide_eq_true_eq, Bool.false_eq_true, Bool.true_eq_false, reduceCtorEq, Nat.le_refl, k3, k4, findI, k1]
theorem shardWith_run (hI13 : Has F tI13) (hL : Has F tLibslicesIndexFuncimplShardimplShard) (v : Store.RI h cs s fp) (id : Int) :
    call F Z 212 [.agg cs, .c (.int .u64 id)] h = some (.c (.int .i64 (findId s.shards id)), h.push [[.int .u64 id]]) := by
  obtain ⟨x, p, rfl, rfl, w⟩ := v
  have w' := w.on Shard.okI (On.push h [[.int .u64 id]])
  have hr := indexShard_run (Z := Z) hL w' 247 [(h.next, 0, 0)] (fun t => decide (t.lo ≤ id) && decide (id ≤ t.hi)) fun r t q hR => by
    obtain ⟨x1, p1, x2, p2, rfl, _⟩ := hR
    have hl : loadP (h.push [[.int .u64 id]]) h.next 0 0 1 = some [.int .u64 id] := by simp [loadP, rowOf, push_get, cut?]
    simp only [run0, run1, run2, run3, run4, noSlot, ownS, ownK, memN, RO.dst, lk, drop, forget, number, Nat.reduceBEq, cut?, splice?, builds, List.length_cons, List.length_nil, List.drop_succ_cons, List.drop_zero, List.take_succ_cons, List.take_zero, List.cons_append, List.nil_append, List.append_nil, List.drop_nil, List.take_nil, Nat.reduceAdd, Nat.reduceLeDiff, Nat.zero_add, Nat.add_zero, ↓reduceIte, Bool.not_true, Bool.not_false, decide_true, decide_false, eq_self, bne_self_eq_false, List.getElem?_cons_zero, List.getElem?_cons_succ, decide_eq_true_eq, Bool.false_eq_true, Bool.true_eq_false, reduceCtorEq, Nat.le_refl, capV_cons]
    rw [call_run F Z (hI13.lk (g := 247) rfl) _ _ rfl]
    simp only [run0, run1, run2, run3, run4, noSlot, ownS, ownK, memN, RO.dst, lk, drop, forget, number, Nat.reduceBEq, cut?, splice?, builds, List.length_cons, List.length_nil, List.drop_succ_cons, List.drop_zero, List.take_succ_cons, List.take_zero, List.cons_append, List.nil_append, List.append_nil, List.drop_nil, List.take_nil, Nat.reduceAdd, Nat.reduceLeDiff, Nat.zero_add, Nat.add_zero, ↓reduceIte, Bool.not_true, Bool.not_false, decide_true, decide_false, eq_self, bne_self_eq_false, List.getElem?_cons_zero, List.getElem?_cons_succ, decide_eq_true_eq, Bool.false_eq_true, Bool.true_eq_false, reduceCtorEq, Nat.le_refl, hl]
    (repeat' ((first | (rw [gF_if]; split) | (rw [condC_if]; split) | (rw [pickR_if]; split)) <;> (rename_i hh; (try simp only [Bool.not_eq_true, decide_eq_true_eq] at hh); simp only [hh, run0, run1, run2, run3, run4, noSlot, ownS, ownK, memN, RO.dst, lk, drop, forget, number, Nat.reduceBEq, cut?, splice?, builds, List.length_cons, List.length_nil, List.drop_succ_cons, List.drop_zero, List.take_succ_cons, List.take_zero, List.cons_append, List.nil_append, List.append_nil, List.drop_nil, List.take_nil, Nat.reduceAdd, Nat.reduceLeDiff, Nat.zero_add, Nat.add_zero, ↓reduceIte, Bool.not_true, Bool.not_false, decide_true, decide_false, eq_self, bne_self_eq_false, List.getElem?_cons_zero, List.getElem?_cons_succ, decide_eq_true_eq, Bool.false_eq_true, Bool.true_eq_false, reduceCtorEq, Nat.le_refl, hl]))) <;> simp_all
  rw [call_run F Z (hI13.lk (g := 212) rfl) _ _ rfl]
  simp only [run0, run1, run2, run3, run4, noSlot, ownS, ownK, memN, RO.dst, lk, drop, forget, number, Nat.reduceBEq, cut?, splice?, builds, List.length_cons, List.length_nil, List.drop_succ_cons, List.drop_zero, List.take_succ_cons, List.take_zero, List.cons_append, List.nil_append, List.append_nil, List.drop_nil, List.take_nil, Nat.reduceAdd, Nat.reduceLeDiff, Nat.zero_add, Nat.add_zero, ↓reduceIte, Bool.not_true, Bool.not_false, decide_true, decide_false, eq_self, bne_self_eq_false, List.getElem?_cons_zero, List.getElem?_cons_succ, decide_eq_true_eq, Bool.false_eq_true, Bool.true_eq_false, reduceCtorEq, Nat.le_refl, hr, evPtrs]
  rfl
theorem shardAt_run (hI13 : Has F tI13) (hL : Has F tLibslicesIndexFuncimplShardimplShard) (v : Store.RI h cs s fp) (lo st : Int) :
    call F Z 213 [.agg cs, .c (.int .u64 lo), .c (.int .i64 st)] h = some (.c (.int .i64 (findAt s.shards lo st)), (h.push [[.int .u64 lo]]).push [[.int .i64 st]]) := by
  obtain ⟨x, p, rfl, rfl, w⟩ := v
  have w' := (w.on Shard.okI (On.push h [[.int .u64 lo]])).on Shard.okI (On.push _ [[.int .i64 st]])
  have hr := indexShard_run (Z := Z) hL w' 249 [(h.next, 0, 0), (h.next + 1, 0, 0)] (fun t => (t.lo == lo) && (t.state == st)) fun r t q hR => by
    obtain ⟨x1, p1, x2, p2, rfl, _⟩ := hR
    have hl : loadP ((h.push [[.int .u64 lo]]).push [[.int .i64 st]]) h.next 0 0 1 = some [.int .u64 lo] := by
      simp [loadP, rowOf, Heap.push, cut?]
    have hl2 : loadP ((h.push [[.int .u64 lo]]).push [[.int .i64 st]]) (h.next + 1) 0 0 1 = some [.int .i64 st] := by
      simp [loadP, rowOf, Heap.push, cut?]
    simp only [run0, run1, run2, run3, run4, noSlot, ownS, ownK, memN, RO.dst, lk, drop, forget, number, Nat.reduceBEq, cut?, splice?, builds, List.length_cons, List.length_nil, List.drop_succ_cons, List.drop_zero, List.take_succ_cons, List.take_zero, List.cons_append, List.nil_append, List.append_nil, List.drop_nil, List.take_nil, Nat.reduceAdd, Nat.reduceLeDiff, Nat.zero_add, Nat.add_zero, ↓reduceIte, Bool.not_true, Bool.not_false, decide_true, decide_false, eq_self, bne_self_eq_false, List.getElem?_cons_zero, List.getElem?_cons_succ, decide_eq_true_eq, Bool.false_eq_true, Bool.true_eq_false, reduceCtorEq, Nat.le_refl, capV_cons]
    rw [call_run F Z (hI13.lk (g := 249) rfl) _ _ rfl]
    simp only [run0, run1, run2, run3, run4, noSlot, ownS, ownK, memN, RO.dst, lk, drop, forget, number, Nat.reduceBEq, cut?, splice?, builds, List.length_cons, List.length_nil, List.drop_succ_cons, List.drop_zero, List.take_succ_cons, List.take_zero, List.cons_append, List.nil_append, List.append_nil, List.drop_nil, List.take_nil, Nat.reduceAdd, Nat.reduceLeDiff, Nat.zero_add, Nat.add_zero, ↓reduceIte, Bool.not_true, Bool.not_false, decide_true, decide_false, eq_self, bne_self_eq_false, List.getElem?_cons_zero, List.getElem?_cons_succ, decide_eq_true_eq, Bool.false_eq_true, Bool.true_eq_false, reduceCtorEq, Nat.le_refl, hl, hl2]
    (repeat' ((first | (rw [gF_if]; split) | (rw [condC_if]; split) | (rw [pickR_if]; split)) <;> (rename_i hh; (try simp only [Bool.not_eq_true, decide_eq_true_eq] at hh); simp only [hh, run0, run1, run2, run3, run4, noSlot, ownS, ownK, memN, RO.dst, lk, drop, forget, number, Nat.reduceBEq, cut?, splice?, builds, List.length_cons, List.length_nil, List.drop_succ_cons, List.drop_zero, List.take_succ_cons, List.take_zero, List.cons_append, List.nil_append, List.append_nil, List.drop_nil, List.take_nil, Nat.reduceAdd, Nat.reduceLeDiff, Nat.zero_add, Nat.add_zero, ↓reduceIte, Bool.not_true, Bool.not_false, decide_true, decide_false, eq_self, bne_self_eq_false, List.getElem?_cons_zero, List.getElem?_cons_succ, decide_eq_true_eq, Bool.false_eq_true, Bool.true_eq_false, reduceCtorEq, Nat.le_refl, hl, hl2]))) <;> simp_all
  rw [call_run F Z (hI13.lk (g := 213) rfl) _ _ rfl]
  simp only [run0, run1, run2, run3, run4, noSlot, ownS, ownK, memN, RO.dst, lk, drop, forget, number, Nat.reduceBEq, cut?, splice?, builds, List.length_cons, List.length_nil, List.drop_succ_cons, List.drop_zero, List.take_succ_cons, List.take_zero, List.cons_append, List.nil_append, List.append_nil, List.drop_nil, List.take_nil, Nat.reduceAdd, Nat.reduceLeDiff, Nat.zero_add, Nat.add_zero, ↓reduceIte, Bool.not_true, Bool.not_false, decide_true, decide_false, eq_self, bne_self_eq_false, List.getElem?_cons_zero, List.getElem?_cons_succ, decide_eq_true_eq, Bool.false_eq_true, Bool.true_eq_false, reduceCtorEq, Nat.le_refl, push_next, hr, evPtrs]
  rfl
theorem shardWith_on (hI13 : Has F tI13) (hL : Has F tLibslicesIndexFuncimplShardimplShard) (v : Store.RI h cs s fp) (id : Int) :
    ∃ h', call F Z 212 [.agg cs, .c (.int .u64 id)] h = some (.c (.int .i64 (findId s.shards id)), h') ∧ On h h' := ⟨_, shardWith_run hI13 hL v id, On.push _ _⟩
theorem shardAt_on (hI13 : Has F tI13) (hL : Has F tLibslicesIndexFuncimplShardimplShard) (v : Store.RI h cs s fp) (lo st : Int) :
    ∃ h', call F Z 213 [.agg cs, .c (.int .u64 lo), .c (.int .i64 st)] h = some (.c (.int .i64 (findAt s.shards lo st)), h') ∧ On h h' := ⟨_, shardAt_run hI13 hL v lo st, (On.push _ _).trans (On.push _ _)⟩
theorem l13Find_run (hS13 : Has F tS13) (v : Store.RI h cs s fp) (id : Int) : call F Z 211 [.agg cs, .c (.int .u64 id)] h = some (.c (.int .i64 (findId s.shards id)), h) := by
  obtain ⟨x, p, rfl, rfl, w⟩ := v
  have hle := w.le2
  have hwl := w.len
  rw [call_run F Z (hS13.lk (g := 211) rfl) _ _ rfl]
  simp only [run0, run1, run2, run3, run4, noSlot, ownS, ownK, memN, RO.dst, lk, drop, forget, number, Nat.reduceBEq, cut?, splice?, builds, List.length_cons, List.length_nil, List.drop_succ_cons, List.drop_zero, List.take_succ_cons, List.take_zero, List.cons_append, List.nil_append, List.append_nil, List.drop_nil, List.take_nil, Nat.reduceAdd, Nat.reduceLeDiff, Nat.zero_add, Nat.add_zero, ↓reduceIte, Bool.not_true, Bool.not_false, decide_true, decide_false, eq_self, bne_self_eq_false, List.getElem?_cons_zero, List.getElem?_cons_succ, decide_eq_true_eq, Bool.false_eq_true, Bool.true_eq_false, reduceCtorEq, Nat.le_refl]
  have key := loop_find (F := F) (Z := Z) (live := [1, 2, 5]) (b := r211L0) s.shards (fun t => decide (t.lo ≤ id) && decide (id ≤ t.hi)) (fun i => ⟨[(1, .c (.int .u64 id)), (5, .c (.int .i64 (i : Nat)))], [(2, 2, 0)], [(2, [.int .i64 s.group, .int .i64 s.seen, x])], h⟩) (fun i s => lk s.env 4 = some (.c (.int .i64 (i : Nat))) ∧ s.hp = h) fun i hi => by
    have hlt : (i : Int) < s.shards.length := by omega
    have hws := wrapS i (by omega)
    obtain ⟨r, q, hld, hR, _⟩ := w.one hi
    obtain ⟨x1, p1, x2, p2, rfl, _⟩ := hR
    have hxi := w.idx hi
    clear w
    rw [loop_run]
    conv in (codeF _ _ r211L0 _) => unfold r211L0
    simp only [run0, run1, run2, run3, run4, noSlot, ownS, ownK, memN, RO.dst, lk, drop, forget, number, Nat.reduceBEq, cut?, splice?, builds, List.length_cons, List.length_nil, List.drop_succ_cons, List.drop_zero, List.take_succ_cons, List.take_zero, List.cons_append, List.nil_append, List.append_nil, List.drop_nil, List.take_nil, Nat.reduceAdd, Nat.reduceLeDiff, Nat.zero_add, Nat.add_zero, ↓reduceIte, Bool.not_true, Bool.not_false, decide_true, decide_false, eq_self, bne_self_eq_false, List.getElem?_cons_zero, List.getElem?_cons_succ, decide_eq_true_eq, Bool.false_eq_true, Bool.true_eq_false, reduceCtorEq, Nat.le_refl, hwl, hlt, hxi, hld]
    (repeat' ((first | (rw [gF_if]; split) | (rw [condC_if]; split) | (rw [pickR_if]; split)) <;> (rename_i hh; (try simp only [Bool.not_eq_true, decide_eq_true_eq] at hh); simp only [hh, run0, run1, run2, run3, run4, noSlot, ownS, ownK, memN, RO.dst, lk, drop, forget, number, Nat.reduceBEq, cut?, splice?, builds, List.length_cons, List.length_nil, List.drop_succ_cons, List.drop_zero, List.take_succ_cons, List.take_zero, List.cons_append, List.nil_append, List.append_nil, List.drop_nil, List.take_nil, Nat.reduceAdd, Nat.reduceLeDiff, Nat.zero_add, Nat.add_zero, ↓reduceIte, Bool.not_true, Bool.not_false, decide_true, decide_false, eq_self, bne_self_eq_false, List.getElem?_cons_zero, List.getElem?_cons_succ, decide_eq_true_eq, Bool.false_eq_true, Bool.true_eq_false, reduceCtorEq, Nat.le_refl, hws, hxi, hld]))) <;> first
      | exact .inl ⟨by simp_all, rfl⟩
      | exact .inr ⟨by simp_all, _, rfl, rfl, rfl⟩
  have hlt : ¬ (s.shards.length : Int) < s.shards.length := by omega
  simp only [show ((0 : Nat) : Int) = 0 from rfl] at key
  rcases key with ⟨k1, k2⟩ | ⟨i, k1, hi, s, k2, k3, k4⟩
  · rw [k2, loop_run]
    conv in (codeF _ _ r211L0 _) => unfold r211L0
    simp only [run0, run1, run2, run3, run4, noSlot, ownS, ownK, memN, RO.dst, lk, drop, forget, number, Nat.reduceBEq, cut?, splice?, builds, List.length_cons, List.length_nil, List.drop_succ_cons, List.drop_zero, List.take_succ_cons, List.take_zero, List.cons_append, List.nil_append, List.append_nil, List.drop_nil, List.take_nil, Nat.reduceAdd, Nat.reduceLeDiff, Nat.zero_add, Nat.add_zero, ↓reduceIte, Bool.not_true, Bool.not_false, decide_true, decide_false, eq_self, bne_self_eq_false, List.getElem?_cons_zero, List.getElem?_cons_succ, decide_eq_true_eq, Bool.false_eq_true, Bool.true_eq_false, reduceCtorEq, Nat.le_refl, hwl, hlt, findId, findI, k1]
  · rw [k2]
    simp only [run0, run1, run2, run3, run4, noSlot, ownS, ownK, memN, RO.dst, lk, drop, forget, number, Nat.reduceBEq, cut?, splice?, builds, List.length_cons, List.length_nil, List.drop_succ_cons, List.drop_zero, List.take_succ_cons, List.take_zero, List.cons_append, List.nil_append, List.append_nil, List.drop_nil, List.take_nil, Nat.reduceAdd, Nat.reduceLeDiff, Nat.zero_add, Nat.add_zero, ↓reduceIte, Bool.not_true, Bool.not_false, decide_true, decide_false, eq_self, bne_self_eq_false, List.getElem?_cons_zero, List.getElem?_cons_succ, decide_eq_true_eq, Bool.false_eq_true, Bool.true_eq_false, reduceCtorEq, Nat.le_refl, k3, k4, findId, findI, k1]
theorem l13At_run (hS13 : Has F tS13) (v : Store.RI h cs s fp) (lo st : Int) : call F Z 210 [.agg cs, .c (.int .u64 lo), .c (.int .i64 st)] h = some (.c (.int .i64 (findAt s.shards lo st)), h) := by
  obtain ⟨x, p, rfl, rfl, w⟩ := v
  have hle := w.le2
  have hwl := w.len
  rw [call_run F Z (hS13.lk (g := 210) rfl) _ _ rfl]
  simp only [run0, run1, run2, run3, run4, noSlot, ownS, ownK, memN, RO.dst, lk, drop, forget, number, Nat.reduceBEq, cut?, splice?, builds, List.length_cons, List.length_nil, List.drop_succ_cons, List.drop_zero, List.take_succ_cons, List.take_zero, List.cons_append, List.nil_append, List.append_nil, List.drop_nil, List.take_nil, Nat.reduceAdd, Nat.reduceLeDiff, Nat.zero_add, Nat.add_zero, ↓reduceIte, Bool.not_true, Bool.not_false, decide_true, decide_false, eq_self, bne_self_eq_false, List.getElem?_cons_zero, List.getElem?_cons_succ, decide_eq_true_eq, Bool.false_eq_true, Bool.true_eq_false, reduceCtorEq, Nat.le_refl]
  have key := loop_find (F := F) (Z := Z) (live := [1, 2, 3, 7]) (b := r210L0) s.shards (fun t => (t.lo == lo) && (t.state == st)) (fun i => ⟨[(1, .c (.int .u64 lo)), (2, .c (.int .i64 st)), (7, .c (.int .i64 (i : Nat)))], [(3, 3, 0)], [(3, [.int .i64 s.group, .int .i64 s.seen, x])], h⟩) (fun i s => lk s.env 6 = some (.c (.int .i64 (i : Nat))) ∧ s.hp = h) fun i hi => by
    have hlt : (i : Int) < s.shards.length := by omega
    have hws := wrapS i (by omega)
    obtain ⟨r, q, hld, hR, _⟩ := w.one hi
    obtain ⟨x1, p1, x2, p2, rfl, _⟩ := hR
    have hxi := w.idx hi
    clear w
    rw [loop_run]
    conv in (codeF _ _ r210L0 _) => unfold r210L0
    simp only [run0, run1, run2, run3, run4, noSlot, ownS, ownK, memN, RO.dst, lk, drop, forget, number, Nat.reduceBEq, cut?, splice?, builds, List.length_cons, List.length_nil, List.drop_succ_cons, List.drop_zero, List.take_succ_cons, List.take_zero, List.cons_append, List.nil_append, List.append_nil, List.drop_nil, List.take_nil, Nat.reduceAdd, Nat.reduceLeDiff, Nat.zero_add, Nat.add_zero, ↓reduceIte, Bool.not_true, Bool.not_false, decide_true, decide_false, eq_self, bne_self_eq_false, List.getElem?_cons_zero, List.getElem?_cons_succ, decide_eq_true_eq, Bool.false_eq_true, Bool.true_eq_false, reduceCtorEq, Nat.le_refl, hwl, hlt, hxi, hld]
    (repeat' ((first | (rw [gF_if]; split) | (rw [condC_if]; split) | (rw [pickR_if]; split)) <;> (rename_i hh; (try simp only [Bool.not_eq_true, decide_eq_true_eq] at hh); simp only [hh, run0, run1, run2, run3, run4, noSlot, ownS, ownK, memN, RO.dst, lk, drop, forget, number, Nat.reduceBEq, cut?, splice?, builds, List.length_cons, List.length_nil, List.drop_succ_cons, List.drop_zero, List.take_succ_cons, List.take_zero, List.cons_append, List.nil_append, List.append_nil, List.drop_nil, List.take_nil, Nat.reduceAdd, Nat.reduceLeDiff, Nat.zero_add, Nat.add_zero, ↓reduceIte, Bool.not_true, Bool.not_false, decide_true, decide_false, eq_self, bne_self_eq_false, List.getElem?_cons_zero, List.getElem?_cons_succ, decide_eq_true_eq, Bool.false_eq_true, Bool.true_eq_false, reduceCtorEq, Nat.le_refl, hws, hxi, hld]))) <;> first
      | exact .inl ⟨by simp_all, rfl⟩
      | exact .inr ⟨by simp_all, _, rfl, rfl, rfl⟩
  have hlt : ¬ (s.shards.length : Int) < s.shards.length := by omega
  simp only [show ((0 : Nat) : Int) = 0 from rfl] at key
  rcases key with ⟨k1, k2⟩ | ⟨i, k1, hi, s, k2, k3, k4⟩
  · rw [k2, loop_run]
    conv in (codeF _ _ r210L0 _) => unfold r210L0
    simp only [run0, run1, run2, run3, run4, noSlot, ownS, ownK, memN, RO.dst, lk, drop, forget, number, Nat.reduceBEq, cut?, splice?, builds, List.length_cons, List.length_nil, List.drop_succ_cons, List.drop_zero, List.take_succ_cons, List.take_zero, List.cons_append, List.nil_append, List.append_nil, List.drop_nil, List.take_nil, Nat.reduceAdd, Nat.reduceLeDiff, Nat.zero_add, Nat.add_zero, ↓reduceIte, Bool.not_true, Bool.not_false, decide_true, decide_false, eq_self, bne_self_eq_false, List.getElem?_cons_zero, List.getElem?_cons_succ, decide_eq_true_eq, Bool.false_eq_true, Bool.true_eq_false, reduceCtorEq, Nat.le_refl, hwl, hlt, findAt, findI, k1]
  · rw [k2]
    simp only [run0, run1, run2, run3, run4, noSlot, ownS, ownK, memN, RO.dst, lk, drop, forget, number, Nat.reduceBEq, cut?, splice?, builds, List.length_cons, List.length_nil, List.drop_succ_cons, List.drop_zero, List.take_succ_cons, List.take_zero, List.cons_append, List.nil_append, List.append_nil, List.drop_nil, List.take_nil, Nat.reduceAdd, Nat.reduceLeDiff, Nat.zero_add, Nat.add_zero, ↓reduceIte, Bool.not_true, Bool.not_false, decide_true, decide_false, eq_self, bne_self_eq_false, List.getElem?_cons_zero, List.getElem?_cons_succ, decide_eq_true_eq, Bool.false_eq_true, Bool.true_eq_false, reduceCtorEq, Nat.le_refl, k3, k4, findAt, findI, k1]
end
end Go.Proofs.Ytlfepembgjjejaa.A
/- Copies of books. -/
namespace Go.Proofs.Ytlfepembgjjejaa.A
open Go
set_option linter.unusedSimpArgs false
set_option linter.unusedVariables false
theorem flatMap_one {α β : Type} (g : α → β) (xs : List α) : xs.flatMap (fun r => [g r]) = xs.map g := by
  induction xs with
  | nil => rfl
  | cons a r ih => rw [List.flatMap_cons, ih]; rfl
section
variable {F : Nat → Option RF} {Z : CallF} {h : Heap} {x : Cell} {xs : List Account} {fp fq : List Nat}
theorem copyBook_c (hI10 : Has F tI10) (hf : h.floor ≤ h.next) (w : SlR 11 (Fl Account.enc) h x xs fp) (sm : xs.length ≤ 1048576) : ∃ y h' fq, call F Z 260 [.agg [x]] h = some (.agg [y], h') ∧ On h h' ∧ SlR 11 (Fl Account.enc) h' y xs fq ∧ Fre h fq := by
  have a0 := Acc.lit0 (tag := 11) (On.refl h)
  have w' := w.on (Fl.ok _) (On.push h [])
  have ce := a0.cat_eq (bytes := 40) (y := x) (new := xs.map Account.enc) hf w'.isTag w'.rows (by simp; omega)
  have ac := a0.cat (new := xs.map Account.enc) hf (by simp; omega)
  simp only [List.nil_append] at ac
  obtain ⟨o, fq, u, f⟩ := ac.flat
  rw [call_run F Z (hI10.lk (g := 260) rfl) _ _ rfl]
  simp only [run0, run1, run2, run3, run4, noSlot, ownS, ownK, memN, RO.dst, lk, drop, forget, number, Nat.reduceBEq, cut?, splice?, builds, List.length_cons, List.length_nil, List.drop_succ_cons, List.drop_zero, List.take_succ_cons, List.take_zero, List.cons_append, List.nil_append, List.append_nil, List.drop_nil, List.take_nil, Nat.reduceAdd, Nat.reduceLeDiff, Nat.zero_add, Nat.add_zero, ↓reduceIte, Bool.not_true, Bool.not_false, decide_true, decide_false, eq_self, bne_self_eq_false, List.getElem?_cons_zero, List.getElem?_cons_succ, decide_eq_true_eq, Bool.false_eq_true, Bool.true_eq_false, reduceCtorEq, Nat.le_refl, List.replicate_zero, fills, ce]
  exact ⟨_, _, _, rfl, o, u, f⟩
theorem l10Copy_c (hS10 : Has F tS10) (hf : h.floor ≤ h.next) (w : SlR 11 (Fl Account.enc) h x xs fp) (sm : xs.length ≤ 1048576) : ∃ y h' fq, call F Z 259 [.agg [x]] h = some (.agg [y], h') ∧ On h h' ∧ SlR 11 (Fl Account.enc) h' y xs fq ∧ Fre h fq := by
  rw [call_run F Z (hS10.lk (g := 259) rfl) _ _ rfl]
  simp only [run0, run1, run2, run3, run4, noSlot, ownS, ownK, memN, RO.dst, lk, drop, forget, number, Nat.reduceBEq, cut?, splice?, builds, List.length_cons, List.length_nil, List.drop_succ_cons, List.drop_zero, List.take_succ_cons, List.take_zero, List.cons_append, List.nil_append, List.append_nil, List.drop_nil, List.take_nil, Nat.reduceAdd, Nat.reduceLeDiff, Nat.zero_add, Nat.add_zero, ↓reduceIte, Bool.not_true, Bool.not_false, decide_true, decide_false, eq_self, bne_self_eq_false, List.getElem?_cons_zero, List.getElem?_cons_succ, decide_eq_true_eq, Bool.false_eq_true, Bool.true_eq_false, reduceCtorEq, Nat.le_refl]
  obtain ⟨y1, h1, a1, l1⟩ := loop_acc (F := F) (Z := Z) (live := [1, 2, 3, 4]) (b := r259L0) xs (fun r => [r.enc]) 11 h (fun i y g => ⟨[(4, .c (.int .i64 (i : Nat)))], [(1, 1, 0), (2, 2, 0), (3, 3, 0)], [(1, [x]), (2, [.nil]), (3, [y])], g⟩) (fun r => by simp) (fun i hi y g rows a hr => by
    have e1 := a.one_eq hf (bytes := 40) (by omega)
    have a1 := a.one hf (by omega)
    have hlt : (i : Int) < xs.length := by omega
    have wg := w.on (Fl.ok _) a.on
    rw [loop_run]
    conv in (codeF _ _ r259L0 _) => unfold r259L0
    simp only [run0, run1, run2, run3, run4, noSlot, ownS, ownK, memN, RO.dst, lk, drop, forget, number, Nat.reduceBEq, cut?, splice?, builds, List.length_cons, List.length_nil, List.drop_succ_cons, List.drop_zero, List.take_succ_cons, List.take_zero, List.cons_append, List.nil_append, List.append_nil, List.drop_nil, List.take_nil, Nat.reduceAdd, Nat.reduceLeDiff, Nat.zero_add, Nat.add_zero, ↓reduceIte, Bool.not_true, Bool.not_false, decide_true, decide_false, eq_self, bne_self_eq_false, List.getElem?_cons_zero, List.getElem?_cons_succ, decide_eq_true_eq, Bool.false_eq_true, Bool.true_eq_false, reduceCtorEq, Nat.le_refl, w.len, hlt, w.idx hi, wg.load hi, Account.len, Account.tak, wrapS i (by omega), List.replicate_succ, List.replicate_zero, fills, and_self, Nat.zero_lt_one, List.set_cons_zero, e1]
    exact ⟨_, _, a1 _, rfl⟩) (Acc.nil 11 h)
  simp only [show ((0 : Nat) : Int) = 0 from rfl] at l1
  have hlt : ¬ (xs.length : Int) < xs.length := by omega
  rw [l1, loop_run]
  conv in (codeF _ _ r259L0 _) => unfold r259L0
  simp only [run0, run1, run2, run3, run4, noSlot, ownS, ownK, memN, RO.dst, lk, drop, forget, number, Nat.reduceBEq, cut?, splice?, builds, List.length_cons, List.length_nil, List.drop_succ_cons, List.drop_zero, List.take_succ_cons, List.take_zero, List.cons_append, List.nil_append, List.append_nil, List.drop_nil, List.take_nil, Nat.reduceAdd, Nat.reduceLeDiff, Nat.zero_add, Nat.add_zero, ↓reduceIte, Bool.not_true, Bool.not_false, decide_true, decide_false, eq_self, bne_self_eq_false, List.getElem?_cons_zero, List.getElem?_cons_succ, decide_eq_true_eq, Bool.false_eq_true, Bool.true_eq_false, reduceCtorEq, Nat.le_refl, w.len, hlt]
  rw [flatMap_one] at a1
  obtain ⟨o, fq, u, f⟩ := a1.flat
  exact ⟨_, _, _, rfl, o, u, f⟩
end
end Go.Proofs.Ytlfepembgjjejaa.A
/- Shards of a store: what one that is found reads as. -/
namespace Go.Proofs.Ytlfepembgjjejaa.A
open Go
set_option linter.unusedSimpArgs false
set_option linter.unusedVariables false
def Shard.cells (t : Shard) (x y : Cell) : List Cell := [.int .u64 t.lo, .int .u64 t.hi, .int .i64 t.state, .int .i64 t.epoch, x, y]
section
variable {F : Nat → Option RF} {Z : CallF} {h : Heap} {x : Cell} {xs : List Shard} {fp fq : List Nat}
theorem SlR.found (w : SlR 16 Shard.RI h x xs fp) (p : Shard → Bool) : findI p xs = -1 ∨ ∃ i : Nat, findI p xs = (i : Int) ∧ i < xs.length ∧ p (Shard.at_ xs i) = true ∧ idxR 16 (some x) (some (i : Int)) = some (.ptr x.sid i 0) ∧
    ∃ y z, ∀ j n, loadP h x.sid i j n = cut? ((Shard.at_ xs i).cells y z) j n := by
  by_cases h0 : 0 ≤ findI p xs
  · obtain ⟨i, e, hi, hp⟩ := findI_at h0
    obtain ⟨r, f, hl, hR, _⟩ := w.one hi
    rw [← Shard.at_get hi] at hR hp
    obtain ⟨x1, p1, x2, p2, rfl, _⟩ := hR
    exact .inr ⟨i, e, hi, hp, w.idx hi, x1, x2, hl⟩
  · exact .inl (findI_no (by omega))
end
end Go.Proofs.Ytlfepembgjjejaa.A
/- Copies of books and of shards. -/
namespace Go.Proofs.Ytlfepembgjjejaa.A
open Go
set_option linter.unusedSimpArgs false
set_option linter.unusedVariables false
section
variable {F : Nat → Option RF} {Z : CallF} {h : Heap} {x : Cell} {xs : List Account} {fp fq : List Nat} {cs : List Cell} {t : Shard}
theorem copyShard_c (hI10 : Has F tI10) (hI13 : Has F tI13) (hf : h.floor ≤ h.next) (v : Shard.RI h cs t fp) (sm : t.Small) : ∃ cs' h' fq, call F Z 229 [.agg cs] h = some (.agg cs', h') ∧ On h h' ∧ Shard.RI h' cs' t fq ∧ Fre h fq := by
  obtain ⟨x, p, y, q, rfl, rfl, w, u⟩ := v
  obtain ⟨y1, h1, q1, e1, o1, u1, f1⟩ := copyBook_c (Z := Z) hI10 hf w sm.1
  have sm2 : t.finished.length ≤ 1048576 := sm.2
  have hf1 := o1.le hf
  have a0 := Acc.lit0 (tag := 9) (On.refl h1)
  have w' := (u.on (Fl.ok _) o1).on (Fl.ok _) (On.push h1 [])
  have ce := a0.cat_eq (bytes := 16) (y := y) (new := t.finished.map Fin.enc) hf1 w'.isTag w'.rows (by simp; omega)
  have ac := a0.cat (new := t.finished.map Fin.enc) hf1 (by simp; omega)
  simp only [List.nil_append] at ac
  obtain ⟨o, fq, u2, f⟩ := ac.flat
  rw [call_run F Z (hI13.lk (g := 229) rfl) _ _ rfl]
  simp only [run0, run1, run2, run3, run4, noSlot, ownS, ownK, memN, RO.dst, lk, drop, forget, number, Nat.reduceBEq, cut?, splice?, builds, List.length_cons, List.length_nil, List.drop_succ_cons, List.drop_zero, List.take_succ_cons, List.take_zero, List.cons_append, List.nil_append, List.append_nil, List.drop_nil, List.take_nil, Nat.reduceAdd, Nat.reduceLeDiff, Nat.zero_add, Nat.add_zero, ↓reduceIte, Bool.not_true, Bool.not_false, decide_true, decide_false, eq_self, bne_self_eq_false, List.getElem?_cons_zero, List.getElem?_cons_succ, decide_eq_true_eq, Bool.false_eq_true, Bool.true_eq_false, reduceCtorEq, Nat.le_refl, e1, List.replicate_zero, fills, ce]
  exact ⟨_, _, _, rfl, o1.trans o, ⟨_, _, _, _, rfl, rfl, u1.on (Fl.ok _) o, u2⟩, f1.app (u1.lt (Fl.ok _)) f o1.ext.1⟩
theorem l13CopyShard_c (hS10 : Has F tS10) (hS13 : Has F tS13) (hf : h.floor ≤ h.next) (v : Shard.RI h cs t fp) (sm : t.Small) : ∃ cs' h' fq, call F Z 228 [.agg cs] h = some (.agg cs', h') ∧ On h h' ∧ Shard.RI h' cs' t fq ∧ Fre h fq := by
  obtain ⟨x, p, y, q, rfl, rfl, w, u⟩ := v
  obtain ⟨y1, h1, q1, e1, o1, u1, f1⟩ := l10Copy_c (Z := Z) hS10 hf w sm.1
  have sm2 : t.finished.length ≤ 1048576 := sm.2
  have hf1 := o1.le hf
  rw [call_run F Z (hS13.lk (g := 228) rfl) _ _ rfl]
  simp only [run0, run1, run2, run3, run4, noSlot, ownS, ownK, memN, RO.dst, lk, drop, forget, number, Nat.reduceBEq, cut?, splice?, builds, List.length_cons, List.length_nil, List.drop_succ_cons, List.drop_zero, List.take_succ_cons, List.take_zero, List.cons_append, List.nil_append, List.append_nil, List.drop_nil, List.take_nil, Nat.reduceAdd, Nat.reduceLeDiff, Nat.zero_add, Nat.add_zero, ↓reduceIte, Bool.not_true, Bool.not_false, decide_true, decide_false, eq_self, bne_self_eq_false, List.getElem?_cons_zero, List.getElem?_cons_succ, decide_eq_true_eq, Bool.false_eq_true, Bool.true_eq_false, reduceCtorEq, Nat.le_refl, e1, List.replicate_zero, fills]
  obtain ⟨y2, h2, a2, l2⟩ := loop_acc (F := F) (Z := Z) (live := [1, 2, 3, 4]) (b := r228L0) t.finished (fun r => [r.enc]) 9 h1 (fun i z g => ⟨[(3, .c z), (4, .c (.int .i64 (i : Nat)))], [(1, 1, 0), (2, 2, 0)], [(1, [.int .u64 t.lo, .int .u64 t.hi, .int .i64 t.state, .int .i64 t.epoch, y1, y]), (2, [.int .u64 0, .int .u64 0, .int .i64 0, .int .i64 0, .nil, .nil])], g⟩) (fun r => by simp) (fun i hi z g rows a hr => by
    have e1 := a.one_eq hf1 (bytes := 16) (by omega)
    have a1 := a.one hf1 (by omega)
    have hlt : (i : Int) < t.finished.length := by omega
    have wg := (u.on (Fl.ok _) o1).on (Fl.ok _) a.on
    rw [loop_run]
    conv in (codeF _ _ r228L0 _) => unfold r228L0
    simp only [run0, run1, run2, run3, run4, noSlot, ownS, ownK, memN, RO.dst, lk, drop, forget, number, Nat.reduceBEq, cut?, splice?, builds, List.length_cons, List.length_nil, List.drop_succ_cons, List.drop_zero, List.take_succ_cons, List.take_zero, List.cons_append, List.nil_append, List.append_nil, List.drop_nil, List.take_nil, Nat.reduceAdd, Nat.reduceLeDiff, Nat.zero_add, Nat.add_zero, ↓reduceIte, Bool.not_true, Bool.not_false, decide_true, decide_false, eq_self, bne_self_eq_false, List.getElem?_cons_zero, List.getElem?_cons_succ, decide_eq_true_eq, Bool.false_eq_true, Bool.true_eq_false, reduceCtorEq, Nat.le_refl, u.len, hlt, u.idx hi, wg.load hi, Fin.len, Fin.tak, wrapS i (by omega), List.replicate_succ, List.replicate_zero, fills, and_self, Nat.zero_lt_one, List.set_cons_zero, e1]
    exact ⟨_, _, a1 _, rfl⟩) (Acc.lit0 (On.refl h1))
  simp only [show ((0 : Nat) : Int) = 0 from rfl] at l2
  have hlt : ¬ (t.finished.length : Int) < t.finished.length := by omega
  rw [l2, loop_run]
  conv in (codeF _ _ r228L0 _) => unfold r228L0
  simp only [run0, run1, run2, run3, run4, noSlot, ownS, ownK, memN, RO.dst, lk, drop, forget, number, Nat.reduceBEq, cut?, splice?, builds, List.length_cons, List.length_nil, List.drop_succ_cons, List.drop_zero, List.take_succ_cons, List.take_zero, List.cons_append, List.nil_append, List.append_nil, List.drop_nil, List.take_nil, Nat.reduceAdd, Nat.reduceLeDiff, Nat.zero_add, Nat.add_zero, ↓reduceIte, Bool.not_true, Bool.not_false, decide_true, decide_false, eq_self, bne_self_eq_false, List.getElem?_cons_zero, List.getElem?_cons_succ, decide_eq_true_eq, Bool.false_eq_true, Bool.true_eq_false, reduceCtorEq, Nat.le_refl, u.len, hlt]
  rw [flatMap_one] at a2
  obtain ⟨o, fq, u2, f⟩ := a2.flat
  exact ⟨_, _, _, rfl, o1.trans o, ⟨_, _, _, _, rfl, rfl, u1.on (Fl.ok _) o, u2⟩, f1.app (u1.lt (Fl.ok _)) f o1.ext.1⟩
theorem Shard.none_R (h : Heap) : Shard.RI h [.int .u64 0, .int .u64 0, .int .i64 0, .int .i64 0, .nil, .nil] Shard.none_ [] := ⟨.nil, [], .nil, [], rfl, rfl, SlR.nil _ _ _, SlR.nil _ _ _⟩
def exportShard (s : Store) (lo : Int) : Shard × Bool := bif s.good && decide (0 ≤ findAt s.shards lo 1) then (Shard.at_ s.shards (findAt s.shards lo 1).toNat, true) else (Shard.none_, false)
variable {s : Store}
theorem Store.at_small (sm : s.Small) {i : Nat} (hi : i < s.shards.length) : (Shard.at_ s.shards i).Small := by
  rw [Shard.at_get hi]
  exact sm.2 _ (List.getElem_mem hi)
theorem Store.at_ok (ok : s.Ok) {i : Nat} (hi : i < s.shards.length) : (Shard.at_ s.shards i).Ok := by
  rw [Shard.at_get hi]
  exact ok.shards _ (List.getElem_mem hi)
theorem exportShard_small {lo : Int} (sm : s.Small) : (exportShard s lo).1.Small := by
  unfold exportShard
  cases h : (s.good && decide (0 ≤ findAt s.shards lo 1)) with
  | false => exact ⟨show (0 : Nat) ≤ 1048576 by omega, show (0 : Nat) ≤ 1048576 by omega⟩
  | true =>
    simp only [Bool.and_eq_true, decide_eq_true_eq] at h
    obtain ⟨i, e, hi, _⟩ := findI_at h.2
    have e' : findAt s.shards lo 1 = (i : Int) := e
    simp only [cond_true, e', Int.toNat_natCast]
    exact Store.at_small sm hi
theorem SlR.atR {ys : List Shard} (w : SlR 16 Shard.RI h x ys fp) {i : Nat} (hi : i < ys.length) : ∃ r f, (∀ j n, loadP h x.sid i j n = cut? r j n) ∧ Shard.RI h r (Shard.at_ ys i) f ∧ ∀ id, id ∈ f → id ∈ fp := by
  rw [Shard.at_get hi]
  exact w.one hi
set_option maxHeartbeats 1000000 in
theorem ExportShard_c (k : KI F) (hL : Has F tLibslicesIndexFuncimplShardimplShard) (hf : h.floor ≤ h.next) (v : Store.RI h cs s fp) (lo : Int) (ok : s.Ok) (sm : s.Small) :
    ∃ cs' h' fq, call F Z 190 [.agg cs, .c (.int .u64 lo)] h = some (.tup [.agg cs', .c (.bool (exportShard s lo).2)], h') ∧ On h h' ∧ Shard.RI h' cs' (exportShard s lo).1 fq ∧ Fre h fq := by
  obtain ⟨h1, e1, o1⟩ := shardAt_on (Z := Z) k.i13 hL v lo 1
  have v1 := Store.okI.on v o1
  obtain ⟨h2, e2, o2⟩ := isStore_run (Z := Z) k v1 ok
  have v2 := Store.okI.on v1 o2
  have hf2 := (o1.trans o2).le hf
  obtain ⟨x, p, rfl, rfl, w⟩ := v2
  rw [call_run F Z (k.i13.lk (g := 190) rfl) _ _ rfl]
  have hdef : exportShard s lo = bif s.good && decide (0 ≤ findAt s.shards lo 1) then (Shard.at_ s.shards (findAt s.shards lo 1).toNat, true) else (Shard.none_, false) := rfl
  cases gd : s.good with
  | false =>
    rw [gd] at e2
    have hd : exportShard s lo = (Shard.none_, false) := by rw [hdef, gd]; rfl
    rw [hd]
    simp only [run0, run1, run2, run3, run4, noSlot, ownS, ownK, memN, RO.dst, lk, drop, forget, number, Nat.reduceBEq, cut?, splice?, builds, List.length_cons, List.length_nil, List.drop_succ_cons, List.drop_zero, List.take_succ_cons, List.take_zero, List.cons_append, List.nil_append, List.append_nil, List.drop_nil, List.take_nil, Nat.reduceAdd, Nat.reduceLeDiff, Nat.zero_add, Nat.add_zero, ↓reduceIte, Bool.not_true, Bool.not_false, decide_true, decide_false, eq_self, bne_self_eq_false, List.getElem?_cons_zero, List.getElem?_cons_succ, decide_eq_true_eq, Bool.false_eq_true, Bool.true_eq_false, reduceCtorEq, Nat.le_refl, e1, e2]
    exact ⟨_, _, _, rfl, o1.trans o2, Shard.none_R _, Fre.nil h⟩
  | true =>
    rw [gd] at e2
    rcases w.found (fun t => (t.lo == lo) && (t.state == 1)) with e | ⟨i, e, hi, _, hx, _⟩
    · change findAt s.shards lo 1 = -1 at e
      have hd : exportShard s lo = (Shard.none_, false) := by rw [hdef, gd, e]; rfl
      rw [hd]
      rw [e] at e1
      simp only [run0, run1, run2, run3, run4, noSlot, ownS, ownK, memN, RO.dst, lk, drop, forget, number, Nat.reduceBEq, cut?, splice?, builds, List.length_cons, List.length_nil, List.drop_succ_cons, List.drop_zero, List.take_succ_cons, List.take_zero, List.cons_append, List.nil_append, List.append_nil, List.drop_nil, List.take_nil, Nat.reduceAdd, Nat.reduceLeDiff, Nat.zero_add, Nat.add_zero, ↓reduceIte, Bool.not_true, Bool.not_false, decide_true, decide_false, eq_self, bne_self_eq_false, List.getElem?_cons_zero, List.getElem?_cons_succ, decide_eq_true_eq, Bool.false_eq_true, Bool.true_eq_false, reduceCtorEq, Nat.le_refl, e1, e2, Int.reduceLT, Int.reduceNeg]
      exact ⟨_, _, _, rfl, o1.trans o2, Shard.none_R _, Fre.nil h⟩
    · change findAt s.shards lo 1 = (i : Int) at e
      have hd : exportShard s lo = (Shard.at_ s.shards i, true) := by
        rw [hdef, gd, e]
        have : decide (0 ≤ (i : Int)) = true := by simp
        rw [this]; rfl
      rw [hd]
      rw [e] at e1
      obtain ⟨r, f, hl, hR, _⟩ := w.atR hi
      obtain ⟨cs', h3, fq, e3, o3, u3, f3⟩ := copyShard_c (Z := Z) k.i10 k.i13 hf2 hR (Store.at_small sm hi)
      obtain ⟨r1, r2, r3⟩ := Shard.lenI hR
      obtain ⟨c1, c2, c3⟩ := Shard.lenI u3
      have g0 : ¬ (i : Int) < 0 := by omega
      simp only [run0, run1, run2, run3, run4, noSlot, ownS, ownK, memN, RO.dst, lk, drop, forget, number, Nat.reduceBEq, cut?, splice?, builds, List.length_cons, List.length_nil, List.drop_succ_cons, List.drop_zero, List.take_succ_cons, List.take_zero, List.cons_append, List.nil_append, List.append_nil, List.drop_nil, List.take_nil, Nat.reduceAdd, Nat.reduceLeDiff, Nat.zero_add, Nat.add_zero, ↓reduceIte, Bool.not_true, Bool.not_false, decide_true, decide_false, eq_self, bne_self_eq_false, List.getElem?_cons_zero, List.getElem?_cons_succ, decide_eq_true_eq, Bool.false_eq_true, Bool.true_eq_false, reduceCtorEq, Nat.le_refl, e1, e2, g0, hx, hl, r1, r2, r3, e3, c1, c2, c3]
      exact ⟨_, _, _, rfl, (o1.trans o2).trans o3, u3, ⟨fun id hid => Nat.le_trans (o1.trans o2).ext.1 (f3.lo id hid), f3.nd⟩⟩
set_option maxHeartbeats 1000000 in
theorem sExportShard_c (k : KS F) (hf : h.floor ≤ h.next) (v : Store.RI h cs s fp) (lo : Int) (ok : s.Ok) (sm : s.Small) :
    ∃ cs' h' fq, call F Z 189 [.agg cs, .c (.int .u64 lo)] h = some (.tup [.agg cs', .c (.bool (exportShard s lo).2)], h') ∧ On h h' ∧ Shard.RI h' cs' (exportShard s lo).1 fq ∧ Fre h fq := by
  have e1 := l13At_run (Z := Z) k.s13 v lo 1
  have e2 := sStoreOk_run (Z := Z) k v ok
  obtain ⟨x, p, rfl, rfl, w⟩ := v
  rw [call_run F Z (k.s13.lk (g := 189) rfl) _ _ rfl]
  have hdef : exportShard s lo = bif s.good && decide (0 ≤ findAt s.shards lo 1) then (Shard.at_ s.shards (findAt s.shards lo 1).toNat, true) else (Shard.none_, false) := rfl
  cases gd : s.good with
  | false =>
    rw [gd] at e2
    have hd : exportShard s lo = (Shard.none_, false) := by rw [hdef, gd]; rfl
    rw [hd]
    simp only [run0, run1, run2, run3, run4, noSlot, ownS, ownK, memN, RO.dst, lk, drop, forget, number, Nat.reduceBEq, cut?, splice?, builds, List.length_cons, List.length_nil, List.drop_succ_cons, List.drop_zero, List.take_succ_cons, List.take_zero, List.cons_append, List.nil_append, List.append_nil, List.drop_nil, List.take_nil, Nat.reduceAdd, Nat.reduceLeDiff, Nat.zero_add, Nat.add_zero, ↓reduceIte, Bool.not_true, Bool.not_false, decide_true, decide_false, eq_self, bne_self_eq_false, List.getElem?_cons_zero, List.getElem?_cons_succ, decide_eq_true_eq, Bool.false_eq_true, Bool.true_eq_false, reduceCtorEq, Nat.le_refl, e1, e2]
    exact ⟨_, _, _, rfl, On.refl h, Shard.none_R _, Fre.nil h⟩
  | true =>
    rw [gd] at e2
    rcases w.found (fun t => (t.lo == lo) && (t.state == 1)) with e | ⟨i, e, hi, _, hx, _⟩
    · change findAt s.shards lo 1 = -1 at e
      have hd : exportShard s lo = (Shard.none_, false) := by rw [hdef, gd, e]; rfl
      rw [hd]
      rw [e] at e1
      simp only [run0, run1, run2, run3, run4, noSlot, ownS, ownK, memN, RO.dst, lk, drop, forget, number, Nat.reduceBEq, cut?, splice?, builds, List.length_cons, List.length_nil, List.drop_succ_cons, List.drop_zero, List.take_succ_cons, List.take_zero, List.cons_append, List.nil_append, List.append_nil, List.drop_nil, List.take_nil, Nat.reduceAdd, Nat.reduceLeDiff, Nat.zero_add, Nat.add_zero, ↓reduceIte, Bool.not_true, Bool.not_false, decide_true, decide_false, eq_self, bne_self_eq_false, List.getElem?_cons_zero, List.getElem?_cons_succ, decide_eq_true_eq, Bool.false_eq_true, Bool.true_eq_false, reduceCtorEq, Nat.le_refl, e1, e2, Int.reduceLT, Int.reduceNeg]
      exact ⟨_, _, _, rfl, On.refl h, Shard.none_R _, Fre.nil h⟩
    · change findAt s.shards lo 1 = (i : Int) at e
      have hd : exportShard s lo = (Shard.at_ s.shards i, true) := by
        rw [hdef, gd, e]
        have : decide (0 ≤ (i : Int)) = true := by simp
        rw [this]; rfl
      rw [hd]
      rw [e] at e1
      obtain ⟨r, f, hl, hR, _⟩ := w.atR hi
      obtain ⟨cs', h3, fq, e3, o3, u3, f3⟩ := l13CopyShard_c (Z := Z) k.s10 k.s13 hf hR (Store.at_small sm hi)
      obtain ⟨r1, r2, r3⟩ := Shard.lenI hR
      obtain ⟨c1, c2, c3⟩ := Shard.lenI u3
      have g0 : ¬ (i : Int) < 0 := by omega
      simp only [run0, run1, run2, run3, run4, noSlot, ownS, ownK, memN, RO.dst, lk, drop, forget, number, Nat.reduceBEq, cut?, splice?, builds, List.length_cons, List.length_nil, List.drop_succ_cons, List.drop_zero, List.take_succ_cons, List.take_zero, List.cons_append, List.nil_append, List.append_nil, List.drop_nil, List.take_nil, Nat.reduceAdd, Nat.reduceLeDiff, Nat.zero_add, Nat.add_zero, ↓reduceIte, Bool.not_true, Bool.not_false, decide_true, decide_false, eq_self, bne_self_eq_false, List.getElem?_cons_zero, List.getElem?_cons_succ, decide_eq_true_eq, Bool.false_eq_true, Bool.true_eq_false, reduceCtorEq, Nat.le_refl, e1, e2, g0, hx, hl, r1, r2, r3, e3, c1, c2, c3]
      exact ⟨_, _, _, rfl, o3, u3, f3⟩
end
end Go.Proofs.Ytlfepembgjjejaa.A
/- Copies of stores. -/
namespace Go.Proofs.Ytlfepembgjjejaa.A
open Go
set_option linter.unusedSimpArgs false
set_option linter.unusedVariables false
section
variable {F : Nat → Option RF} {Z : CallF} {h : Heap} {x : Cell} {xs : List Shard} {fp fq : List Nat} {cs : List Cell} {s : Store} {t : Shard}
/-- A copy with the floor raised, and the heap behind it. -/
theorem copyShard_q (hI10 : Has F tI10) (hI13 : Has F tI13) (v : Shard.RI h cs t fp) (sm : t.Small) :
    ∃ cs' h' g fq, call F Z 229 [.agg cs] ⟨h.next, h.next, h.get⟩ = some (.agg cs', h') ∧ Heap.mk h'.next h.floor h'.get = g ∧ On h g ∧ Shard.RI g cs' t fq ∧ Fre h fq ∧ cs'.length = 6 := by
  obtain ⟨cs', h', fq, e, o, u, f⟩ := copyShard_c (Z := Z) (h := ⟨h.next, h.next, h.get⟩) hI10 hI13 (Nat.le_refl _) (Shard.okI.up v h.next) sm
  exact ⟨cs', h', _, fq, e, rfl, ⟨⟨o.ext.1, o.ext.2⟩, rfl⟩, Shard.okI.up u h.floor, ⟨f.lo, f.nd⟩, (Shard.lenI u).1⟩
theorem l13CopyShard_q (hS10 : Has F tS10) (hS13 : Has F tS13) (v : Shard.RI h cs t fp) (sm : t.Small) :
    ∃ cs' h' g fq, call F Z 228 [.agg cs] ⟨h.next, h.next, h.get⟩ = some (.agg cs', h') ∧ Heap.mk h'.next h.floor h'.get = g ∧ On h g ∧ Shard.RI g cs' t fq ∧ Fre h fq ∧ cs'.length = 6 := by
  obtain ⟨cs', h', fq, e, o, u, f⟩ := l13CopyShard_c (Z := Z) (h := ⟨h.next, h.next, h.get⟩) hS10 hS13 (Nat.le_refl _) (Shard.okI.up v h.next) sm
  exact ⟨cs', h', _, fq, e, rfl, ⟨⟨o.ext.1, o.ext.2⟩, rfl⟩, Shard.okI.up u h.floor, ⟨f.lo, f.nd⟩, (Shard.lenI u).1⟩
/-- A new one behind others. -/
theorem AccM.next {g k : Heap} {y : Cell} {ys : List Shard} (a : AccM Shard.RI 16 h g y ys fp) (hf : h.floor ≤ h.next) (hl : ys.length ≤ 1048576) (o : On g k) {cs' : List Cell} (u : Shard.RI k cs' t fq) (f : Fre g fq) :
    ∃ y' g' fp', appF (k.push [cs']) 16 80 y (.sl 16 k.next 0 1) = some (y', g') ∧ AccM Shard.RI 16 h g' y' (ys ++ [t]) fp' := by
  have hlt : ∀ id, id ∈ fp → id < g.next := a.sh.lt Shard.okI
  obtain ⟨y', g', fp', e, a', _⟩ := a.one Shard.okI hf (bytes := 80) (by omega) (by omega) o u ⟨fun id hid => Nat.le_trans a.on.ext.1 (f.lo id hid), f.nd⟩ (fun id h1 h2 => by
    have := hlt id h2
    have := f.lo id h1
    omega)
  exact ⟨y', g', fp', e, a'⟩
set_option maxHeartbeats 1000000 in
theorem copyStore_c (k : KI F) (hf : h.floor ≤ h.next) (v : Store.RI h cs s fp) (sm : s.Small) :
    ∃ cs' h' fq, call F Z 320 [.agg cs] h = some (.agg cs', h') ∧ On h h' ∧ Store.RI h' cs' s fq ∧ Fre h fq := by
  obtain ⟨x, p, rfl, rfl, w⟩ := v
  have hle := w.le2
  have hwl := w.len
  rw [call_run F Z (k.i13.lk (g := 320) rfl) _ _ rfl]
  simp only [run0, run1, run2, run3, run4, noSlot, ownS, ownK, memN, RO.dst, lk, drop, forget, number, Nat.reduceBEq, cut?, splice?, builds, List.length_cons, List.length_nil, List.drop_succ_cons, List.drop_zero, List.take_succ_cons, List.take_zero, List.cons_append, List.nil_append, List.append_nil, List.drop_nil, List.take_nil, Nat.reduceAdd, Nat.reduceLeDiff, Nat.zero_add, Nat.add_zero, ↓reduceIte, Bool.not_true, Bool.not_false, decide_true, decide_false, eq_self, bne_self_eq_false, List.getElem?_cons_zero, List.getElem?_cons_succ, decide_eq_true_eq, Bool.false_eq_true, Bool.true_eq_false, reduceCtorEq, Nat.le_refl, hwl]
  obtain ⟨s', ⟨y, g, fq, hs, a⟩, l1⟩ := loop_goes (F := F) (Z := Z) (live := [2, 3, 12, 13, 14]) (b := r320L0) s.shards.length (fun i st => ∃ y g fq, st = ⟨[(12, .c x), (13, .c (.int .i64 (s.shards.length : Nat))), (14, .c (.int .i64 (i : Nat)))], [(2, 2, 0), (3, 3, 0)], [(2, [.int .i64 0, .int .i64 0, .nil]), (3, [.int .i64 s.group, .int .i64 s.seen, y])], g⟩ ∧ AccM Shard.RI 16 h g y (s.shards.take i) fq) (fun i st hi ⟨y, g, fq, hs, a⟩ => by
    subst hs
    have hlt : (i : Int) < s.shards.length := by omega
    have hws := wrapS i (by omega)
    have hxi := w.idx hi
    obtain ⟨r, f, hld, hR, _⟩ := (w.on Shard.okI a.on).one hi
    obtain ⟨r1, r2, r3⟩ := Shard.lenI hR
    obtain ⟨cs', h', g1, fr, e1, hg1, o1, u1, f1, c1⟩ := copyShard_q (Z := Z) k.i10 k.i13 hR (sm.2 _ (List.getElem_mem hi))
    obtain ⟨y', g', fp', e2, a2⟩ := a.next hf (by rw [List.length_take]; have := sm.1; omega) o1 u1 f1
    have ht : s.shards.take (i + 1) = s.shards.take i ++ [s.shards[i]] := by rw [List.take_add_one, List.getElem?_eq_getElem hi]; rfl
    rw [← ht] at a2
    rw [loop_run]
    conv in (codeF _ _ r320L0 _) => unfold r320L0
    simp only [run0, run1, run2, run3, run4, noSlot, ownS, ownK, memN, RO.dst, lk, drop, forget, number, Nat.reduceBEq, cut?, splice?, builds, List.length_cons, List.length_nil, List.drop_succ_cons, List.drop_zero, List.take_succ_cons, List.take_zero, List.cons_append, List.nil_append, List.append_nil, List.drop_nil, List.take_nil, Nat.reduceAdd, Nat.reduceLeDiff, Nat.zero_add, Nat.add_zero, ↓reduceIte, Bool.not_true, Bool.not_false, decide_true, decide_false, eq_self, bne_self_eq_false, List.getElem?_cons_zero, List.getElem?_cons_succ, decide_eq_true_eq, Bool.false_eq_true, Bool.true_eq_false, reduceCtorEq, Nat.le_refl, hlt, hxi, hld, r1, r2, r3, e1, hg1, List.replicate_succ, List.replicate_zero, fills, and_self, Nat.zero_lt_one, c1, List.set_cons_zero, e2, hws]
    exact ⟨_, ⟨_, _, _, rfl, a2⟩, rfl⟩) (s := ⟨[(12, .c x), (13, .c (.int .i64 (s.shards.length : Nat))), (14, .c (.int .i64 (0 : Nat)))], [(2, 2, 0), (3, 3, 0)], [(2, [.int .i64 0, .int .i64 0, .nil]), (3, [.int .i64 s.group, .int .i64 s.seen, .nil])], h⟩) ⟨_, _, _, rfl, by simpa using AccM.nil Shard.RI 16 h⟩
  subst hs
  simp only [show ((0 : Nat) : Int) = 0 from rfl] at l1
  rw [List.take_length] at a
  have hlt : ¬ (s.shards.length : Int) < s.shards.length := by omega
  rw [l1, loop_run]
  conv in (codeF _ _ r320L0 _) => unfold r320L0
  simp only [run0, run1, run2, run3, run4, noSlot, ownS, ownK, memN, RO.dst, lk, drop, forget, number, Nat.reduceBEq, cut?, splice?, builds, List.length_cons, List.length_nil, List.drop_succ_cons, List.drop_zero, List.take_succ_cons, List.take_zero, List.cons_append, List.nil_append, List.append_nil, List.drop_nil, List.take_nil, Nat.reduceAdd, Nat.reduceLeDiff, Nat.zero_add, Nat.add_zero, ↓reduceIte, Bool.not_true, Bool.not_false, decide_true, decide_false, eq_self, bne_self_eq_false, List.getElem?_cons_zero, List.getElem?_cons_succ, decide_eq_true_eq, Bool.false_eq_true, Bool.true_eq_false, reduceCtorEq, Nat.le_refl, hlt]
  exact ⟨_, _, _, rfl, a.on, ⟨_, _, rfl, rfl, a.sh⟩, a.fr⟩
set_option maxHeartbeats 1000000 in
theorem l13Copy_c (k : KS F) (hf : h.floor ≤ h.next) (v : Store.RI h cs s fp) (sm : s.Small) :
    ∃ cs' h' fq, call F Z 317 [.agg cs] h = some (.agg cs', h') ∧ On h h' ∧ Store.RI h' cs' s fq ∧ Fre h fq := by
  obtain ⟨x, p, rfl, rfl, w⟩ := v
  have hle := w.le2
  have hwl := w.len
  rw [call_run F Z (k.s13.lk (g := 317) rfl) _ _ rfl]
  simp only [run0, run1, run2, run3, run4, noSlot, ownS, ownK, memN, RO.dst, lk, drop, forget, number, Nat.reduceBEq, cut?, splice?, builds, List.length_cons, List.length_nil, List.drop_succ_cons, List.drop_zero, List.take_succ_cons, List.take_zero, List.cons_append, List.nil_append, List.append_nil, List.drop_nil, List.take_nil, Nat.reduceAdd, Nat.reduceLeDiff, Nat.zero_add, Nat.add_zero, ↓reduceIte, Bool.not_true, Bool.not_false, decide_true, decide_false, eq_self, bne_self_eq_false, List.getElem?_cons_zero, List.getElem?_cons_succ, decide_eq_true_eq, Bool.false_eq_true, Bool.true_eq_false, reduceCtorEq, Nat.le_refl]
  obtain ⟨s', ⟨y, g, fq, hs, a⟩, l1⟩ := loop_goes (F := F) (Z := Z) (live := [1, 2, 3, 4]) (b := r317L0) s.shards.length (fun i st => ∃ y g fq, st = ⟨[(4, .c (.int .i64 (i : Nat)))], [(1, 1, 0), (2, 2, 0), (3, 3, 0)], [(1, [.int .i64 s.group, .int .i64 s.seen, x]), (2, [.int .i64 0, .int .i64 0, .nil]), (3, [.int .i64 s.group, .int .i64 s.seen, y])], g⟩ ∧ AccM Shard.RI 16 h g y (s.shards.take i) fq) (fun i st hi ⟨y, g, fq, hs, a⟩ => by
    subst hs
    have hlt : (i : Int) < s.shards.length := by omega
    have hws := wrapS i (by omega)
    have hxi := w.idx hi
    obtain ⟨r, f, hld, hR, _⟩ := (w.on Shard.okI a.on).one hi
    obtain ⟨r1, r2, r3⟩ := Shard.lenI hR
    obtain ⟨cs', h', g1, fr, e1, hg1, o1, u1, f1, c1⟩ := l13CopyShard_q (Z := Z) k.s10 k.s13 hR (sm.2 _ (List.getElem_mem hi))
    obtain ⟨y', g', fp', e2, a2⟩ := a.next hf (by rw [List.length_take]; have := sm.1; omega) o1 u1 f1
    have ht : s.shards.take (i + 1) = s.shards.take i ++ [s.shards[i]] := by rw [List.take_add_one, List.getElem?_eq_getElem hi]; rfl
    rw [← ht] at a2
    rw [loop_run]
    conv in (codeF _ _ r317L0 _) => unfold r317L0
    simp only [run0, run1, run2, run3, run4, noSlot, ownS, ownK, memN, RO.dst, lk, drop, forget, number, Nat.reduceBEq, cut?, splice?, builds, List.length_cons, List.length_nil, List.drop_succ_cons, List.drop_zero, List.take_succ_cons, List.take_zero, List.cons_append, List.nil_append, List.append_nil, List.drop_nil, List.take_nil, Nat.reduceAdd, Nat.reduceLeDiff, Nat.zero_add, Nat.add_zero, ↓reduceIte, Bool.not_true, Bool.not_false, decide_true, decide_false, eq_self, bne_self_eq_false, List.getElem?_cons_zero, List.getElem?_cons_succ, decide_eq_true_eq, Bool.false_eq_true, Bool.true_eq_false, reduceCtorEq, Nat.le_refl, hwl, hlt, hxi, hld, r1, r2, r3, e1, hg1, List.replicate_succ, List.replicate_zero, fills, and_self, Nat.zero_lt_one, c1, List.set_cons_zero, e2, hws]
    exact ⟨_, ⟨_, _, _, rfl, a2⟩, rfl⟩) (s := ⟨[(4, .c (.int .i64 (0 : Nat)))], [(1, 1, 0), (2, 2, 0), (3, 3, 0)], [(1, [.int .i64 s.group, .int .i64 s.seen, x]), (2, [.int .i64 0, .int .i64 0, .nil]), (3, [.int .i64 s.group, .int .i64 s.seen, .nil])], h⟩) ⟨_, _, _, rfl, by simpa using AccM.nil Shard.RI 16 h⟩
  subst hs
  simp only [show ((0 : Nat) : Int) = 0 from rfl] at l1
  rw [List.take_length] at a
  have hlt : ¬ (s.shards.length : Int) < s.shards.length := by omega
  rw [l1, loop_run]
  conv in (codeF _ _ r317L0 _) => unfold r317L0
  simp only [run0, run1, run2, run3, run4, noSlot, ownS, ownK, memN, RO.dst, lk, drop, forget, number, Nat.reduceBEq, cut?, splice?, builds, List.length_cons, List.length_nil, List.drop_succ_cons, List.drop_zero, List.take_succ_cons, List.take_zero, List.cons_append, List.nil_append, List.append_nil, List.drop_nil, List.take_nil, Nat.reduceAdd, Nat.reduceLeDiff, Nat.zero_add, Nat.add_zero, ↓reduceIte, Bool.not_true, Bool.not_false, decide_true, decide_false, eq_self, bne_self_eq_false, List.getElem?_cons_zero, List.getElem?_cons_succ, decide_eq_true_eq, Bool.false_eq_true, Bool.true_eq_false, reduceCtorEq, Nat.le_refl, hwl, hlt]
  exact ⟨_, _, _, rfl, a.on, ⟨_, _, rfl, rfl, a.sh⟩, a.fr⟩
end
end Go.Proofs.Ytlfepembgjjejaa.A
/- A store that has seen an epoch. -/
namespace Go.Proofs.Ytlfepembgjjejaa.A
open Go
set_option linter.unusedSimpArgs false
set_option linter.unusedVariables false
def Shard.renew (e : Int) (t : Shard) : Shard := bif t.state == 0 then { t with epoch := e } else t
def Store.renew (s : Store) (e : Int) : Store := ⟨s.group, e, s.shards.map (Shard.renew e)⟩
/-- May a store see an epoch next? -/
def Store.next (s : Store) (e : Int) : Bool := s.good && (decide (s.seen < e) && decide (e ≤ 1000000))
section
variable {F : Nat → Option RF} {Z : CallF} {h : Heap} {x : Cell} {xs : List Shard} {fp fq : List Nat} {cs : List Cell} {s : Store} {t : Shard}
set_option maxHeartbeats 1000000 in
theorem renewed_turn (e gr sn : Int) {n : Nat} (hn : xs.length = n) (w : SlR 16 Shard.RI h x xs fp) (nd : fp.Nodup) (hfl : ∀ id, id ∈ fp → h.floor ≤ id) {i : Nat} (hi : i < xs.length) :
    ∃ g, loop F Z [1, 2, 4, 10, 11] r321L0 ⟨[(1, .c (.int .i64 e)), (10, .c (.int .i64 (n : Nat))), (11, .c (.int .i64 (i : Nat)))], [(2, 2, 0), (4, 4, 0)], [(2, [.int .i64 gr, .int .i64 sn, x]), (4, [.int .i64 0, .int .i64 0, .nil])], h⟩
      = loop F Z [1, 2, 4, 10, 11] r321L0 ⟨[(1, .c (.int .i64 e)), (10, .c (.int .i64 (n : Nat))), (11, .c (.int .i64 ((i + 1 : Nat) : Int)))], [(2, 2, 0), (4, 4, 0)], [(2, [.int .i64 gr, .int .i64 sn, x]), (4, [.int .i64 0, .int .i64 0, .nil])], g⟩ ∧
      Mk h g fp ∧ SlR 16 Shard.RI g x (xs.set i (xs[i].renew e)) fp := by
  have hle := w.le2
  have hlt : (i : Int) < (n : Int) := by omega
  have hws := wrapS i (by omega)
  have hxi := w.idx hi
  obtain ⟨r, f, rows, hR, hs, hld, hself, hst, hl2, fin⟩ := w.putRow Shard.okI nd hfl hi
  have hset := set_same xs hi
  obtain ⟨x1, p1, x2, p2, rfl, rfl, w1, w2⟩ := hR
  have hd : xs[i].renew e = bif xs[i].state == 0 then { xs[i] with epoch := e } else xs[i] := rfl
  rw [loop_run]
  conv in (codeF _ _ r321L0 _) => unfold r321L0
  by_cases c : xs[i].state = 0
  · have c' : (xs[i].state == 0) = true := by simp [c]
    obtain ⟨f1, f2⟩ := fin [.int .u64 xs[i].lo, .int .u64 xs[i].hi, .int .i64 xs[i].state, .int .i64 e, x1, x2] { xs[i] with epoch := e } ⟨x1, p1, x2, p2, rfl, rfl, w1, w2⟩
    rw [hd, c']
    clear hd fin w w1 w2 hset
    generalize xs[i] = a at *
    have hst' := hst [.int .u64 a.lo, .int .u64 a.hi, .int .i64 a.state, .int .i64 a.epoch, x1, x2]
    rw [hself] at hst'
    simp only [run0, run1, run2, run3, run4, noSlot, ownS, ownK, memN, RO.dst, lk, drop, forget, number, Nat.reduceBEq, cut?, splice?, builds, List.length_cons, List.length_nil, List.drop_succ_cons, List.drop_zero, List.take_succ_cons, List.take_zero, List.cons_append, List.nil_append, List.append_nil, List.drop_nil, List.take_nil, Nat.reduceAdd, Nat.reduceLeDiff, Nat.zero_add, Nat.add_zero, ↓reduceIte, Bool.not_true, Bool.not_false, decide_true, decide_false, eq_self, bne_self_eq_false, List.getElem?_cons_zero, List.getElem?_cons_succ, decide_eq_true_eq, Bool.false_eq_true, Bool.true_eq_false, reduceCtorEq, Nat.le_refl, hlt, hxi, hld, c', hst', putM_s, hws]
    exact ⟨_, rfl, f2, f1⟩
  · have c' : (xs[i].state == 0) = false := by simp [c]
    rw [hd, c']
    simp only [cond_false, hset]
    clear hd fin w1 w2 hset
    generalize xs[i] = a at *
    simp only [run0, run1, run2, run3, run4, noSlot, ownS, ownK, memN, RO.dst, lk, drop, forget, number, Nat.reduceBEq, cut?, splice?, builds, List.length_cons, List.length_nil, List.drop_succ_cons, List.drop_zero, List.take_succ_cons, List.take_zero, List.cons_append, List.nil_append, List.append_nil, List.drop_nil, List.take_nil, Nat.reduceAdd, Nat.reduceLeDiff, Nat.zero_add, Nat.add_zero, ↓reduceIte, Bool.not_true, Bool.not_false, decide_true, decide_false, eq_self, bne_self_eq_false, List.getElem?_cons_zero, List.getElem?_cons_succ, decide_eq_true_eq, Bool.false_eq_true, Bool.true_eq_false, reduceCtorEq, Nat.le_refl, hlt, hxi, hld, c', hws]
    exact ⟨_, rfl, Mk.refl _ _, w⟩
theorem renewed_c (k : KI F) (v : Store.RI h cs s fp) (nd : fp.Nodup) (hfl : ∀ id, id ∈ fp → h.floor ≤ id) (e : Int) :
    ∃ cs' h', call F Z 321 [.agg cs, .c (.int .i64 e)] h = some (.agg cs', h') ∧ Mk h h' fp ∧ Store.RI h' cs' (s.renew e) fp := by
  obtain ⟨x, p, rfl, rfl, w⟩ := v
  have hwl := w.len
  rw [call_run F Z (k.i13.lk (g := 321) rfl) _ _ rfl]
  simp only [run0, run1, run2, run3, run4, noSlot, ownS, ownK, memN, RO.dst, lk, drop, forget, number, Nat.reduceBEq, cut?, splice?, builds, List.length_cons, List.length_nil, List.drop_succ_cons, List.drop_zero, List.take_succ_cons, List.take_zero, List.cons_append, List.nil_append, List.append_nil, List.drop_nil, List.take_nil, Nat.reduceAdd, Nat.reduceLeDiff, Nat.zero_add, Nat.add_zero, ↓reduceIte, Bool.not_true, Bool.not_false, decide_true, decide_false, eq_self, bne_self_eq_false, List.getElem?_cons_zero, List.getElem?_cons_succ, decide_eq_true_eq, Bool.false_eq_true, Bool.true_eq_false, reduceCtorEq, Nat.le_refl, hwl]
  obtain ⟨s', ⟨g, hs, m, u⟩, l1⟩ := loop_goes (F := F) (Z := Z) (live := [1, 2, 4, 10, 11]) (b := r321L0) s.shards.length (fun i st => ∃ g, st = ⟨[(1, .c (.int .i64 e)), (10, .c (.int .i64 (s.shards.length : Nat))), (11, .c (.int .i64 (i : Nat)))], [(2, 2, 0), (4, 4, 0)], [(2, [.int .i64 s.group, .int .i64 e, x]), (4, [.int .i64 0, .int .i64 0, .nil])], g⟩ ∧ Mk h g fp ∧ SlR 16 Shard.RI g x ((s.shards.take i).map (Shard.renew e) ++ s.shards.drop i) fp) (fun i st hi ⟨g, hs, m, u⟩ => by
    subst hs
    have hl : ((s.shards.take i).map (Shard.renew e) ++ s.shards.drop i).length = s.shards.length := by simp; omega
    have hi' : i < ((s.shards.take i).map (Shard.renew e) ++ s.shards.drop i).length := by omega
    obtain ⟨g', e1, m1, u1⟩ := renewed_turn (F := F) (Z := Z) e s.group e hl u nd (fun id hid => by rw [m.fl]; exact hfl id hid) hi'
    rw [mix_at _ _ hi hi', mix_set _ _ hi] at u1
    exact ⟨_, ⟨g', rfl, m.then m1, u1⟩, e1⟩) (s := ⟨[(1, .c (.int .i64 e)), (10, .c (.int .i64 (s.shards.length : Nat))), (11, .c (.int .i64 (0 : Nat)))], [(2, 2, 0), (4, 4, 0)], [(2, [.int .i64 s.group, .int .i64 e, x]), (4, [.int .i64 0, .int .i64 0, .nil])], h⟩) ⟨h, rfl, Mk.refl _ _, by simpa using w⟩
  subst hs
  simp only [show ((0 : Nat) : Int) = 0 from rfl] at l1
  rw [List.take_length, List.drop_length, List.append_nil] at u
  have hlt : ¬ (s.shards.length : Int) < s.shards.length := by omega
  rw [l1, loop_run]
  conv in (codeF _ _ r321L0 _) => unfold r321L0
  simp only [run0, run1, run2, run3, run4, noSlot, ownS, ownK, memN, RO.dst, lk, drop, forget, number, Nat.reduceBEq, cut?, splice?, builds, List.length_cons, List.length_nil, List.drop_succ_cons, List.drop_zero, List.take_succ_cons, List.take_zero, List.cons_append, List.nil_append, List.append_nil, List.drop_nil, List.take_nil, Nat.reduceAdd, Nat.reduceLeDiff, Nat.zero_add, Nat.add_zero, ↓reduceIte, Bool.not_true, Bool.not_false, decide_true, decide_false, eq_self, bne_self_eq_false, List.getElem?_cons_zero, List.getElem?_cons_succ, decide_eq_true_eq, Bool.false_eq_true, Bool.true_eq_false, reduceCtorEq, Nat.le_refl, hlt]
  exact ⟨_, _, rfl, m, ⟨_, _, rfl, rfl, u⟩⟩
set_option maxHeartbeats 1000000 in
theorem l13Renew_turn (e gr sn : Int) (w : SlR 16 Shard.RI h x xs fp) (nd : fp.Nodup) (hfl : ∀ id, id ∈ fp → h.floor ≤ id) {i : Nat} (hi : i < xs.length) :
    ∃ g, loop F Z [1, 4, 5, 6] r318L0 ⟨[(1, .c (.int .i64 e)), (6, .c (.int .i64 (i : Nat)))], [(4, 4, 0), (5, 5, 0)], [(4, [.int .i64 0, .int .i64 0, .nil]), (5, [.int .i64 gr, .int .i64 sn, x])], h⟩
      = loop F Z [1, 4, 5, 6] r318L0 ⟨[(1, .c (.int .i64 e)), (6, .c (.int .i64 ((i + 1 : Nat) : Int)))], [(4, 4, 0), (5, 5, 0)], [(4, [.int .i64 0, .int .i64 0, .nil]), (5, [.int .i64 gr, .int .i64 sn, x])], g⟩ ∧
      Mk h g fp ∧ SlR 16 Shard.RI g x (xs.set i (xs[i].renew e)) fp := by
  have hle := w.le2
  have hwl := w.len
  have hlt : (i : Int) < (xs.length : Int) := by omega
  have hws := wrapS i (by omega)
  have hxi := w.idx hi
  obtain ⟨r, f, rows, hR, hs, hld, hself, hst, hl2, fin⟩ := w.putRow Shard.okI nd hfl hi
  have hset := set_same xs hi
  obtain ⟨x1, p1, x2, p2, rfl, rfl, w1, w2⟩ := hR
  have hd : xs[i].renew e = bif xs[i].state == 0 then { xs[i] with epoch := e } else xs[i] := rfl
  rw [loop_run]
  conv in (codeF _ _ r318L0 _) => unfold r318L0
  by_cases c : xs[i].state = 0
  · have c' : (xs[i].state == 0) = true := by simp [c]
    obtain ⟨f1, f2⟩ := fin [.int .u64 xs[i].lo, .int .u64 xs[i].hi, .int .i64 xs[i].state, .int .i64 e, x1, x2] { xs[i] with epoch := e } ⟨x1, p1, x2, p2, rfl, rfl, w1, w2⟩
    rw [hd, c']
    clear hd fin w w1 w2 hset
    generalize xs[i] = a at *
    have hst' := hst [.int .u64 a.lo, .int .u64 a.hi, .int .i64 a.state, .int .i64 a.epoch, x1, x2]
    rw [hself] at hst'
    simp only [run0, run1, run2, run3, run4, noSlot, ownS, ownK, memN, RO.dst, lk, drop, forget, number, Nat.reduceBEq, cut?, splice?, builds, List.length_cons, List.length_nil, List.drop_succ_cons, List.drop_zero, List.take_succ_cons, List.take_zero, List.cons_append, List.nil_append, List.append_nil, List.drop_nil, List.take_nil, Nat.reduceAdd, Nat.reduceLeDiff, Nat.zero_add, Nat.add_zero, ↓reduceIte, Bool.not_true, Bool.not_false, decide_true, decide_false, eq_self, bne_self_eq_false, List.getElem?_cons_zero, List.getElem?_cons_succ, decide_eq_true_eq, Bool.false_eq_true, Bool.true_eq_false, reduceCtorEq, Nat.le_refl, hwl, hlt, hxi, hld, c', hst', putM_s, hws]
    exact ⟨_, rfl, f2, f1⟩
  · have c' : (xs[i].state == 0) = false := by simp [c]
    rw [hd, c']
    simp only [cond_false, hset]
    clear hd fin w1 w2 hset
    generalize xs[i] = a at *
    simp only [run0, run1, run2, run3, run4, noSlot, ownS, ownK, memN, RO.dst, lk, drop, forget, number, Nat.reduceBEq, cut?, splice?, builds, List.length_cons, List.length_nil, List.drop_succ_cons, List.drop_zero, List.take_succ_cons, List.take_zero, List.cons_append, List.nil_append, List.append_nil, List.drop_nil, List.take_nil, Nat.reduceAdd, Nat.reduceLeDiff, Nat.zero_add, Nat.add_zero, ↓reduceIte, Bool.not_true, Bool.not_false, decide_true, decide_false, eq_self, bne_self_eq_false, List.getElem?_cons_zero, List.getElem?_cons_succ, decide_eq_true_eq, Bool.false_eq_true, Bool.true_eq_false, reduceCtorEq, Nat.le_refl, hwl, hlt, hxi, hld, c', hws]
    exact ⟨_, rfl, Mk.refl _ _, w⟩
theorem l13Renew_c (k : KS F) (hf : h.floor ≤ h.next) (v : Store.RI h cs s fp) (sm : s.Small) (e : Int) :
    ∃ cs' h' fq, call F Z 318 [.agg cs, .c (.int .i64 e)] h = some (.agg cs', h') ∧ On h h' ∧ Store.RI h' cs' (s.renew e) fq ∧ Fre h fq := by
  obtain ⟨cs1, h1, fq, e1, o1, v1, f1⟩ := l13Copy_c (Z := Z) k hf v sm
  obtain ⟨l1, l2, l3⟩ := Store.lenI v
  obtain ⟨x, p, rfl, rfl, w⟩ := v1
  have hwl := w.len
  rw [call_run F Z (k.s13.lk (g := 318) rfl) _ _ rfl]
  simp only [run0, run1, run2, run3, run4, noSlot, ownS, ownK, memN, RO.dst, lk, drop, forget, number, Nat.reduceBEq, cut?, splice?, builds, List.length_cons, List.length_nil, List.drop_succ_cons, List.drop_zero, List.take_succ_cons, List.take_zero, List.cons_append, List.nil_append, List.append_nil, List.drop_nil, List.take_nil, Nat.reduceAdd, Nat.reduceLeDiff, Nat.zero_add, Nat.add_zero, ↓reduceIte, Bool.not_true, Bool.not_false, decide_true, decide_false, eq_self, bne_self_eq_false, List.getElem?_cons_zero, List.getElem?_cons_succ, decide_eq_true_eq, Bool.false_eq_true, Bool.true_eq_false, reduceCtorEq, Nat.le_refl, l1, l2, l3, e1]
  obtain ⟨s', ⟨g, hs, m, u⟩, lp⟩ := loop_goes (F := F) (Z := Z) (live := [1, 4, 5, 6]) (b := r318L0) s.shards.length (fun i st => ∃ g, st = ⟨[(1, .c (.int .i64 e)), (6, .c (.int .i64 (i : Nat)))], [(4, 4, 0), (5, 5, 0)], [(4, [.int .i64 0, .int .i64 0, .nil]), (5, [.int .i64 s.group, .int .i64 e, x])], g⟩ ∧ Mk h1 g fq ∧ SlR 16 Shard.RI g x ((s.shards.take i).map (Shard.renew e) ++ s.shards.drop i) fq) (fun i st hi ⟨g, hs, m, u⟩ => by
    subst hs
    have hi' : i < ((s.shards.take i).map (Shard.renew e) ++ s.shards.drop i).length := by simp; omega
    obtain ⟨g', e1, m1, u1⟩ := l13Renew_turn (F := F) (Z := Z) e s.group e u f1.nd (fun id hid => by rw [m.fl]; exact f1.own o1 hf id hid) hi'
    rw [mix_at _ _ hi hi', mix_set _ _ hi] at u1
    exact ⟨_, ⟨g', rfl, m.then m1, u1⟩, e1⟩) (s := ⟨[(1, .c (.int .i64 e)), (6, .c (.int .i64 (0 : Nat)))], [(4, 4, 0), (5, 5, 0)], [(4, [.int .i64 0, .int .i64 0, .nil]), (5, [.int .i64 s.group, .int .i64 e, x])], h1⟩) ⟨h1, rfl, Mk.refl _ _, by simpa using w⟩
  subst hs
  simp only [show ((0 : Nat) : Int) = 0 from rfl] at lp
  rw [List.take_length, List.drop_length, List.append_nil] at u
  have hul := u.len
  rw [List.length_map] at hul
  have hlt : ¬ (s.shards.length : Int) < s.shards.length := by omega
  rw [lp, loop_run]
  conv in (codeF _ _ r318L0 _) => unfold r318L0
  simp only [run0, run1, run2, run3, run4, noSlot, ownS, ownK, memN, RO.dst, lk, drop, forget, number, Nat.reduceBEq, cut?, splice?, builds, List.length_cons, List.length_nil, List.drop_succ_cons, List.drop_zero, List.take_succ_cons, List.take_zero, List.cons_append, List.nil_append, List.append_nil, List.drop_nil, List.take_nil, Nat.reduceAdd, Nat.reduceLeDiff, Nat.zero_add, Nat.add_zero, ↓reduceIte, Bool.not_true, Bool.not_false, decide_true, decide_false, eq_self, bne_self_eq_false, List.getElem?_cons_zero, List.getElem?_cons_succ, decide_eq_true_eq, Bool.false_eq_true, Bool.true_eq_false, reduceCtorEq, Nat.le_refl, hul, hlt]
  exact ⟨_, _, _, rfl, o1.turned m f1, ⟨_, _, rfl, rfl, u⟩, f1⟩
end
end Go.Proofs.Ytlfepembgjjejaa.A
/- A store is renewed; a shard of it is frozen. -/
namespace Go.Proofs.Ytlfepembgjjejaa.A
open Go
set_option linter.unusedSimpArgs false
set_option linter.unusedVariables false
def renewStore (s : Store) (e : Int) : Store × Bool := bif s.next e then (s.renew e, true) else (s, false)
def Store.frozen (s : Store) (i : Nat) (e : Int) : Store := { s with shards := s.shards.set i { Shard.at_ s.shards i with state := 1, epoch := e } }
def freezeShard (s : Store) (lo e : Int) : Store × Bool := bif s.next e && decide (0 ≤ findAt s.shards lo 0) then ((s.frozen (findAt s.shards lo 0).toNat e).renew e, true) else (s, false)
theorem Store.renew_small {s : Store} (sm : s.Small) (e : Int) : (s.renew e).Small := by
  refine ⟨by simpa [Store.renew] using sm.1, fun a ha => ?_⟩
  obtain ⟨t, ht, rfl⟩ := List.mem_map.1 (show a ∈ s.shards.map (Shard.renew e) from ha)
  unfold Shard.renew
  cases (t.state == 0) <;> exact sm.2 t ht
theorem renewStore_small {s : Store} (sm : s.Small) (e : Int) : (renewStore s e).1.Small := by
  unfold renewStore
  cases s.next e
  · exact sm
  · exact Store.renew_small sm e
theorem Store.frozen_small {s : Store} (sm : s.Small) {i : Nat} (hi : i < s.shards.length) (e : Int) : (s.frozen i e).Small := by
  refine ⟨by simpa [Store.frozen] using sm.1, fun a ha => ?_⟩
  rcases List.mem_or_eq_of_mem_set (show a ∈ s.shards.set i _ from ha) with h | h
  · exact sm.2 a h
  · subst h; exact Store.at_small sm hi
theorem freezeShard_small {s : Store} (sm : s.Small) (lo e : Int) : (freezeShard s lo e).1.Small := by
  unfold freezeShard
  cases h : (s.next e && decide (0 ≤ findAt s.shards lo 0)) with
  | false => exact sm
  | true =>
    simp only [Bool.and_eq_true, decide_eq_true_eq] at h
    obtain ⟨i, e', hi, _⟩ := findI_at h.2
    have e'' : findAt s.shards lo 0 = (i : Int) := e'
    simp only [cond_true, e'', Int.toNat_natCast]
    exact Store.renew_small (Store.frozen_small sm hi e) e
section
variable {F : Nat → Option RF} {Z : CallF} {h : Heap} {x : Cell} {xs : List Shard} {fp fq : List Nat} {cs : List Cell} {s : Store} {t : Shard}
theorem isNewEpoch_run (k : KI F) (v : Store.RI h cs s fp) (ok : s.Ok) (e : Int) : ∃ h', call F Z 319 [.agg cs, .c (.int .i64 e)] h = some (.c (.bool (s.next e)), h') ∧ On h h' := by
  obtain ⟨h1, e1, o1⟩ := isStore_run (Z := Z) k v ok
  obtain ⟨x, p, rfl, rfl, w⟩ := v
  refine ⟨h1, ?_, o1⟩
  rw [call_run F Z (k.i13.lk (g := 319) rfl) _ _ rfl]
  have hd : s.next e = (s.good && (decide (s.seen < e) && decide (e ≤ 1000000))) := rfl
  rw [hd]
  generalize s.good = gd at *
  simp only [run0, run1, run2, run3, run4, noSlot, ownS, ownK, memN, RO.dst, lk, drop, forget, number, Nat.reduceBEq, cut?, splice?, builds, List.length_cons, List.length_nil, List.drop_succ_cons, List.drop_zero, List.take_succ_cons, List.take_zero, List.cons_append, List.nil_append, List.append_nil, List.drop_nil, List.take_nil, Nat.reduceAdd, Nat.reduceLeDiff, Nat.zero_add, Nat.add_zero, ↓reduceIte, Bool.not_true, Bool.not_false, decide_true, decide_false, eq_self, bne_self_eq_false, List.getElem?_cons_zero, List.getElem?_cons_succ, decide_eq_true_eq, Bool.false_eq_true, Bool.true_eq_false, reduceCtorEq, Nat.le_refl, e1]
  cases gd with
  | false => simp only [run0, run1, run2, run3, run4, noSlot, ownS, ownK, memN, RO.dst, lk, drop, forget, number, Nat.reduceBEq, cut?, splice?, builds, List.length_cons, List.length_nil, List.drop_succ_cons, List.drop_zero, List.take_succ_cons, List.take_zero, List.cons_append, List.nil_append, List.append_nil, List.drop_nil, List.take_nil, Nat.reduceAdd, Nat.reduceLeDiff, Nat.zero_add, Nat.add_zero, ↓reduceIte, Bool.not_true, Bool.not_false, decide_true, decide_false, eq_self, bne_self_eq_false, List.getElem?_cons_zero, List.getElem?_cons_succ, decide_eq_true_eq, Bool.false_eq_true, Bool.true_eq_false, reduceCtorEq, Nat.le_refl, Bool.false_and]
  | true =>
    simp only [run0, run1, run2, run3, run4, noSlot, ownS, ownK, memN, RO.dst, lk, drop, forget, number, Nat.reduceBEq, cut?, splice?, builds, List.length_cons, List.length_nil, List.drop_succ_cons, List.drop_zero, List.take_succ_cons, List.take_zero, List.cons_append, List.nil_append, List.append_nil, List.drop_nil, List.take_nil, Nat.reduceAdd, Nat.reduceLeDiff, Nat.zero_add, Nat.add_zero, ↓reduceIte, Bool.not_true, Bool.not_false, decide_true, decide_false, eq_self, bne_self_eq_false, List.getElem?_cons_zero, List.getElem?_cons_succ, decide_eq_true_eq, Bool.false_eq_true, Bool.true_eq_false, reduceCtorEq, Nat.le_refl]
    (repeat' ((first | (rw [gF_if]; split) | (rw [condC_if]; split) | (rw [pickR_if]; split)) <;> (rename_i hh; (try simp only [Bool.not_eq_true, decide_eq_true_eq] at hh); simp only [hh, run0, run1, run2, run3, run4, noSlot, ownS, ownK, memN, RO.dst, lk, drop, forget, number, Nat.reduceBEq, cut?, splice?, builds, List.length_cons, List.length_nil, List.drop_succ_cons, List.drop_zero, List.take_succ_cons, List.take_zero, List.cons_append, List.nil_append, List.append_nil, List.drop_nil, List.take_nil, Nat.reduceAdd, Nat.reduceLeDiff, Nat.zero_add, Nat.add_zero, ↓reduceIte, Bool.not_true, Bool.not_false, decide_true, decide_false, eq_self, bne_self_eq_false, List.getElem?_cons_zero, List.getElem?_cons_succ, decide_eq_true_eq, Bool.false_eq_true, Bool.true_eq_false, reduceCtorEq, Nat.le_refl, e1]))) <;> simp_all
theorem l13Next_run (k : KS F) (v : Store.RI h cs s fp) (ok : s.Ok) (e : Int) : call F Z 316 [.agg cs, .c (.int .i64 e)] h = some (.c (.bool (s.next e)), h) := by
  have e1 := sStoreOk_run (Z := Z) k v ok
  obtain ⟨x, p, rfl, rfl, w⟩ := v
  rw [call_run F Z (k.s13.lk (g := 316) rfl) _ _ rfl]
  have hd : s.next e = (s.good && (decide (s.seen < e) && decide (e ≤ 1000000))) := rfl
  rw [hd]
  cases hg : s.good with
  | false =>
    rw [hg] at e1
    simp only [run0, run1, run2, run3, run4, noSlot, ownS, ownK, memN, RO.dst, lk, drop, forget, number, Nat.reduceBEq, cut?, splice?, builds, List.length_cons, List.length_nil, List.drop_succ_cons, List.drop_zero, List.take_succ_cons, List.take_zero, List.cons_append, List.nil_append, List.append_nil, List.drop_nil, List.take_nil, Nat.reduceAdd, Nat.reduceLeDiff, Nat.zero_add, Nat.add_zero, ↓reduceIte, Bool.not_true, Bool.not_false, decide_true, decide_false, eq_self, bne_self_eq_false, List.getElem?_cons_zero, List.getElem?_cons_succ, decide_eq_true_eq, Bool.false_eq_true, Bool.true_eq_false, reduceCtorEq, Nat.le_refl, e1, Bool.false_and]
  | true =>
    rw [hg] at e1
    have hs : inR s.seen 0 1000000 = true := by simp only [Store.good, Bool.and_eq_true] at hg; exact hg.2.1
    simp only [inR, Bool.and_eq_true, decide_eq_true_eq] at hs
    have hw : IntKind.i64.wrap (s.seen + 1) = s.seen + 1 := wrapI _ (by omega) (by omega)
    simp only [run0, run1, run2, run3, run4, noSlot, ownS, ownK, memN, RO.dst, lk, drop, forget, number, Nat.reduceBEq, cut?, splice?, builds, List.length_cons, List.length_nil, List.drop_succ_cons, List.drop_zero, List.take_succ_cons, List.take_zero, List.cons_append, List.nil_append, List.append_nil, List.drop_nil, List.take_nil, Nat.reduceAdd, Nat.reduceLeDiff, Nat.zero_add, Nat.add_zero, ↓reduceIte, Bool.not_true, Bool.not_false, decide_true, decide_false, eq_self, bne_self_eq_false, List.getElem?_cons_zero, List.getElem?_cons_succ, decide_eq_true_eq, Bool.false_eq_true, Bool.true_eq_false, reduceCtorEq, Nat.le_refl, e1, hw, l01In_run k.s01]
    have : inR e (s.seen + 1) 1000000 = (true && (decide (s.seen < e) && decide (e ≤ 1000000))) := by
      simp only [inR, Bool.true_and]
      congr 1
    rw [this]
theorem RenewStore_c (k : KI F) (hf : h.floor ≤ h.next) (v : Store.RI h cs s fp) (e : Int) (ok : s.Ok) (sm : s.Small) :
    ∃ cs' h' fq, call F Z 291 [.agg cs, .c (.int .i64 e)] h = some (.tup [.agg cs', .c (.bool (renewStore s e).2)], h') ∧ On h h' ∧ Store.RI h' cs' (renewStore s e).1 fq ∧ Fre h fq := by
  obtain ⟨l1, l2, l3⟩ := Store.lenI v
  obtain ⟨h1, e1, o1⟩ := isNewEpoch_run (Z := Z) k v ok e
  have hf1 := o1.le hf
  obtain ⟨cs2, h2, fq, e2, o2, v2, f2⟩ := copyStore_c (Z := Z) k hf1 (Store.okI.on v o1) sm
  have f2' : Fre h fq := ⟨fun id hid => Nat.le_trans o1.ext.1 (f2.lo id hid), f2.nd⟩
  obtain ⟨m1, m2, m3⟩ := Store.lenI v2
  obtain ⟨cs3, h3, e3, mk3, v3⟩ := renewed_c (Z := Z) k v2 f2.nd (f2.own o2 hf1) e
  obtain ⟨n1, n2, n3⟩ := Store.lenI v3
  rw [call_run F Z (k.i13.lk (g := 291) rfl) _ _ rfl]
  have hd : renewStore s e = bif s.next e then (s.renew e, true) else (s, false) := rfl
  rw [hd]
  generalize s.next e = nx at *
  cases nx with
  | false =>
    simp only [run0, run1, run2, run3, run4, noSlot, ownS, ownK, memN, RO.dst, lk, drop, forget, number, Nat.reduceBEq, cut?, splice?, builds, List.length_cons, List.length_nil, List.drop_succ_cons, List.drop_zero, List.take_succ_cons, List.take_zero, List.cons_append, List.nil_append, List.append_nil, List.drop_nil, List.take_nil, Nat.reduceAdd, Nat.reduceLeDiff, Nat.zero_add, Nat.add_zero, ↓reduceIte, Bool.not_true, Bool.not_false, decide_true, decide_false, eq_self, bne_self_eq_false, List.getElem?_cons_zero, List.getElem?_cons_succ, decide_eq_true_eq, Bool.false_eq_true, Bool.true_eq_false, reduceCtorEq, Nat.le_refl, l1, l2, l3, e1, e2, m1, m2, m3]
    exact ⟨_, _, _, rfl, o1.trans o2, v2, f2'⟩
  | true =>
    simp only [run0, run1, run2, run3, run4, noSlot, ownS, ownK, memN, RO.dst, lk, drop, forget, number, Nat.reduceBEq, cut?, splice?, builds, List.length_cons, List.length_nil, List.drop_succ_cons, List.drop_zero, List.take_succ_cons, List.take_zero, List.cons_append, List.nil_append, List.append_nil, List.drop_nil, List.take_nil, Nat.reduceAdd, Nat.reduceLeDiff, Nat.zero_add, Nat.add_zero, ↓reduceIte, Bool.not_true, Bool.not_false, decide_true, decide_false, eq_self, bne_self_eq_false, List.getElem?_cons_zero, List.getElem?_cons_succ, decide_eq_true_eq, Bool.false_eq_true, Bool.true_eq_false, reduceCtorEq, Nat.le_refl, l1, l2, l3, e1, e2, m1, m2, m3, e3, n1, n2, n3]
    exact ⟨_, _, _, rfl, (o1.trans o2).turned mk3 f2', v3, f2'⟩
theorem sRenewStore_c (k : KS F) (hf : h.floor ≤ h.next) (v : Store.RI h cs s fp) (e : Int) (ok : s.Ok) (sm : s.Small) :
    ∃ cs' h' fq, call F Z 290 [.agg cs, .c (.int .i64 e)] h = some (.tup [.agg cs', .c (.bool (renewStore s e).2)], h') ∧ On h h' ∧ Store.RI h' cs' (renewStore s e).1 fq ∧ Fre h fq := by
  obtain ⟨l1, l2, l3⟩ := Store.lenI v
  have e1 := l13Next_run (Z := Z) k v ok e
  obtain ⟨cs2, h2, fq, e2, o2, v2, f2⟩ := l13Copy_c (Z := Z) k hf v sm
  obtain ⟨m1, m2, m3⟩ := Store.lenI v2
  obtain ⟨cs3, h3, fr, e3, o3, v3, f3⟩ := l13Renew_c (Z := Z) k hf v sm e
  obtain ⟨n1, n2, n3⟩ := Store.lenI v3
  rw [call_run F Z (k.s13.lk (g := 290) rfl) _ _ rfl]
  have hd : renewStore s e = bif s.next e then (s.renew e, true) else (s, false) := rfl
  rw [hd]
  generalize s.next e = nx at *
  cases nx with
  | false =>
    simp only [run0, run1, run2, run3, run4, noSlot, ownS, ownK, memN, RO.dst, lk, drop, forget, number, Nat.reduceBEq, cut?, splice?, builds, List.length_cons, List.length_nil, List.drop_succ_cons, List.drop_zero, List.take_succ_cons, List.take_zero, List.cons_append, List.nil_append, List.append_nil, List.drop_nil, List.take_nil, Nat.reduceAdd, Nat.reduceLeDiff, Nat.zero_add, Nat.add_zero, ↓reduceIte, Bool.not_true, Bool.not_false, decide_true, decide_false, eq_self, bne_self_eq_false, List.getElem?_cons_zero, List.getElem?_cons_succ, decide_eq_true_eq, Bool.false_eq_true, Bool.true_eq_false, reduceCtorEq, Nat.le_refl, l1, l2, l3, e1, e2, m1, m2, m3]
    exact ⟨_, _, _, rfl, o2, v2, f2⟩
  | true =>
    simp only [run0, run1, run2, run3, run4, noSlot, ownS, ownK, memN, RO.dst, lk, drop, forget, number, Nat.reduceBEq, cut?, splice?, builds, List.length_cons, List.length_nil, List.drop_succ_cons, List.drop_zero, List.take_succ_cons, List.take_zero, List.cons_append, List.nil_append, List.append_nil, List.drop_nil, List.take_nil, Nat.reduceAdd, Nat.reduceLeDiff, Nat.zero_add, Nat.add_zero, ↓reduceIte, Bool.not_true, Bool.not_false, decide_true, decide_false, eq_self, bne_self_eq_false, List.getElem?_cons_zero, List.getElem?_cons_succ, decide_eq_true_eq, Bool.false_eq_true, Bool.true_eq_false, reduceCtorEq, Nat.le_refl, l1, l2, l3, e1, e3, n1, n2, n3]
    exact ⟨_, _, _, rfl, o3, v3, f3⟩
/-- The two stores that freeze a shard. -/
theorem SlR.freeze (w : SlR 16 Shard.RI h x s.shards fp) (nd : fp.Nodup) (hfl : ∀ id, id ∈ fp → h.floor ≤ id) {i : Nat} (hi : i < s.shards.length) (e : Int) :
    ∃ g1 g2, storeP h x.sid i 2 [.int .i64 1] = some g1 ∧ storeP g1 x.sid i 3 [.int .i64 e] = some g2 ∧ Mk h g2 fp ∧ SlR 16 Shard.RI g2 x (s.frozen i e).shards fp := by
  obtain ⟨r, f, rows, hR, hs, hld, hself, hst, hl2, fin⟩ := w.putRow Shard.okI nd hfl hi
  obtain ⟨x1, p1, x2, p2, rfl, rfl, w1, w2⟩ := hR
  obtain ⟨f1, f2⟩ := fin [.int .u64 s.shards[i].lo, .int .u64 s.shards[i].hi, .int .i64 1, .int .i64 e, x1, x2] { s.shards[i] with state := 1, epoch := e } ⟨x1, p1, x2, p2, rfl, rfl, w1, w2⟩
  have h1 := hst [.int .u64 s.shards[i].lo, .int .u64 s.shards[i].hi, .int .i64 s.shards[i].state, .int .i64 s.shards[i].epoch, x1, x2] 2 [.int .i64 1]
  rw [hself] at h1
  have h2 := hst [.int .u64 s.shards[i].lo, .int .u64 s.shards[i].hi, .int .i64 1, .int .i64 s.shards[i].epoch, x1, x2] 3 [.int .i64 e]
  refine ⟨_, _, h1, h2, f2, ?_⟩
  have : (s.frozen i e).shards = s.shards.set i { s.shards[i] with state := 1, epoch := e } := by simp only [Store.frozen, Shard.at_get hi]
  rw [this]
  exact f1
set_option maxHeartbeats 1000000 in
theorem FreezeShard_c (k : KI F) (hL : Has F tLibslicesIndexFuncimplShardimplShard) (hf : h.floor ≤ h.next) (v : Store.RI h cs s fp) (lo e : Int) (ok : s.Ok) (sm : s.Small) :
    ∃ cs' h' fq, call F Z 301 [.agg cs, .c (.int .u64 lo), .c (.int .i64 e)] h = some (.tup [.agg cs', .c (.bool (freezeShard s lo e).2)], h') ∧ On h h' ∧ Store.RI h' cs' (freezeShard s lo e).1 fq ∧ Fre h fq := by
  obtain ⟨l1, l2, l3⟩ := Store.lenI v
  obtain ⟨cs1, h1, fq, e1, o1, v1, f1⟩ := copyStore_c (Z := Z) k hf v sm
  obtain ⟨h2, e2, o2⟩ := shardAt_on (Z := Z) k.i13 hL (Store.okI.on v o1) lo 0
  obtain ⟨h3, e3, o3⟩ := isNewEpoch_run (Z := Z) k (Store.okI.on (Store.okI.on v o1) o2) ok e
  have o13 := (o1.trans o2).trans o3
  have v3 := Store.okI.on (Store.okI.on v1 o2) o3
  rw [call_run F Z (k.i13.lk (g := 301) rfl) _ _ rfl]
  have hd : freezeShard s lo e = bif s.next e && decide (0 ≤ findAt s.shards lo 0) then ((s.frozen (findAt s.shards lo 0).toNat e).renew e, true) else (s, false) := rfl
  obtain ⟨x, p, rfl, hp, w⟩ := v3
  subst hp
  cases hn : s.next e with
  | false =>
    rw [hn] at e3
    have hd' : freezeShard s lo e = (s, false) := by rw [hd, hn]; rfl
    rw [hd']
    simp only [run0, run1, run2, run3, run4, noSlot, ownS, ownK, memN, RO.dst, lk, drop, forget, number, Nat.reduceBEq, cut?, splice?, builds, List.length_cons, List.length_nil, List.drop_succ_cons, List.drop_zero, List.take_succ_cons, List.take_zero, List.cons_append, List.nil_append, List.append_nil, List.drop_nil, List.take_nil, Nat.reduceAdd, Nat.reduceLeDiff, Nat.zero_add, Nat.add_zero, ↓reduceIte, Bool.not_true, Bool.not_false, decide_true, decide_false, eq_self, bne_self_eq_false, List.getElem?_cons_zero, List.getElem?_cons_succ, decide_eq_true_eq, Bool.false_eq_true, Bool.true_eq_false, reduceCtorEq, Nat.le_refl, l1, l2, l3, e1, e2, e3]
    exact ⟨_, _, _, rfl, o13, ⟨x, _, rfl, rfl, w⟩, f1⟩
  | true =>
    rw [hn] at e3
    rcases w.found (fun t => (t.lo == lo) && (t.state == 0)) with q | ⟨i, q, hi, _, hx, _⟩
    · change findAt s.shards lo 0 = -1 at q
      have hd' : freezeShard s lo e = (s, false) := by rw [hd, hn, q]; rfl
      rw [hd']
      rw [q] at e2
      simp only [run0, run1, run2, run3, run4, noSlot, ownS, ownK, memN, RO.dst, lk, drop, forget, number, Nat.reduceBEq, cut?, splice?, builds, List.length_cons, List.length_nil, List.drop_succ_cons, List.drop_zero, List.take_succ_cons, List.take_zero, List.cons_append, List.nil_append, List.append_nil, List.drop_nil, List.take_nil, Nat.reduceAdd, Nat.reduceLeDiff, Nat.zero_add, Nat.add_zero, ↓reduceIte, Bool.not_true, Bool.not_false, decide_true, decide_false, eq_self, bne_self_eq_false, List.getElem?_cons_zero, List.getElem?_cons_succ, decide_eq_true_eq, Bool.false_eq_true, Bool.true_eq_false, reduceCtorEq, Nat.le_refl, l1, l2, l3, e1, e2, e3, Int.reduceLT, Int.reduceNeg]
      exact ⟨_, _, _, rfl, o13, ⟨x, _, rfl, rfl, w⟩, f1⟩
    · change findAt s.shards lo 0 = (i : Int) at q
      have hd' : freezeShard s lo e = ((s.frozen i e).renew e, true) := by
        rw [hd, hn, q]
        have : decide (0 ≤ (i : Int)) = true := by simp
        rw [this]; rfl
      rw [hd']
      rw [q] at e2
      obtain ⟨g1, g2, s1, s2, mk, w2⟩ := w.freeze f1.nd (f1.own o13 hf) hi e
      obtain ⟨cs5, h5, e5, mk5, v5⟩ := renewed_c (Z := Z) k (s := s.frozen i e) ⟨x, _, rfl, rfl, w2⟩ f1.nd (fun id hid => by rw [mk.fl]; exact f1.own o13 hf id hid) e
      obtain ⟨n1, n2, n3⟩ := Store.lenI v5
      have g0 : ¬ (i : Int) < 0 := by omega
      change call F Z 321 [.agg [.int .i64 s.group, .int .i64 s.seen, x], _] g2 = _ at e5
      simp only [run0, run1, run2, run3, run4, noSlot, ownS, ownK, memN, RO.dst, lk, drop, forget, number, Nat.reduceBEq, cut?, splice?, builds, List.length_cons, List.length_nil, List.drop_succ_cons, List.drop_zero, List.take_succ_cons, List.take_zero, List.cons_append, List.nil_append, List.append_nil, List.drop_nil, List.take_nil, Nat.reduceAdd, Nat.reduceLeDiff, Nat.zero_add, Nat.add_zero, ↓reduceIte, Bool.not_true, Bool.not_false, decide_true, decide_false, eq_self, bne_self_eq_false, List.getElem?_cons_zero, List.getElem?_cons_succ, decide_eq_true_eq, Bool.false_eq_true, Bool.true_eq_false, reduceCtorEq, Nat.le_refl, l1, l2, l3, e1, e2, e3, g0, hx, s1, s2, e5, n1, n2, n3]
      exact ⟨_, _, _, rfl, o13.turned (mk.then mk5) f1, v5, f1⟩
set_option maxHeartbeats 1000000 in
theorem sFreezeShard_c (k : KS F) (hf : h.floor ≤ h.next) (v : Store.RI h cs s fp) (lo e : Int) (ok : s.Ok) (sm : s.Small) :
    ∃ cs' h' fq, call F Z 300 [.agg cs, .c (.int .u64 lo), .c (.int .i64 e)] h = some (.tup [.agg cs', .c (.bool (freezeShard s lo e).2)], h') ∧ On h h' ∧ Store.RI h' cs' (freezeShard s lo e).1 fq ∧ Fre h fq := by
  obtain ⟨l1, l2, l3⟩ := Store.lenI v
  obtain ⟨cs1, h1, fq, e1, o1, v1, f1⟩ := l13Copy_c (Z := Z) k hf v sm
  have e2 := l13At_run (Z := Z) k.s13 (Store.okI.on v o1) lo 0
  have e3 := l13Next_run (Z := Z) k (Store.okI.on v o1) ok e
  rw [call_run F Z (k.s13.lk (g := 300) rfl) _ _ rfl]
  have hd : freezeShard s lo e = bif s.next e && decide (0 ≤ findAt s.shards lo 0) then ((s.frozen (findAt s.shards lo 0).toNat e).renew e, true) else (s, false) := rfl
  obtain ⟨x, p, rfl, hp, w⟩ := v1
  subst hp
  cases hn : s.next e with
  | false =>
    rw [hn] at e3
    have hd' : freezeShard s lo e = (s, false) := by rw [hd, hn]; rfl
    rw [hd']
    simp only [run0, run1, run2, run3, run4, noSlot, ownS, ownK, memN, RO.dst, lk, drop, forget, number, Nat.reduceBEq, cut?, splice?, builds, List.length_cons, List.length_nil, List.drop_succ_cons, List.drop_zero, List.take_succ_cons, List.take_zero, List.cons_append, List.nil_append, List.append_nil, List.drop_nil, List.take_nil, Nat.reduceAdd, Nat.reduceLeDiff, Nat.zero_add, Nat.add_zero, ↓reduceIte, Bool.not_true, Bool.not_false, decide_true, decide_false, eq_self, bne_self_eq_false, List.getElem?_cons_zero, List.getElem?_cons_succ, decide_eq_true_eq, Bool.false_eq_true, Bool.true_eq_false, reduceCtorEq, Nat.le_refl, l1, l2, l3, e1, e2, e3]
    exact ⟨_, _, _, rfl, o1, ⟨x, _, rfl, rfl, w⟩, f1⟩
  | true =>
    rw [hn] at e3
    rcases w.found (fun t => (t.lo == lo) && (t.state == 0)) with q | ⟨i, q, hi, _, hx, _⟩
    · change findAt s.shards lo 0 = -1 at q
      have hd' : freezeShard s lo e = (s, false) := by rw [hd, hn, q]; rfl
      rw [hd']
      rw [q] at e2
      simp only [run0, run1, run2, run3, run4, noSlot, ownS, ownK, memN, RO.dst, lk, drop, forget, number, Nat.reduceBEq, cut?, splice?, builds, List.length_cons, List.length_nil, List.drop_succ_cons, List.drop_zero, List.take_succ_cons, List.take_zero, List.cons_append, List.nil_append, List.append_nil, List.drop_nil, List.take_nil, Nat.reduceAdd, Nat.reduceLeDiff, Nat.zero_add, Nat.add_zero, ↓reduceIte, Bool.not_true, Bool.not_false, decide_true, decide_false, eq_self, bne_self_eq_false, List.getElem?_cons_zero, List.getElem?_cons_succ, decide_eq_true_eq, Bool.false_eq_true, Bool.true_eq_false, reduceCtorEq, Nat.le_refl, l1, l2, l3, e1, e2, e3, Int.reduceLT, Int.reduceNeg]
      exact ⟨_, _, _, rfl, o1, ⟨x, _, rfl, rfl, w⟩, f1⟩
    · change findAt s.shards lo 0 = (i : Int) at q
      have hd' : freezeShard s lo e = ((s.frozen i e).renew e, true) := by
        rw [hd, hn, q]
        have : decide (0 ≤ (i : Int)) = true := by simp
        rw [this]; rfl
      rw [hd']
      rw [q] at e2
      obtain ⟨g1, g2, s1, s2, mk, w2⟩ := w.freeze f1.nd (f1.own o1 hf) hi e
      have o2 := o1.turned mk f1
      obtain ⟨cs5, h5, f5, e5, o5, v5, r5⟩ := l13Renew_c (Z := Z) k (s := s.frozen i e) (o2.le hf) ⟨x, _, rfl, rfl, w2⟩ (Store.frozen_small sm hi e) e
      obtain ⟨n1, n2, n3⟩ := Store.lenI v5
      have g0 : ¬ (i : Int) < 0 := by omega
      change call F Z 318 [.agg [.int .i64 s.group, .int .i64 s.seen, x], _] g2 = _ at e5
      simp only [run0, run1, run2, run3, run4, noSlot, ownS, ownK, memN, RO.dst, lk, drop, forget, number, Nat.reduceBEq, cut?, splice?, builds, List.length_cons, List.length_nil, List.drop_succ_cons, List.drop_zero, List.take_succ_cons, List.take_zero, List.cons_append, List.nil_append, List.append_nil, List.drop_nil, List.take_nil, Nat.reduceAdd, Nat.reduceLeDiff, Nat.zero_add, Nat.add_zero, ↓reduceIte, Bool.not_true, Bool.not_false, decide_true, decide_false, eq_self, bne_self_eq_false, List.getElem?_cons_zero, List.getElem?_cons_succ, decide_eq_true_eq, Bool.false_eq_true, Bool.true_eq_false, reduceCtorEq, Nat.le_refl, l1, l2, l3, e1, e2, e3, g0, hx, s1, s2, e5, n1, n2, n3]
      exact ⟨_, _, _, rfl, o2.trans o5, v5, ⟨fun id hid => Nat.le_trans o2.ext.1 (r5.lo id hid), r5.nd⟩⟩
end
end Go.Proofs.Ytlfepembgjjejaa.A
/- A shard that is put into a store: where. -/
namespace Go.Proofs.Ytlfepembgjjejaa.A
open Go
set_option linter.unusedSimpArgs false
set_option linter.unusedVariables false
theorem count_pre {α : Type} (p : α → Bool) : ∀ (xs : List α), (∀ i j (hj : j < xs.length) (hij : i < j), p xs[j] = true → p (xs[i]'(by omega)) = true) → ∀ i (hi : i < xs.length), (p xs[i] = true ↔ i < xs.countP p)
  | [], _, i, hi => absurd hi (Nat.not_lt_zero _)
  | a :: r, h, i, hi => by
    have hr : ∀ i j (hj : j < r.length) (hij : i < j), p r[j] = true → p (r[i]'(by omega)) = true := fun i j hj hij hp => by
      have := h (i + 1) (j + 1) (by simpa using hj) (by omega) (by simpa using hp)
      simpa using this
    cases ha : p a with
    | true =>
      rw [List.countP_cons_of_pos ha]
      cases i with
      | zero => simp [ha]
      | succ i =>
        have := count_pre p r hr i (by simpa using hi)
        simp only [List.getElem_cons_succ, this]; omega
    | false =>
      have h0 : ∀ j (hj : j < r.length), p r[j] = false := fun j hj => by
        cases hp : p r[j] with
        | false => rfl
        | true =>
          have := h 0 (j + 1) (by simpa using hj) (by omega) (by simpa using hp)
          simp [ha] at this
      have hc : r.countP p = 0 := List.countP_eq_zero.2 fun b hb => by
        obtain ⟨j, hj, rfl⟩ := List.mem_iff_getElem.1 hb
        simp [h0 j hj]
      rw [List.countP_cons_of_neg (by simp [ha]), hc]
      cases i with
      | zero => simp [ha]
      | succ i => simp [h0 i (by simpa using hi)]
theorem Store.fit_at {s : Store} (g : s.good = true) {j : Nat} (hj : j < s.shards.length) : s.fits j = true := by
  simp only [Store.good, Bool.and_eq_true, List.all_eq_true, List.mem_range] at g
  exact g.2.2.2 j hj
theorem Store.lo_hi {s : Store} (g : s.good = true) {j : Nat} (hj : j < s.shards.length) : s.shards[j].lo ≤ s.shards[j].hi := by
  have := Store.fit_at g hj
  simp only [Store.fits, Shard.at_get hj, Shard.good, Shard.head, Bool.and_eq_true, decide_eq_true_eq] at this
  omega
theorem Store.gap {s : Store} (g : s.good = true) {j : Nat} (hj : j + 1 < s.shards.length) : s.shards[j].hi < s.shards[j + 1].lo := by
  have := Store.fit_at g hj
  simp only [Store.fits, Bool.and_eq_true, Bool.or_eq_true, decide_eq_true_eq, beq_iff_eq] at this
  rcases this.2.2 with h | h
  · omega
  · simp only [Nat.add_sub_cancel] at h
    rw [Shard.at_get hj, Shard.at_get (by omega)] at h
    exact h
theorem Store.sorted {s : Store} (g : s.good = true) (i : Nat) : ∀ (d : Nat) (hj : i + d + 1 < s.shards.length), s.shards[i].hi < s.shards[i + d + 1].lo
  | 0, hj => Store.gap g hj
  | d + 1, hj => by
    have h1 := Store.sorted g i d (by omega)
    have h2 := Store.gap g (j := i + d + 1) hj
    have h3 := Store.lo_hi g (j := i + d + 1) (by omega)
    have e : i + (d + 1) + 1 = i + d + 1 + 1 := by omega
    simp only [e]
    omega
def Shard.over (x t : Shard) : Bool := decide (t.lo ≤ x.hi) && decide (x.lo ≤ t.hi)
def Shard.left (x t : Shard) : Bool := decide (t.lo < x.lo)
def Store.spot (s : Store) (x : Shard) : Nat := s.shards.countP x.left
def Shard.awake (x : Shard) : Shard := { x with state := 0 }
def Store.plus (s : Store) (x : Shard) : Store := { s with shards := s.shards.take (s.spot x) ++ [x.awake] ++ s.shards.drop (s.spot x) }
def installable (s : Store) (x : Shard) (e : Int) : Bool := s.next e && (x.good && ((x.state == 1) && (decide (x.epoch < e) && !((s.shards.length : Int) == 8))))
def installShard (s : Store) (x : Shard) (e : Int) : Store × Bool := bif installable s x e && !(s.shards.any x.over) then ((s.plus x).renew e, true) else (s, false)
theorem Store.spot_le (s : Store) (x : Shard) : s.spot x ≤ s.shards.length := List.countP_le_length
theorem Store.spot_iff {s : Store} (g : s.good = true) (x : Shard) {i : Nat} (hi : i < s.shards.length) : s.shards[i].lo < x.lo ↔ i < s.spot x := by
  have := count_pre x.left s.shards (fun i j hj hij hp => by
    obtain ⟨d, rfl⟩ : ∃ d, j = i + d + 1 := ⟨j - i - 1, by omega⟩
    have h1 := Store.sorted g i d hj
    have h2 := Store.lo_hi g (j := i) (by omega)
    simp only [Shard.left, decide_eq_true_eq] at hp ⊢
    omega) i hi
  simp only [Shard.left, decide_eq_true_eq] at this
  exact this
theorem Store.spot_gt {s : Store} (g : s.good = true) {x : Shard} (gx : x.good = true) (ho : s.shards.any x.over = false) {i : Nat} (hi : i < s.shards.length) : x.lo < s.shards[i].lo ↔ s.spot x ≤ i := by
  have h1 := Store.spot_iff g x hi
  have h2 := Store.lo_hi g hi
  have h3 : x.lo ≤ x.hi := by
    simp only [Shard.good, Shard.head, Bool.and_eq_true, decide_eq_true_eq] at gx
    omega
  have h4 : x.over s.shards[i] = false := by
    rw [List.any_eq_false] at ho
    simpa using ho _ (List.getElem_mem hi)
  simp only [Shard.over, Bool.and_eq_false_iff, decide_eq_false_iff_not] at h4
  omega
theorem Store.plus_small {s : Store} (sm : s.Small) {x : Shard} (sx : x.Small) (hl : s.shards.length ≤ 8) : (s.plus x).Small := by
  refine ⟨?_, fun a ha => ?_⟩
  · simp only [Store.plus, List.length_append, List.length_take, List.length_drop, List.length_cons, List.length_nil]; omega
  · simp only [Store.plus, List.mem_append, List.mem_singleton] at ha
    rcases ha with (ha | ha) | ha
    · exact sm.2 a (List.mem_of_mem_take ha)
    · subst ha; exact sx
    · exact sm.2 a (List.mem_of_mem_drop ha)
theorem installShard_small {s : Store} (sm : s.Small) {x : Shard} (sx : x.Small) (e : Int) : (installShard s x e).1.Small := by
  unfold installShard
  cases h : (installable s x e && !(s.shards.any x.over)) with
  | false => exact sm
  | true =>
    refine Store.renew_small (Store.plus_small sm sx ?_) e
    simp only [installable, Store.next, Store.good, Bool.and_eq_true, decide_eq_true_eq] at h
    omega
/-- A put in the course of a loop. -/
def Store.part (s : Store) (y : Shard) (k i : Nat) : List Shard := if k < i then s.shards.take k ++ [y] ++ (s.shards.take i).drop k else s.shards.take i
theorem Store.part_no {s : Store} {y : Shard} {k i : Nat} (hi : i < s.shards.length) (h : ¬ k ≤ i) : s.part y k (i + 1) = s.part y k i ++ [s.shards[i]] := by
  simp only [Store.part]
  rw [if_neg (by omega), if_neg (by omega), List.take_add_one, List.getElem?_eq_getElem hi]; rfl
theorem Store.part_at {s : Store} {y : Shard} {i : Nat} (hi : i < s.shards.length) : s.part y i (i + 1) = s.part y i i ++ [y] ++ [s.shards[i]] := by
  simp only [Store.part]
  rw [if_pos (by omega), if_neg (by omega), List.take_add_one, List.getElem?_eq_getElem hi, List.drop_append_of_le_length (by rw [List.length_take]; omega), List.drop_eq_nil_of_le (by rw [List.length_take]; omega)]; rfl
theorem Store.part_yes {s : Store} {y : Shard} {k i : Nat} (hi : i < s.shards.length) (h : k < i) : s.part y k (i + 1) = s.part y k i ++ [s.shards[i]] := by
  simp only [Store.part]
  rw [if_pos (by omega), if_pos h, List.take_add_one, List.getElem?_eq_getElem hi, List.drop_append_of_le_length (by rw [List.length_take]; omega), ← List.append_assoc]; rfl
theorem Store.part_end {s : Store} {y : Shard} {k : Nat} (h : k < s.shards.length) : s.part y k s.shards.length = s.shards.take k ++ [y] ++ s.shards.drop k := by
  simp only [Store.part]; rw [if_pos h, List.take_length]
theorem Store.part_last {s : Store} {y : Shard} {k : Nat} (h : k = s.shards.length) : s.part y k s.shards.length ++ [y] = s.shards.take k ++ [y] ++ s.shards.drop k := by
  simp only [Store.part]; subst h; rw [if_neg (by omega), List.take_length, List.drop_length, List.append_nil]
theorem Store.part_len (s : Store) (y : Shard) (k i : Nat) : (s.part y k i).length ≤ s.shards.length + 1 := by
  simp only [Store.part]
  split <;> simp only [List.length_append, List.length_take, List.length_drop, List.length_cons, List.length_nil] <;> omega
end Go.Proofs.Ytlfepembgjjejaa.A
/- slices.Delete and slices.Insert on slices of data with memory. -/
namespace Go.Proofs.Ytlfepembgjjejaa.A
open Go
set_option linter.unusedSimpArgs false
set_option linter.unusedVariables false
section
variable {α : Type} {R : Rel α} {tag : Nat} {h0 h g : Heap} {x y : Cell} {xs ys : List α} {fp fq : List Nat}
theorem AllR.take : ∀ {rows : List (List Cell)} {xs : List α} {fps : List (List Nat)}, AllR R h rows xs fps → ∀ (i : Nat), AllR R h (rows.take i) (xs.take i) (fps.take i)
  | [], [], [], _, i => by simp only [List.take_nil]; trivial
  | _ :: _, _ :: _, _ :: _, _, 0 => trivial
  | _ :: _, _ :: _, _ :: _, ⟨w0, w⟩, i + 1 => ⟨w0, AllR.take w i⟩
  | [], [], _ :: _, w, _ => w.elim
  | [], _ :: _, _, w, _ => w.elim
  | _ :: _, [], _, w, _ => w.elim
  | _ :: _, _ :: _, [], w, _ => w.elim
theorem AllR.drop : ∀ {rows : List (List Cell)} {xs : List α} {fps : List (List Nat)}, AllR R h rows xs fps → ∀ (i : Nat), AllR R h (rows.drop i) (xs.drop i) (fps.drop i)
  | [], [], [], _, i => by simp only [List.drop_nil]; trivial
  | _ :: _, _ :: _, _ :: _, w, 0 => w
  | _ :: _, _ :: _, _ :: _, ⟨w0, w⟩, i + 1 => AllR.drop w i
  | [], [], _ :: _, w, _ => w.elim
  | [], _ :: _, _, w, _ => w.elim
  | _ :: _, [], _, w, _ => w.elim
  | _ :: _, _ :: _, [], w, _ => w.elim
theorem flat_parts {fps : List (List Nat)} (i : Nat) : (fps.take i).flatten ++ (fps.drop i).flatten = fps.flatten := by rw [← List.flatten_append, List.take_append_drop]
/-- A heap where rows of one's own have gone, and others come. -/
structure Re (h g : Heap) (fp fq : List Nat) : Prop where
  le : h.next ≤ g.next
  fl : g.floor = h.floor
  get : ∀ id, id < h.next → id ∉ fp → g.get id = h.get id
  nd : fq.Nodup
  of : ∀ id, id ∈ fq → id ∈ fp ∨ h.next ≤ id
theorem Re.on (r : Re h g fp fq) (o : On h0 h) (f : Fre h0 fp) : On h0 g :=
  ⟨⟨Nat.le_trans o.ext.1 r.le, fun id hid => by rw [r.get id (Nat.lt_of_lt_of_le hid o.ext.1) (f.gt id hid)]; exact o.ext.2 id hid⟩, r.fl.trans o.fl⟩
theorem Re.fre (r : Re h g fp fq) (o : On h0 h) (f : Fre h0 fp) : Fre h0 fq :=
  ⟨fun id hid => by rcases r.of id hid with h1 | h1; exact f.lo id h1; exact Nat.le_trans o.ext.1 h1, r.nd⟩
/-- One element is deleted. -/
theorem SlR.del (ok : RelOk R) (w : SlR tag R h x xs fp) (nd : fp.Nodup) (hfl : ∀ id, id ∈ fp → h.floor ≤ id) {i : Nat} (hi : i < xs.length) :
    ∃ y g fq, delF tag [.c x, .c (.int .i64 (i : Nat)), .c (.int .i64 ((i + 1 : Nat) : Int))] h = some (.c y, g) ∧ SlR tag R g y (xs.eraseIdx i) fq ∧ Re h g fp fq := by
  rcases w with ⟨hl, ⟨rfl, rfl, rfl⟩ | ⟨id, rows, fps, rfl, q1, q2, rfl, q3⟩⟩
  · exact absurd hi (Nat.not_lt_zero _)
  have hn := List.nodup_cons.1 nd
  have hrl := q3.len
  have hfid := hfl id (by simp)
  have hlen : (rows.take i ++ rows.drop (i + 1)).length = i + (xs.length - (i + 1)) := by simp only [List.length_append, List.length_take, List.length_drop, hrl]; omega
  have he : xs.eraseIdx i = xs.take i ++ xs.drop (i + 1) := List.eraseIdx_eq_take_drop_succ ..
  have hel : (xs.eraseIdx i).length = i + (xs.length - (i + 1)) := by rw [List.length_eraseIdx_of_lt hi]; omega
  have hflt := q3.lt ok
  have hsub : ∀ j, j ∈ (fps.take i ++ fps.drop (i + 1)).flatten → j ∈ fps.flatten := fun j hj => by
    rw [List.flatten_append, List.mem_append] at hj
    rw [← flat_parts (fps := fps) i, List.mem_append]
    rcases hj with hj | hj
    · exact .inl hj
    · right
      rw [List.mem_flatten] at hj ⊢
      obtain ⟨l, hl1, hl2⟩ := hj
      exact ⟨l, List.mem_of_mem_drop (i := 1) (by rw [List.drop_drop]; exact hl1), hl2⟩
  refine ⟨.sl tag h.next 0 (i + (xs.length - (i + 1))), (h.kill id).push (rows.take i ++ rows.drop (i + 1)), h.next :: (fps.take i ++ fps.drop (i + 1)).flatten, ?_, ?_, ?_⟩
  · simp only [delF, q1, Option.bind_some, Int.toNat_natCast]
    rw [if_pos ⟨trivial, trivial, hfid, by omega, by omega, by omega, hrl⟩]
  · refine ⟨by rw [hel]; omega, .inr ⟨h.next, rows.take i ++ rows.drop (i + 1), fps.take i ++ fps.drop (i + 1), by rw [hel], by simp [Heap.push, Heap.kill], by simp [Heap.push, Heap.kill], rfl, ?_⟩⟩
    rw [he]
    refine ((q3.take i).app (q3.drop (i + 1))).mv ok (by simp [Heap.push, Heap.kill]) fun j hj => ?_
    have hj' := hsub j hj
    have h1 := hflt j hj'
    rw [push_ne _ (by rw [kill_next]; omega), kill_ne (h := h) (k := id) (id := j) fun e => hn.1 (e ▸ hj')]
  · refine ⟨by simp [Heap.push, Heap.kill], rfl, fun j hj hjn => ?_, ?_, ?_⟩
    · rw [push_ne _ (by rw [kill_next]; omega), kill_ne (h := h) (k := id) (id := j) fun e => hjn (by rw [e]; exact List.mem_cons_self)]
    · rw [List.nodup_cons]
      refine ⟨fun hc => ?_, ?_⟩
      · have := hflt _ (hsub _ hc); omega
      · rw [List.flatten_append]
        have := hn.2
        rw [← flat_parts (fps := fps) i] at this
        obtain ⟨n1, n2, n3⟩ := List.nodup_append.1 this
        have hs2 : (fps.drop (i + 1)).flatten.Sublist (fps.drop i).flatten := by
          obtain ⟨_, f, _, e2, _⟩ := q3.at i hi
          rw [List.drop_eq_getElem_cons (List.getElem?_eq_some_iff.1 e2).1, List.flatten_cons]
          exact List.sublist_append_right _ _
        exact List.nodup_append.2 ⟨n1, n2.sublist hs2, fun a ha b hb => n3 a ha b (hs2.subset hb)⟩
    · intro j hj
      rcases List.mem_cons.1 hj with rfl | hj
      · exact .inr (Nat.le_refl _)
      · exact .inl (List.mem_cons_of_mem _ (hsub j hj))
/-- Some elements are put in. -/
theorem SlR.ins (ok : RelOk R) (w : SlR tag R h x xs fp) (nd : fp.Nodup) (hfl : ∀ id, id ∈ fp → h.floor ≤ id) (v : SlR tag R h y ys fq) (nq : fq.Nodup) (hfq : ∀ id, id ∈ fq → h.floor ≤ id) (hd : ∀ id, id ∈ fq → id ∉ fp) (hy : 0 < ys.length)
    {bytes : Nat} (hb : (xs.length + ys.length) * bytes ≤ 140737488355328) (hm : xs.length + ys.length ≤ maxLen) {i : Nat} (hi : i ≤ xs.length) :
    ∃ z g fr, insF tag bytes [.c x, .c (.int .i64 (i : Nat)), .c y] h = some (.c z, g) ∧ SlR tag R g z (xs.take i ++ ys ++ xs.drop i) fr ∧ Re h g (fp ++ fq) fr := by
  rcases v with ⟨hvl, ⟨rfl, rfl, rfl⟩ | ⟨idv, new, fps2, rfl, v1, v2, rfl, v3⟩⟩
  · exact absurd hy (Nat.not_lt_zero _)
  have hnv := List.nodup_cons.1 nq
  have hvrl := v3.len
  have hvlt := v3.lt ok
  have hfv := hfq idv (by simp)
  rcases w with ⟨hl, ⟨rfl, rfl, rfl⟩ | ⟨id, rows, fps, rfl, q1, q2, rfl, q3⟩⟩
  · have hi0 : i = 0 := by simpa using hi
    subst hi0
    simp only [List.length_nil, Nat.zero_add] at hb hm
    refine ⟨.sl tag h.next 0 ys.length, h.push new, h.next :: fps2.flatten, ?_, ?_, ?_⟩
    · simp only [insF]
      rw [if_pos ⟨trivial, trivial, hfv, hy⟩]
      simp only [v1, Option.bind_some]
      rw [if_pos hvrl, if_pos ⟨rfl, hb, hm⟩]
    · refine ⟨by simpa using hm, .inr ⟨h.next, new, fps2, by simp, by simp [Heap.push], by simp [Heap.push], rfl, ?_⟩⟩
      simp only [List.take_nil, List.drop_nil, List.nil_append, List.append_nil]
      exact v3.mv ok (by simp [Heap.push]) fun j hj => push_ne _ (by have := hvlt j hj; omega)
    · refine ⟨by simp [Heap.push], rfl, fun j hj _ => push_ne _ (by omega), List.nodup_cons.2 ⟨fun hc => by have := hvlt _ hc; omega, hnv.2⟩, fun j hj => ?_⟩
      rcases List.mem_cons.1 hj with rfl | hj
      · exact .inr (Nat.le_refl _)
      · exact .inl (by simp [hj])
  · have hn := List.nodup_cons.1 nd
    have hrl := q3.len
    have hflt := q3.lt ok
    have hfid := hfl id (by simp)
    have hne : id ≠ idv := fun e => hd idv (by simp) (by simp [e])
    refine ⟨.sl tag h.next 0 (xs.length + ys.length), (h.kill id).push (rows.take i ++ new ++ rows.drop i), h.next :: (fps.take i ++ fps2 ++ fps.drop i).flatten, ?_, ?_, ?_⟩
    · simp only [insF]
      rw [if_pos ⟨trivial, trivial, hfv, hy⟩]
      simp only [v1, Option.bind_some]
      rw [if_pos hvrl]
      simp only [q1, Option.bind_some, Int.toNat_natCast]
      rw [if_pos ⟨trivial, trivial, hfid, hne, by omega, by omega, hb, hm, hrl⟩]
    · have hlen : (xs.take i ++ ys ++ xs.drop i).length = xs.length + ys.length := by simp only [List.length_append, List.length_take, List.length_drop]; omega
      refine ⟨by rw [hlen]; exact hm, .inr ⟨h.next, rows.take i ++ new ++ rows.drop i, fps.take i ++ fps2 ++ fps.drop i, by rw [hlen], by simp [Heap.push, Heap.kill], by simp [Heap.push, Heap.kill], rfl, ?_⟩⟩
      refine (((q3.take i).app v3).app (q3.drop i)).mv ok (by simp [Heap.push, Heap.kill]) fun j hj => ?_
      have : j ∈ fps.flatten ∨ j ∈ fps2.flatten := by
        rw [List.flatten_append, List.flatten_append, List.mem_append, List.mem_append] at hj
        rw [← flat_parts (fps := fps) i, List.mem_append]
        rcases hj with (hj | hj) | hj
        · exact .inl (.inl hj)
        · exact .inr hj
        · exact .inl (.inr hj)
      rcases this with hj' | hj'
      · have h1 := hflt j hj'
        rw [push_ne _ (by rw [kill_next]; omega), kill_ne (h := h) (k := id) (id := j) fun e => hn.1 (e ▸ hj')]
      · have h1 := hvlt j hj'
        rw [push_ne _ (by rw [kill_next]; omega), kill_ne (h := h) (k := id) (id := j) fun e => hd j (by simp [hj']) (by rw [e]; simp)]
    · refine ⟨by simp [Heap.push, Heap.kill], rfl, fun j hj hjn => ?_, ?_, ?_⟩
      · rw [push_ne _ (by rw [kill_next]; omega), kill_ne (h := h) (k := id) (id := j) fun e => hjn (by rw [e]; simp)]
      · rw [List.nodup_cons]
        have hn2 := hn.2
        rw [← flat_parts (fps := fps) i] at hn2
        obtain ⟨n1, n2, n3⟩ := List.nodup_append.1 hn2
        have hd1 : ∀ a, a ∈ fps2.flatten → a ∉ fps.flatten := fun a ha hb => hd a (by simp [ha]) (by simp [hb])
        have hin1 : ∀ a, a ∈ (fps.take i).flatten → a ∈ fps.flatten := fun a ha => by rw [← flat_parts (fps := fps) i, List.mem_append]; exact .inl ha
        have hin2 : ∀ a, a ∈ (fps.drop i).flatten → a ∈ fps.flatten := fun a ha => by rw [← flat_parts (fps := fps) i, List.mem_append]; exact .inr ha
        rw [List.flatten_append, List.flatten_append]
        refine ⟨fun hc => ?_, ?_⟩
        · rw [List.mem_append, List.mem_append] at hc
          rcases hc with (hc | hc) | hc
          · have := hflt _ (hin1 _ hc); omega
          · have := hvlt _ hc; omega
          · have := hflt _ (hin2 _ hc); omega
        · refine List.nodup_append.2 ⟨List.nodup_append.2 ⟨n1, hnv.2, fun a ha b hb e => hd1 b hb (e ▸ hin1 a ha)⟩, n2, fun a ha b hb e => ?_⟩
          rcases List.mem_append.1 ha with ha | ha
          · exact n3 a ha b hb e
          · exact hd1 a ha (e ▸ hin2 b hb)
      · intro j hj
        rcases List.mem_cons.1 hj with rfl | hj
        · exact .inr (Nat.le_refl _)
        · left
          rw [List.flatten_append, List.flatten_append, List.mem_append, List.mem_append] at hj
          rw [List.mem_append]
          rcases hj with (hj | hj) | hj
          · exact .inl (List.mem_cons_of_mem _ (by rw [← flat_parts (fps := fps) i, List.mem_append]; exact .inl hj))
          · exact .inr (by simp [hj])
          · exact .inl (List.mem_cons_of_mem _ (by rw [← flat_parts (fps := fps) i, List.mem_append]; exact .inr hj))
end
end Go.Proofs.Ytlfepembgjjejaa.A
/- A shard is put into a store, the program's way. -/
namespace Go.Proofs.Ytlfepembgjjejaa.A
open Go
set_option linter.unusedSimpArgs false
set_option linter.unusedVariables false
section
variable {F : Nat → Option RF} {Z : CallF} {h : Heap} {c : Cell} {xs : List Shard} {fp fq fr : List Nat} {cs ds : List Cell} {s : Store} {x t : Shard}
theorem count_take {α : Type} (p : α → Bool) {xs : List α} {i : Nat} (hi : i < xs.length) : (xs.take (i + 1)).countP p = (xs.take i).countP p + (if p xs[i] then 1 else 0) := by
  rw [List.take_add_one, List.getElem?_eq_getElem hi, List.countP_append]
  simp [List.countP_cons]
theorem inst_turn (w : SlR 16 Shard.RI h c s.shards fp) (e : Int) (b f y : Cell) {i : Nat} (hi : i < s.shards.length) :
    Turn (loop F Z [2, 4, 6, 8, 9, 42, 43, 44] r309L0 ⟨[(2, .c (.int .i64 e)), (9, .c (.int .i64 ((s.shards.take i).countP x.left : Nat))), (42, .c c), (43, .c (.int .i64 (s.shards.length : Nat))), (44, .c (.int .i64 (i : Nat)))], [(4, 4, 0), (6, 6, 0), (8, 8, 0)], [(4, x.cells b f), (6, [.int .i64 0, .int .i64 0, .nil]), (8, [.int .i64 s.group, .int .i64 s.seen, y])], h⟩)
      (loop F Z [2, 4, 6, 8, 9, 42, 43, 44] r309L0 ⟨[(2, .c (.int .i64 e)), (9, .c (.int .i64 ((s.shards.take (i + 1)).countP x.left : Nat))), (42, .c c), (43, .c (.int .i64 (s.shards.length : Nat))), (44, .c (.int .i64 ((i + 1 : Nat) : Int)))], [(4, 4, 0), (6, 6, 0), (8, 8, 0)], [(4, x.cells b f), (6, [.int .i64 0, .int .i64 0, .nil]), (8, [.int .i64 s.group, .int .i64 s.seen, y])], h⟩)
      (!x.over s.shards[i]) (fun s' => lk s'.env 7 = some (.c (.bool false)) ∧ lk s'.adr 6 = some (6, 0) ∧ lk s'.loc 6 = some [.int .i64 s.group, .int .i64 s.seen, y] ∧ s'.hp = h) := by
  have hle := w.le2
  have hlt : (i : Int) < s.shards.length := by omega
  have hws := wrapS i (by omega)
  have hxi := w.idx hi
  obtain ⟨r, q, hld, hR, _⟩ := w.one hi
  obtain ⟨x1, p1, x2, p2, rfl, _⟩ := hR
  have hct := count_take x.left hi
  have hcl : (s.shards.take i).countP x.left ≤ i := Nat.le_trans List.countP_le_length (by rw [List.length_take]; omega)
  have hwc := wrapS ((s.shards.take i).countP x.left) (by omega)
  rw [hct]
  generalize (s.shards.take i).countP x.left = n at *
  clear w hct
  generalize s.shards[i] = a at *
  rw [loop_run]
  conv in (codeF _ _ r309L0 _) => unfold r309L0
  have ho : x.over a = (decide (a.lo ≤ x.hi) && decide (x.lo ≤ a.hi)) := rfl
  have hl : x.left a = decide (a.lo < x.lo) := rfl
  simp only [Shard.cells]
  by_cases c1 : a.lo ≤ x.hi
  · by_cases c2 : x.lo ≤ a.hi
    · simp only [run0, run1, run2, run3, run4, noSlot, ownS, ownK, memN, RO.dst, lk, drop, forget, number, Nat.reduceBEq, cut?, splice?, builds, List.length_cons, List.length_nil, List.drop_succ_cons, List.drop_zero, List.take_succ_cons, List.take_zero, List.cons_append, List.nil_append, List.append_nil, List.drop_nil, List.take_nil, Nat.reduceAdd, Nat.reduceLeDiff, Nat.zero_add, Nat.add_zero, ↓reduceIte, Bool.not_true, Bool.not_false, decide_true, decide_false, eq_self, bne_self_eq_false, List.getElem?_cons_zero, List.getElem?_cons_succ, decide_eq_true_eq, Bool.false_eq_true, Bool.true_eq_false, reduceCtorEq, Nat.le_refl, hlt, hxi, hld, c1, c2]
      exact .inr ⟨by simp [ho, c1, c2], _, rfl, rfl, rfl, rfl, rfl⟩
    · by_cases c3 : a.lo < x.lo
      · simp only [run0, run1, run2, run3, run4, noSlot, ownS, ownK, memN, RO.dst, lk, drop, forget, number, Nat.reduceBEq, cut?, splice?, builds, List.length_cons, List.length_nil, List.drop_succ_cons, List.drop_zero, List.take_succ_cons, List.take_zero, List.cons_append, List.nil_append, List.append_nil, List.drop_nil, List.take_nil, Nat.reduceAdd, Nat.reduceLeDiff, Nat.zero_add, Nat.add_zero, ↓reduceIte, Bool.not_true, Bool.not_false, decide_true, decide_false, eq_self, bne_self_eq_false, List.getElem?_cons_zero, List.getElem?_cons_succ, decide_eq_true_eq, Bool.false_eq_true, Bool.true_eq_false, reduceCtorEq, Nat.le_refl, hlt, hxi, hld, c1, c2, c3, hwc, hws, hl, if_pos]
        exact .inl ⟨by simp [ho, c2], rfl⟩
      · simp only [run0, run1, run2, run3, run4, noSlot, ownS, ownK, memN, RO.dst, lk, drop, forget, number, Nat.reduceBEq, cut?, splice?, builds, List.length_cons, List.length_nil, List.drop_succ_cons, List.drop_zero, List.take_succ_cons, List.take_zero, List.cons_append, List.nil_append, List.append_nil, List.drop_nil, List.take_nil, Nat.reduceAdd, Nat.reduceLeDiff, Nat.zero_add, Nat.add_zero, ↓reduceIte, Bool.not_true, Bool.not_false, decide_true, decide_false, eq_self, bne_self_eq_false, List.getElem?_cons_zero, List.getElem?_cons_succ, decide_eq_true_eq, Bool.false_eq_true, Bool.true_eq_false, reduceCtorEq, Nat.le_refl, hlt, hxi, hld, c1, c2, c3, hwc, hws, hl, Bool.false_eq_true, if_false, Nat.add_zero]
        exact .inl ⟨by simp [ho, c2], rfl⟩
  · by_cases c3 : a.lo < x.lo
    · simp only [run0, run1, run2, run3, run4, noSlot, ownS, ownK, memN, RO.dst, lk, drop, forget, number, Nat.reduceBEq, cut?, splice?, builds, List.length_cons, List.length_nil, List.drop_succ_cons, List.drop_zero, List.take_succ_cons, List.take_zero, List.cons_append, List.nil_append, List.append_nil, List.drop_nil, List.take_nil, Nat.reduceAdd, Nat.reduceLeDiff, Nat.zero_add, Nat.add_zero, ↓reduceIte, Bool.not_true, Bool.not_false, decide_true, decide_false, eq_self, bne_self_eq_false, List.getElem?_cons_zero, List.getElem?_cons_succ, decide_eq_true_eq, Bool.false_eq_true, Bool.true_eq_false, reduceCtorEq, Nat.le_refl, hlt, hxi, hld, c1, c3, hwc, hws, hl, if_pos]
      exact .inl ⟨by simp [ho, c1], rfl⟩
    · simp only [run0, run1, run2, run3, run4, noSlot, ownS, ownK, memN, RO.dst, lk, drop, forget, number, Nat.reduceBEq, cut?, splice?, builds, List.length_cons, List.length_nil, List.drop_succ_cons, List.drop_zero, List.take_succ_cons, List.take_zero, List.cons_append, List.nil_append, List.append_nil, List.drop_nil, List.take_nil, Nat.reduceAdd, Nat.reduceLeDiff, Nat.zero_add, Nat.add_zero, ↓reduceIte, Bool.not_true, Bool.not_false, decide_true, decide_false, eq_self, bne_self_eq_false, List.getElem?_cons_zero, List.getElem?_cons_succ, decide_eq_true_eq, Bool.false_eq_true, Bool.true_eq_false, reduceCtorEq, Nat.le_refl, hlt, hxi, hld, c1, c3, hwc, hws, hl, Bool.false_eq_true, if_false, Nat.add_zero]
      exact .inl ⟨by simp [ho, c1], rfl⟩
theorem all_not {α : Type} (p : α → Bool) (xs : List α) : xs.all (fun a => !p a) = !xs.any p := by
  induction xs with
  | nil => rfl
  | cons a r ih => simp [ih, Bool.not_or]
theorem install_no {e : Int} (h : installable s x e = false) : installShard s x e = (s, false) := by simp [installShard, h]
theorem install_over {e : Int} (h : s.shards.any x.over = true) : installShard s x e = (s, false) := by simp [installShard, h]
theorem install_yes {e : Int} (h : installable s x e = true) (h2 : s.shards.any x.over = false) : installShard s x e = ((s.plus x).renew e, true) := by simp [installShard, h, h2]
set_option maxHeartbeats 2000000 in
theorem InstallShard_c (k : KI F) (pr : PrimAt F Z 332 (insF 16 80)) (hf : h.floor ≤ h.next) (v : Store.RI h cs s fp) (u : Shard.RI h ds x fq) (e : Int) (ok : s.Ok) (sm : s.Small) (okx : x.Ok) (smx : x.Small) :
    ∃ cs' h' fq, call F Z 309 [.agg cs, .agg ds, .c (.int .i64 e)] h = some (.tup [.agg cs', .c (.bool (installShard s x e).2)], h') ∧ On h h' ∧ Store.RI h' cs' (installShard s x e).1 fq ∧ Fre h fq := by
  obtain ⟨l1, l2, l3⟩ := Store.lenI v
  obtain ⟨d1, d2, d3⟩ := Shard.lenI u
  obtain ⟨cs1, h1, fr, e1, o1, v1, f1⟩ := copyStore_c (Z := Z) k hf v sm
  obtain ⟨h2, e2, o2⟩ := isNewEpoch_run (Z := Z) k (Store.okI.on v o1) ok e
  obtain ⟨h3, e3, o3⟩ := isShard_run (Z := Z) k.i10 k.i13 k.c1 k.c2 k.c3 k.c4 k.c5 k.li k.lc (Shard.okI.on (Shard.okI.on u o1) o2) okx
  rw [call_run F Z (k.i13.lk (g := 309) rfl) _ _ rfl]
  cases hn : s.next e with
  | false =>
    rw [hn] at e2
    rw [install_no (by simp [installable, hn])]
    obtain ⟨y, p, rfl, hp, w⟩ := Store.okI.on v1 o2
    subst hp
    simp only [run0, run1, run2, run3, run4, noSlot, ownS, ownK, memN, RO.dst, lk, drop, forget, number, Nat.reduceBEq, cut?, splice?, builds, List.length_cons, List.length_nil, List.drop_succ_cons, List.drop_zero, List.take_succ_cons, List.take_zero, List.cons_append, List.nil_append, List.append_nil, List.drop_nil, List.take_nil, Nat.reduceAdd, Nat.reduceLeDiff, Nat.zero_add, Nat.add_zero, ↓reduceIte, Bool.not_true, Bool.not_false, decide_true, decide_false, eq_self, bne_self_eq_false, List.getElem?_cons_zero, List.getElem?_cons_succ, decide_eq_true_eq, Bool.false_eq_true, Bool.true_eq_false, reduceCtorEq, Nat.le_refl, l1, l2, l3, d1, d2, d3, e1, e2]
    exact ⟨_, _, _, rfl, o1.trans o2, ⟨y, _, rfl, rfl, w⟩, f1⟩
  | true =>
    rw [hn] at e2
    have o13 := (o1.trans o2).trans o3
    obtain ⟨y, p, rfl, hp, w⟩ := Store.okI.on (Store.okI.on v1 o2) o3
    subst hp
    cases gd : x.good with
    | false =>
      rw [gd] at e3
      rw [install_no (by simp [installable, gd])]
      simp only [run0, run1, run2, run3, run4, noSlot, ownS, ownK, memN, RO.dst, lk, drop, forget, number, Nat.reduceBEq, cut?, splice?, builds, List.length_cons, List.length_nil, List.drop_succ_cons, List.drop_zero, List.take_succ_cons, List.take_zero, List.cons_append, List.nil_append, List.append_nil, List.drop_nil, List.take_nil, Nat.reduceAdd, Nat.reduceLeDiff, Nat.zero_add, Nat.add_zero, ↓reduceIte, Bool.not_true, Bool.not_false, decide_true, decide_false, eq_self, bne_self_eq_false, List.getElem?_cons_zero, List.getElem?_cons_succ, decide_eq_true_eq, Bool.false_eq_true, Bool.true_eq_false, reduceCtorEq, Nat.le_refl, l1, l2, l3, d1, d2, d3, e1, e2, e3]
      exact ⟨_, _, _, rfl, o13, ⟨y, _, rfl, rfl, w⟩, f1⟩
    | true =>
      rw [gd] at e3
      have v3 := Store.okI.on v o13
      have u3 := Shard.okI.on u o13
      obtain ⟨xc, p, rfl, hp, wx⟩ := v3
      subst hp
      obtain ⟨cs4, h4, ft, e4, o4, u4, f4⟩ := copyShard_c (Z := Z) k.i10 k.i13 (o13.le hf) u3 smx
      obtain ⟨b, pb, f, pf, rfl, hq, _⟩ := u3
      have hwl := wx.len
      by_cases c1 : x.state = 1
      case neg =>
        have hb : (x.state != 1) = true := by simpa using c1
        rw [install_no (by simp [installable, c1])]
        simp only [run0, run1, run2, run3, run4, noSlot, ownS, ownK, memN, RO.dst, lk, drop, forget, number, Nat.reduceBEq, cut?, splice?, builds, List.length_cons, List.length_nil, List.drop_succ_cons, List.drop_zero, List.take_succ_cons, List.take_zero, List.cons_append, List.nil_append, List.append_nil, List.drop_nil, List.take_nil, Nat.reduceAdd, Nat.reduceLeDiff, Nat.zero_add, Nat.add_zero, ↓reduceIte, Bool.not_true, Bool.not_false, decide_true, decide_false, eq_self, bne_self_eq_false, List.getElem?_cons_zero, List.getElem?_cons_succ, decide_eq_true_eq, Bool.false_eq_true, Bool.true_eq_false, reduceCtorEq, Nat.le_refl, l1, l2, l3, d1, d2, d3, e1, e2, e3, hb]
        exact ⟨_, _, _, rfl, o13, ⟨y, _, rfl, rfl, w⟩, f1⟩
      have hb : (x.state != 1) = false := by simpa using c1
      by_cases c2 : e ≤ x.epoch
      case pos =>
        have c2' : ¬ x.epoch < e := by omega
        rw [install_no (by simp [installable, c2'])]
        simp only [run0, run1, run2, run3, run4, noSlot, ownS, ownK, memN, RO.dst, lk, drop, forget, number, Nat.reduceBEq, cut?, splice?, builds, List.length_cons, List.length_nil, List.drop_succ_cons, List.drop_zero, List.take_succ_cons, List.take_zero, List.cons_append, List.nil_append, List.append_nil, List.drop_nil, List.take_nil, Nat.reduceAdd, Nat.reduceLeDiff, Nat.zero_add, Nat.add_zero, ↓reduceIte, Bool.not_true, Bool.not_false, decide_true, decide_false, eq_self, bne_self_eq_false, List.getElem?_cons_zero, List.getElem?_cons_succ, decide_eq_true_eq, Bool.false_eq_true, Bool.true_eq_false, reduceCtorEq, Nat.le_refl, l1, l2, l3, d1, d2, d3, e1, e2, e3, hb, c2]
        exact ⟨_, _, _, rfl, o13, ⟨y, _, rfl, rfl, w⟩, f1⟩
      by_cases c3 : ((s.shards.length : Int) == 8) = true
      case pos =>
        rw [install_no (by simp [installable, c3])]
        simp only [run0, run1, run2, run3, run4, noSlot, ownS, ownK, memN, RO.dst, lk, drop, forget, number, Nat.reduceBEq, cut?, splice?, builds, List.length_cons, List.length_nil, List.drop_succ_cons, List.drop_zero, List.take_succ_cons, List.take_zero, List.cons_append, List.nil_append, List.append_nil, List.drop_nil, List.take_nil, Nat.reduceAdd, Nat.reduceLeDiff, Nat.zero_add, Nat.add_zero, ↓reduceIte, Bool.not_true, Bool.not_false, decide_true, decide_false, eq_self, bne_self_eq_false, List.getElem?_cons_zero, List.getElem?_cons_succ, decide_eq_true_eq, Bool.false_eq_true, Bool.true_eq_false, reduceCtorEq, Nat.le_refl, l1, l2, l3, d1, d2, d3, e1, e2, e3, hb, c2, hwl, c3]
        exact ⟨_, _, _, rfl, o13, ⟨y, _, rfl, rfl, w⟩, f1⟩
      have c3' : ((s.shards.length : Int) == 8) = false := by simpa using c3
      have hi : installable s x e = true := by
        have : x.epoch < e := by omega
        simp only [installable, hn, gd, c1, c3', this, decide_true, Bool.true_and, Bool.not_false, beq_self_eq_true]
      simp only [run0, run1, run2, run3, run4, noSlot, ownS, ownK, memN, RO.dst, lk, drop, forget, number, Nat.reduceBEq, cut?, splice?, builds, List.length_cons, List.length_nil, List.drop_succ_cons, List.drop_zero, List.take_succ_cons, List.take_zero, List.cons_append, List.nil_append, List.append_nil, List.drop_nil, List.take_nil, Nat.reduceAdd, Nat.reduceLeDiff, Nat.zero_add, Nat.add_zero, ↓reduceIte, Bool.not_true, Bool.not_false, decide_true, decide_false, eq_self, bne_self_eq_false, List.getElem?_cons_zero, List.getElem?_cons_succ, decide_eq_true_eq, Bool.false_eq_true, Bool.true_eq_false, reduceCtorEq, Nat.le_refl, l1, l2, l3, d1, d2, d3, e1, e2, e3, hb, c2, hwl, c3']
      have key := loop_all (F := F) (Z := Z) (live := [2, 4, 6, 8, 9, 42, 43, 44]) (b := r309L0) s.shards (fun i => ⟨[(2, .c (.int .i64 e)), (9, .c (.int .i64 ((s.shards.take i).countP x.left : Nat))), (42, .c xc), (43, .c (.int .i64 (s.shards.length : Nat))), (44, .c (.int .i64 (i : Nat)))], [(4, 4, 0), (6, 6, 0), (8, 8, 0)], [(4, x.cells b f), (6, [.int .i64 0, .int .i64 0, .nil]), (8, [.int .i64 s.group, .int .i64 s.seen, y])], h3⟩) (fun a => !x.over a) _ (fun i hi => inst_turn wx e b f y hi)
      rw [all_not] at key
      simp only [List.take_zero, List.countP_nil, show ((0 : Nat) : Int) = 0 from rfl, Shard.cells] at key
      rcases key with ⟨a1, a2⟩ | ⟨a1, s', a2, a3, a4, a5, a6⟩
      case inr =>
        rw [install_over (by simpa using a1), a2]
        simp only [run0, run1, run2, run3, run4, noSlot, ownS, ownK, memN, RO.dst, lk, drop, forget, number, Nat.reduceBEq, cut?, splice?, builds, List.length_cons, List.length_nil, List.drop_succ_cons, List.drop_zero, List.take_succ_cons, List.take_zero, List.cons_append, List.nil_append, List.append_nil, List.drop_nil, List.take_nil, Nat.reduceAdd, Nat.reduceLeDiff, Nat.zero_add, Nat.add_zero, ↓reduceIte, Bool.not_true, Bool.not_false, decide_true, decide_false, eq_self, bne_self_eq_false, List.getElem?_cons_zero, List.getElem?_cons_succ, decide_eq_true_eq, Bool.false_eq_true, Bool.true_eq_false, reduceCtorEq, Nat.le_refl, a3, a4, a5, a6]
        exact ⟨_, _, _, rfl, o13, ⟨y, _, rfl, rfl, w⟩, f1⟩
      rw [install_yes hi (by simpa using a1), a2, loop_run]
      conv in (codeF _ _ r309L0 _) => unfold r309L0
      have hlt : ¬ (s.shards.length : Int) < s.shards.length := by omega
      obtain ⟨b4, pb4, f4c, pf4, rfl, hq4, wb4, wf4⟩ := u4
      subst hq4
      obtain ⟨L, ndL⟩ := SlR.lit1 (tag := 16) Shard.okI (h := h4) (cs := [.int .u64 x.lo, .int .u64 x.hi, .int .i64 0, .int .i64 x.epoch, b4, f4c]) (t := x.awake) ⟨b4, pb4, f4c, pf4, rfl, rfl, wb4, wf4⟩ f4.nd
      have o5 := o4.trans (On.push h4 [[.int .u64 x.lo, .int .u64 x.hi, .int .i64 0, .int .i64 x.epoch, b4, f4c]])
      have w5 := w.on Shard.okI o5
      have hlt3 : ∀ id, id ∈ fr → id < h3.next := w.lt Shard.okI
      have fL : Fre h3 (h4.next :: (pb4 ++ pf4)) := ⟨fun id hid => by rcases List.mem_cons.1 hid with rfl | hid; exact o4.ext.1; exact f4.lo id hid, ndL⟩
      have o0 := o13.trans o5
      have hs8 : s.shards.length < 9 := by
        simp only [installable, Store.next, Store.good, Bool.and_eq_true, decide_eq_true_eq] at hi
        omega
      obtain ⟨z, g6, fz, e6, w6, re⟩ := w5.ins Shard.okI f1.nd (f1.own o0 hf) L ndL (fun id hid => by rw [o5.fl]; exact Nat.le_trans (o13.le hf) (fL.lo id hid)) (fun id h1 h2 => by have := hlt3 id h2; have := fL.lo id h1; omega) (by simp) (bytes := 80) (by simp; omega) (by simp [maxLen]; omega) (s.spot_le x)
      have fA : Fre h (fr ++ h4.next :: (pb4 ++ pf4)) := ⟨fun id hid => by
          rcases List.mem_append.1 hid with h1 | h1
          · exact f1.lo id h1
          · exact Nat.le_trans o13.ext.1 (fL.lo id h1), List.nodup_append.2 ⟨f1.nd, ndL, fun a ha b hb eq => by have := hlt3 a ha; have := fL.lo b hb; omega⟩⟩
      have o6 := re.on o0 fA
      have f6 := re.fre o0 fA
      obtain ⟨cs7, h7, e7, m7, v7⟩ := renewed_c (Z := Z) k (s := s.plus x) ⟨z, _, rfl, rfl, w6⟩ f6.nd (f6.own o6 hf) e
      obtain ⟨n1, n2, n3⟩ := Store.lenI v7
      simp only [Store.spot] at e6
      change call F Z 321 [.agg [.int .i64 s.group, .int .i64 s.seen, z], _] g6 = _ at e7
      simp only [run0, run1, run2, run3, run4, noSlot, ownS, ownK, memN, RO.dst, lk, drop, forget, number, Nat.reduceBEq, cut?, splice?, builds, List.length_cons, List.length_nil, List.drop_succ_cons, List.drop_zero, List.take_succ_cons, List.take_zero, List.cons_append, List.nil_append, List.append_nil, List.drop_nil, List.take_nil, Nat.reduceAdd, Nat.reduceLeDiff, Nat.zero_add, Nat.add_zero, ↓reduceIte, Bool.not_true, Bool.not_false, decide_true, decide_false, eq_self, bne_self_eq_false, List.getElem?_cons_zero, List.getElem?_cons_succ, decide_eq_true_eq, Bool.false_eq_true, Bool.true_eq_false, reduceCtorEq, Nat.le_refl, hlt, List.take_length, e4, Shard.cells, List.replicate_succ, List.replicate_zero, fills, and_self, Nat.zero_lt_one, List.set_cons_zero, pr _ _, e6, e7, n1, n2, n3]
      exact ⟨_, _, _, rfl, o6.turned m7 f6, v7, f6⟩
end
end Go.Proofs.Ytlfepembgjjejaa.A
/- A shard is put into a store, the reference's way. -/
namespace Go.Proofs.Ytlfepembgjjejaa.A
open Go
set_option linter.unusedSimpArgs false
set_option linter.unusedVariables false
section
variable {F : Nat → Option RF} {Z : CallF} {h h1 : Heap} {c : Cell} {xs : List Shard} {fp fq fr : List Nat} {cs ds : List Cell} {s : Store} {x t : Shard}
theorem AccM.base {α : Type} {R : Rel α} {tag : Nat} {h0 h1 g : Heap} {y : Cell} {xs : List α} {fp : List Nat} (a : AccM R tag h1 g y xs fp) (o : On h0 h1) : AccM R tag h0 g y xs fp :=
  ⟨o.trans a.on, a.sh, ⟨fun id hid => Nat.le_trans o.ext.1 (a.fr.lo id hid), a.fr.nd⟩⟩
theorem AccM.old {α : Type} {R : Rel α} {tag : Nat} {h0 h1 g : Heap} {y : Cell} {xs : List α} {fp : List Nat} (a : AccM R tag h1 g y xs fp) (h : On h0 h1) {fy : List Nat} (hy : ∀ id, id ∈ fy → id < h1.next) : ∀ id, id ∈ fy → id ∉ fp := fun id h1 h2 => by
  have := hy id h1; have := a.fr.lo id h2; omega
theorem sinst_turn (w : SlR 16 Shard.RI h c s.shards fp) (e1 : call F Z 317 [.agg [.int .i64 s.group, .int .i64 s.seen, c]] h = some (.agg ds, h1)) (hd : ds.length = 3) (e : Int) (b f : Cell) {i : Nat} (hi : i < s.shards.length) :
    Turn (loop F Z [2, 3, 4, 6, 8] r308L1 ⟨[(2, .c (.int .i64 e)), (8, .c (.int .i64 (i : Nat)))], [(3, 3, 0), (4, 4, 0), (6, 6, 0)], [(3, [.int .i64 s.group, .int .i64 s.seen, c]), (4, x.cells b f), (6, [.int .i64 0, .int .i64 0, .nil])], h⟩)
      (loop F Z [2, 3, 4, 6, 8] r308L1 ⟨[(2, .c (.int .i64 e)), (8, .c (.int .i64 ((i + 1 : Nat) : Int)))], [(3, 3, 0), (4, 4, 0), (6, 6, 0)], [(3, [.int .i64 s.group, .int .i64 s.seen, c]), (4, x.cells b f), (6, [.int .i64 0, .int .i64 0, .nil])], h⟩)
      (!x.over s.shards[i]) (fun s' => lk s'.env 7 = some (.c (.bool false)) ∧ lk s'.adr 6 = some (6, 0) ∧ lk s'.loc 6 = some ds ∧ s'.hp = h1) := by
  have hle := w.le2
  have hwl := w.len
  have hlt : (i : Int) < s.shards.length := by omega
  have hws := wrapS i (by omega)
  have hxi := w.idx hi
  obtain ⟨r, q, hld, hR, _⟩ := w.one hi
  obtain ⟨x1, p1, x2, p2, rfl, _⟩ := hR
  clear w
  generalize s.shards[i] = a at *
  obtain ⟨d0, d1, d2, rfl⟩ : ∃ a b c, ds = [a, b, c] := by
    match ds, hd with
    | [a, b, c], _ => exact ⟨a, b, c, rfl⟩
  rw [loop_run]
  conv in (codeF _ _ r308L1 _) => unfold r308L1
  have ho : x.over a = (decide (a.lo ≤ x.hi) && decide (x.lo ≤ a.hi)) := rfl
  simp only [Shard.cells]
  by_cases c1 : a.lo ≤ x.hi
  · by_cases c2 : x.lo ≤ a.hi
    · simp only [run0, run1, run2, run3, run4, noSlot, ownS, ownK, memN, RO.dst, lk, drop, forget, number, Nat.reduceBEq, cut?, splice?, builds, List.length_cons, List.length_nil, List.drop_succ_cons, List.drop_zero, List.take_succ_cons, List.take_zero, List.cons_append, List.nil_append, List.append_nil, List.drop_nil, List.take_nil, Nat.reduceAdd, Nat.reduceLeDiff, Nat.zero_add, Nat.add_zero, ↓reduceIte, Bool.not_true, Bool.not_false, decide_true, decide_false, eq_self, bne_self_eq_false, List.getElem?_cons_zero, List.getElem?_cons_succ, decide_eq_true_eq, Bool.false_eq_true, Bool.true_eq_false, reduceCtorEq, Nat.le_refl, hwl, hlt, hxi, hld, c1, c2, e1]
      exact .inr ⟨by simp [ho, c1, c2], _, rfl, rfl, rfl, rfl, rfl⟩
    · simp only [run0, run1, run2, run3, run4, noSlot, ownS, ownK, memN, RO.dst, lk, drop, forget, number, Nat.reduceBEq, cut?, splice?, builds, List.length_cons, List.length_nil, List.drop_succ_cons, List.drop_zero, List.take_succ_cons, List.take_zero, List.cons_append, List.nil_append, List.append_nil, List.drop_nil, List.take_nil, Nat.reduceAdd, Nat.reduceLeDiff, Nat.zero_add, Nat.add_zero, ↓reduceIte, Bool.not_true, Bool.not_false, decide_true, decide_false, eq_self, bne_self_eq_false, List.getElem?_cons_zero, List.getElem?_cons_succ, decide_eq_true_eq, Bool.false_eq_true, Bool.true_eq_false, reduceCtorEq, Nat.le_refl, hwl, hlt, hxi, hld, c1, c2, hws]
      exact .inl ⟨by simp [ho, c2], rfl⟩
  · simp only [run0, run1, run2, run3, run4, noSlot, ownS, ownK, memN, RO.dst, lk, drop, forget, number, Nat.reduceBEq, cut?, splice?, builds, List.length_cons, List.length_nil, List.drop_succ_cons, List.drop_zero, List.take_succ_cons, List.take_zero, List.cons_append, List.nil_append, List.append_nil, List.drop_nil, List.take_nil, Nat.reduceAdd, Nat.reduceLeDiff, Nat.zero_add, Nat.add_zero, ↓reduceIte, Bool.not_true, Bool.not_false, decide_true, decide_false, eq_self, bne_self_eq_false, List.getElem?_cons_zero, List.getElem?_cons_succ, decide_eq_true_eq, Bool.false_eq_true, Bool.true_eq_false, reduceCtorEq, Nat.le_refl, hwl, hlt, hxi, hld, c1, hws]
    exact .inl ⟨by simp [ho, c1], rfl⟩
theorem Shard.renew_awake (x : Shard) (e : Int) : Shard.renew e { x with state := 0, epoch := e } = Shard.renew e x.awake := rfl
theorem Store.plus_renew (s : Store) (x : Shard) (e : Int) : (⟨s.group, e, s.shards.take (s.spot x) ++ [{ x with state := 0, epoch := e }] ++ s.shards.drop (s.spot x)⟩ : Store).renew e = (s.plus x).renew e := by
  simp only [Store.renew, Store.plus, List.map_append, List.map_cons, List.map_nil, Shard.renew_awake]
set_option maxHeartbeats 2000000 in
theorem sInstallShard_c (k : KS F) (hf : h.floor ≤ h.next) (v : Store.RI h cs s fp) (u : Shard.RI h ds x fq) (e : Int) (ok : s.Ok) (sm : s.Small) (okx : x.Ok) (smx : x.Small) :
    ∃ cs' h' fq, call F Z 308 [.agg cs, .agg ds, .c (.int .i64 e)] h = some (.tup [.agg cs', .c (.bool (installShard s x e).2)], h') ∧ On h h' ∧ Store.RI h' cs' (installShard s x e).1 fq ∧ Fre h fq := by
  obtain ⟨l1, l2, l3⟩ := Store.lenI v
  obtain ⟨d1, d2, d3⟩ := Shard.lenI u
  obtain ⟨cs1, h1, fr, e1, o1, v1, f1⟩ := l13Copy_c (Z := Z) k hf v sm
  obtain ⟨m1, m2, m3⟩ := Store.lenI v1
  have e2 := l13Next_run (Z := Z) k v ok e
  have e3 := l13Shard_run (Z := Z) k.s01 k.s10 k.s13 u okx
  rw [call_run F Z (k.s13.lk (g := 308) rfl) _ _ rfl]
  cases hn : s.next e with
  | false =>
    rw [hn] at e2
    rw [install_no (by simp [installable, hn])]
    simp only [run0, run1, run2, run3, run4, noSlot, ownS, ownK, memN, RO.dst, lk, drop, forget, number, Nat.reduceBEq, cut?, splice?, builds, List.length_cons, List.length_nil, List.drop_succ_cons, List.drop_zero, List.take_succ_cons, List.take_zero, List.cons_append, List.nil_append, List.append_nil, List.drop_nil, List.take_nil, Nat.reduceAdd, Nat.reduceLeDiff, Nat.zero_add, Nat.add_zero, ↓reduceIte, Bool.not_true, Bool.not_false, decide_true, decide_false, eq_self, bne_self_eq_false, List.getElem?_cons_zero, List.getElem?_cons_succ, decide_eq_true_eq, Bool.false_eq_true, Bool.true_eq_false, reduceCtorEq, Nat.le_refl, l1, l2, l3, d1, d2, d3, m1, m2, m3, e1, e2]
    exact ⟨_, _, _, rfl, o1, v1, f1⟩
  | true =>
    rw [hn] at e2
    cases gd : x.good with
    | false =>
      rw [gd] at e3
      rw [install_no (by simp [installable, gd])]
      simp only [run0, run1, run2, run3, run4, noSlot, ownS, ownK, memN, RO.dst, lk, drop, forget, number, Nat.reduceBEq, cut?, splice?, builds, List.length_cons, List.length_nil, List.drop_succ_cons, List.drop_zero, List.take_succ_cons, List.take_zero, List.cons_append, List.nil_append, List.append_nil, List.drop_nil, List.take_nil, Nat.reduceAdd, Nat.reduceLeDiff, Nat.zero_add, Nat.add_zero, ↓reduceIte, Bool.not_true, Bool.not_false, decide_true, decide_false, eq_self, bne_self_eq_false, List.getElem?_cons_zero, List.getElem?_cons_succ, decide_eq_true_eq, Bool.false_eq_true, Bool.true_eq_false, reduceCtorEq, Nat.le_refl, l1, l2, l3, d1, d2, d3, m1, m2, m3, e1, e2, e3]
      exact ⟨_, _, _, rfl, o1, v1, f1⟩
    | true =>
      rw [gd] at e3
      obtain ⟨xc, p, rfl, hp, wx⟩ := v
      subst hp
      obtain ⟨cs4, h4, ft, e4, o4, u4, f4⟩ := l13CopyShard_c (Z := Z) k.s10 k.s13 hf u smx
      obtain ⟨b, pb, f, pf, rfl, hq, _⟩ := u
      have hwl := wx.len
      by_cases c1 : x.state = 1
      case neg =>
        have hb : (x.state != 1) = true := by simpa using c1
        rw [install_no (by simp [installable, c1])]
        simp only [run0, run1, run2, run3, run4, noSlot, ownS, ownK, memN, RO.dst, lk, drop, forget, number, Nat.reduceBEq, cut?, splice?, builds, List.length_cons, List.length_nil, List.drop_succ_cons, List.drop_zero, List.take_succ_cons, List.take_zero, List.cons_append, List.nil_append, List.append_nil, List.drop_nil, List.take_nil, Nat.reduceAdd, Nat.reduceLeDiff, Nat.zero_add, Nat.add_zero, ↓reduceIte, Bool.not_true, Bool.not_false, decide_true, decide_false, eq_self, bne_self_eq_false, List.getElem?_cons_zero, List.getElem?_cons_succ, decide_eq_true_eq, Bool.false_eq_true, Bool.true_eq_false, reduceCtorEq, Nat.le_refl, l1, l2, l3, d1, d2, d3, m1, m2, m3, e1, e2, e3, hb]
        exact ⟨_, _, _, rfl, o1, v1, f1⟩
      have hb : (x.state != 1) = false := by simpa using c1
      by_cases c2 : e ≤ x.epoch
      case pos =>
        have c2' : ¬ x.epoch < e := by omega
        rw [install_no (by simp [installable, c2'])]
        simp only [run0, run1, run2, run3, run4, noSlot, ownS, ownK, memN, RO.dst, lk, drop, forget, number, Nat.reduceBEq, cut?, splice?, builds, List.length_cons, List.length_nil, List.drop_succ_cons, List.drop_zero, List.take_succ_cons, List.take_zero, List.cons_append, List.nil_append, List.append_nil, List.drop_nil, List.take_nil, Nat.reduceAdd, Nat.reduceLeDiff, Nat.zero_add, Nat.add_zero, ↓reduceIte, Bool.not_true, Bool.not_false, decide_true, decide_false, eq_self, bne_self_eq_false, List.getElem?_cons_zero, List.getElem?_cons_succ, decide_eq_true_eq, Bool.false_eq_true, Bool.true_eq_false, reduceCtorEq, Nat.le_refl, l1, l2, l3, d1, d2, d3, m1, m2, m3, e1, e2, e3, hb, c2]
        exact ⟨_, _, _, rfl, o1, v1, f1⟩
      by_cases c3 : ((s.shards.length : Int) == 8) = true
      case pos =>
        rw [install_no (by simp [installable, c3])]
        simp only [run0, run1, run2, run3, run4, noSlot, ownS, ownK, memN, RO.dst, lk, drop, forget, number, Nat.reduceBEq, cut?, splice?, builds, List.length_cons, List.length_nil, List.drop_succ_cons, List.drop_zero, List.take_succ_cons, List.take_zero, List.cons_append, List.nil_append, List.append_nil, List.drop_nil, List.take_nil, Nat.reduceAdd, Nat.reduceLeDiff, Nat.zero_add, Nat.add_zero, ↓reduceIte, Bool.not_true, Bool.not_false, decide_true, decide_false, eq_self, bne_self_eq_false, List.getElem?_cons_zero, List.getElem?_cons_succ, decide_eq_true_eq, Bool.false_eq_true, Bool.true_eq_false, reduceCtorEq, Nat.le_refl, l1, l2, l3, d1, d2, d3, m1, m2, m3, e1, e2, e3, hb, c2, hwl, c3]
        exact ⟨_, _, _, rfl, o1, v1, f1⟩
      have c3' : ((s.shards.length : Int) == 8) = false := by simpa using c3
      have hi : installable s x e = true := by
        have : x.epoch < e := by omega
        simp only [installable, hn, gd, c1, c3', this, decide_true, Bool.true_and, Bool.not_false, beq_self_eq_true]
      simp only [run0, run1, run2, run3, run4, noSlot, ownS, ownK, memN, RO.dst, lk, drop, forget, number, Nat.reduceBEq, cut?, splice?, builds, List.length_cons, List.length_nil, List.drop_succ_cons, List.drop_zero, List.take_succ_cons, List.take_zero, List.cons_append, List.nil_append, List.append_nil, List.drop_nil, List.take_nil, Nat.reduceAdd, Nat.reduceLeDiff, Nat.zero_add, Nat.add_zero, ↓reduceIte, Bool.not_true, Bool.not_false, decide_true, decide_false, eq_self, bne_self_eq_false, List.getElem?_cons_zero, List.getElem?_cons_succ, decide_eq_true_eq, Bool.false_eq_true, Bool.true_eq_false, reduceCtorEq, Nat.le_refl, l1, l2, l3, d1, d2, d3, e2, e3, hb, c2, hwl, c3']
      have key := loop_all (F := F) (Z := Z) (live := [2, 3, 4, 6, 8]) (b := r308L1) s.shards (fun i => ⟨[(2, .c (.int .i64 e)), (8, .c (.int .i64 (i : Nat)))], [(3, 3, 0), (4, 4, 0), (6, 6, 0)], [(3, [.int .i64 s.group, .int .i64 s.seen, xc]), (4, x.cells b f), (6, [.int .i64 0, .int .i64 0, .nil])], h⟩) (fun a => !x.over a) _ (fun i hi => sinst_turn wx e1 m1 e b f hi)
      rw [all_not] at key
      simp only [show ((0 : Nat) : Int) = 0 from rfl, Shard.cells] at key
      rcases key with ⟨a1, a2⟩ | ⟨a1, s', a2, a3, a4, a5, a6⟩
      case inr =>
        rw [install_over (by simpa using a1), a2]
        simp only [run0, run1, run2, run3, run4, noSlot, ownS, ownK, memN, RO.dst, lk, drop, forget, number, Nat.reduceBEq, cut?, splice?, builds, List.length_cons, List.length_nil, List.drop_succ_cons, List.drop_zero, List.take_succ_cons, List.take_zero, List.cons_append, List.nil_append, List.append_nil, List.drop_nil, List.take_nil, Nat.reduceAdd, Nat.reduceLeDiff, Nat.zero_add, Nat.add_zero, ↓reduceIte, Bool.not_true, Bool.not_false, decide_true, decide_false, eq_self, bne_self_eq_false, List.getElem?_cons_zero, List.getElem?_cons_succ, decide_eq_true_eq, Bool.false_eq_true, Bool.true_eq_false, reduceCtorEq, Nat.le_refl, a3, a4, a5, a6, m1, m2, m3]
        exact ⟨_, _, _, rfl, o1, v1, f1⟩
      have ho : s.shards.any x.over = false := by simpa using a1
      have hgood : s.good = true := by
        simp only [Store.next, Bool.and_eq_true] at hn
        exact hn.1
      rw [install_yes hi ho, a2, loop_run]
      conv in (codeF _ _ r308L1 _) => unfold r308L1
      have hlt : ¬ (s.shards.length : Int) < s.shards.length := by omega
      obtain ⟨b4, pb4, f4c, pf4, rfl, hq4, wb4, wf4⟩ := u4
      subst hq4
      have hs8 : s.shards.length < 9 := by
        simp only [installable, Store.next, Store.good, Bool.and_eq_true, decide_eq_true_eq] at hi
        omega
      have hy : Shard.RI h4 [.int .u64 x.lo, .int .u64 x.hi, .int .i64 0, .int .i64 e, b4, f4c] { x with state := 0, epoch := e } (pb4 ++ pf4) := ⟨b4, pb4, f4c, pf4, rfl, rfl, wb4, wf4⟩
      have hylt : ∀ id, id ∈ pb4 ++ pf4 → id < h4.next := Shard.okI.lt hy
      simp only [run0, run1, run2, run3, run4, noSlot, ownS, ownK, memN, RO.dst, lk, drop, forget, number, Nat.reduceBEq, cut?, splice?, builds, List.length_cons, List.length_nil, List.drop_succ_cons, List.drop_zero, List.take_succ_cons, List.take_zero, List.cons_append, List.nil_append, List.append_nil, List.drop_nil, List.take_nil, Nat.reduceAdd, Nat.reduceLeDiff, Nat.zero_add, Nat.add_zero, ↓reduceIte, Bool.not_true, Bool.not_false, decide_true, decide_false, eq_self, bne_self_eq_false, List.getElem?_cons_zero, List.getElem?_cons_succ, decide_eq_true_eq, Bool.false_eq_true, Bool.true_eq_false, reduceCtorEq, Nat.le_refl, hwl, hlt, e4]
      clear a2 e2 e3 d1 d2 d3 l1 l2 l3 m1 m2 m3 e1 o1 v1 f1 e4
      obtain ⟨s', ⟨y, g, fq, hs, a, ap⟩, lp⟩ := loop_goes (F := F) (Z := Z) (live := [2, 3, 6, 9, 10, 11, 12]) (b := r308L0) s.shards.length (fun i st => ∃ y g fq, st = ⟨[(2, .c (.int .i64 e)), (11, .c (.bool (decide (s.spot x < i)))), (12, .c (.int .i64 (i : Nat)))], [(3, 3, 0), (6, 6, 0), (9, 9, 0), (10, 10, 0)], [(3, [.int .i64 s.group, .int .i64 s.seen, xc]), (6, [.int .i64 0, .int .i64 0, .nil]), (9, [.int .i64 s.group, .int .i64 e, y]), (10, [.int .u64 x.lo, .int .u64 x.hi, .int .i64 0, .int .i64 e, b4, f4c])], g⟩ ∧
          AccM Shard.RI 16 h g y (s.part { x with state := 0, epoch := e } (s.spot x) i) fq ∧ (i ≤ s.spot x → AccM Shard.RI 16 h4 g y (s.part { x with state := 0, epoch := e } (s.spot x) i) fq)) (fun i st hi ⟨y, g, fq, hs, a, ap⟩ => by
        subst hs
        have hlt : (i : Int) < s.shards.length := by omega
        have hle := wx.le2
        have hws := wrapS i (by omega)
        have hxi := wx.idx hi
        have hgt := Store.spot_gt hgood gd ho hi
        have hpl := s.part_len { x with state := 0, epoch := e } (s.spot x) i
        obtain ⟨q1, qf, hld0, hR0, _⟩ := (wx.on Shard.okI a.on).one hi
        rw [loop_run]
        conv in (codeF _ _ r308L0 _) => unfold r308L0
        by_cases hp : s.spot x < i
        · obtain ⟨r1, r2, r3⟩ := Shard.lenI hR0
          obtain ⟨cs', h', g1, fr, e1, hg1, o1, u1, f1, c1⟩ := l13CopyShard_q (Z := Z) k.s10 k.s13 hR0 (sm.2 _ (List.getElem_mem hi))
          obtain ⟨y', g', fp', e2, a2⟩ := a.next hf (by omega) o1 u1 f1
          rw [← Store.part_yes hi hp] at a2
          have hd1 : decide (s.spot x < i) = true := by simpa using hp
          have hd2 : decide (s.spot x < i + 1) = true := by simp; omega
          simp only [run0, run1, run2, run3, run4, noSlot, ownS, ownK, memN, RO.dst, lk, drop, forget, number, Nat.reduceBEq, cut?, splice?, builds, List.length_cons, List.length_nil, List.drop_succ_cons, List.drop_zero, List.take_succ_cons, List.take_zero, List.cons_append, List.nil_append, List.append_nil, List.drop_nil, List.take_nil, Nat.reduceAdd, Nat.reduceLeDiff, Nat.zero_add, Nat.add_zero, ↓reduceIte, Bool.not_true, Bool.not_false, decide_true, decide_false, eq_self, bne_self_eq_false, List.getElem?_cons_zero, List.getElem?_cons_succ, decide_eq_true_eq, Bool.false_eq_true, Bool.true_eq_false, reduceCtorEq, Nat.le_refl, hwl, hlt, hxi, hd1, hd2, hld0, r1, r2, r3, e1, hg1, List.replicate_succ, List.replicate_zero, fills, and_self, Nat.zero_lt_one, c1, List.set_cons_zero, e2, hws]
          exact ⟨_, ⟨_, _, _, rfl, a2, fun hc => by omega⟩, rfl⟩
        · have hd1 : decide (s.spot x < i) = false := by simpa using hp
          have ap := ap (by omega)
          have hR0' := hR0
          obtain ⟨z1, zp1, z2, zp2, rfl, _⟩ := hR0'
          by_cases hq : s.spot x = i
          · subst hq
            have hgt' : s.shards[s.spot x].lo > x.lo := hgt.2 (Nat.le_refl _)
            obtain ⟨y', g', fp', e2, a2, _⟩ := a.one (g := g) Shard.okI hf (bytes := 80) (by omega) (by omega) (On.refl g) (Shard.okI.on hy ap.on) ⟨fun id hid => f4.lo id hid, f4.nd⟩ (ap.old (On.refl h4) hylt)
            obtain ⟨q2, qf2, hld2, hR2, _⟩ := (wx.on Shard.okI a2.on).one hi
            obtain ⟨r1, r2, r3⟩ := Shard.lenI hR2
            obtain ⟨cs', h', g1, fr, e1, hg1, o1, u1, f1, c1⟩ := l13CopyShard_q (Z := Z) k.s10 k.s13 hR2 (sm.2 _ (List.getElem_mem hi))
            obtain ⟨y3, g3, fp3, e3, a3⟩ := a2.next hf (by simp; omega) o1 u1 f1
            rw [← Store.part_at hi] at a3
            have hd2 : decide (s.spot x < s.spot x + 1) = true := by simp
            simp only [run0, run1, run2, run3, run4, noSlot, ownS, ownK, memN, RO.dst, lk, drop, forget, number, Nat.reduceBEq, cut?, splice?, builds, List.length_cons, List.length_nil, List.drop_succ_cons, List.drop_zero, List.take_succ_cons, List.take_zero, List.cons_append, List.nil_append, List.append_nil, List.drop_nil, List.take_nil, Nat.reduceAdd, Nat.reduceLeDiff, Nat.zero_add, Nat.add_zero, ↓reduceIte, Bool.not_true, Bool.not_false, decide_true, decide_false, eq_self, bne_self_eq_false, List.getElem?_cons_zero, List.getElem?_cons_succ, decide_eq_true_eq, Bool.false_eq_true, Bool.true_eq_false, reduceCtorEq, Nat.le_refl, hwl, hlt, hxi, hd1, hd2, hld0, hgt', List.replicate_succ, List.replicate_zero, fills, and_self, Nat.zero_lt_one, List.set_cons_zero, e2, hld2, r1, r2, r3, e1, hg1, c1, e3, hws]
            exact ⟨_, ⟨_, _, _, rfl, a3, fun hc => by omega⟩, rfl⟩
          · have hgt' : ¬ s.shards[i].lo > x.lo := fun hc => by have := hgt.1 hc; omega
            obtain ⟨r1, r2, r3⟩ := Shard.lenI hR0
            obtain ⟨cs', h', g1, fr, e1, hg1, o1, u1, f1, c1⟩ := l13CopyShard_q (Z := Z) k.s10 k.s13 hR0 (sm.2 _ (List.getElem_mem hi))
            obtain ⟨y', g', fp', e2, a2⟩ := ap.next (o4.le hf) (by omega) o1 u1 f1
            rw [← Store.part_no hi (by omega)] at a2
            have hd2 : decide (s.spot x < i + 1) = false := by simp; omega
            simp only [run0, run1, run2, run3, run4, noSlot, ownS, ownK, memN, RO.dst, lk, drop, forget, number, Nat.reduceBEq, cut?, splice?, builds, List.length_cons, List.length_nil, List.drop_succ_cons, List.drop_zero, List.take_succ_cons, List.take_zero, List.cons_append, List.nil_append, List.append_nil, List.drop_nil, List.take_nil, Nat.reduceAdd, Nat.reduceLeDiff, Nat.zero_add, Nat.add_zero, ↓reduceIte, Bool.not_true, Bool.not_false, decide_true, decide_false, eq_self, bne_self_eq_false, List.getElem?_cons_zero, List.getElem?_cons_succ, decide_eq_true_eq, Bool.false_eq_true, Bool.true_eq_false, reduceCtorEq, Nat.le_refl, hwl, hlt, hxi, hd1, hd2, hld0, hgt', r1, r2, r3, e1, hg1, List.replicate_succ, List.replicate_zero, fills, and_self, Nat.zero_lt_one, c1, List.set_cons_zero, e2, hws]
            exact ⟨_, ⟨_, _, _, rfl, a2.base o4, fun _ => a2⟩, rfl⟩) (s := ⟨[(2, .c (.int .i64 e)), (11, .c (.bool false)), (12, .c (.int .i64 (0 : Nat)))], [(3, 3, 0), (6, 6, 0), (9, 9, 0), (10, 10, 0)], [(3, [.int .i64 s.group, .int .i64 s.seen, xc]), (6, [.int .i64 0, .int .i64 0, .nil]), (9, [.int .i64 s.group, .int .i64 e, .nil]), (10, [.int .u64 x.lo, .int .u64 x.hi, .int .i64 0, .int .i64 e, b4, f4c])], h4⟩) ⟨.nil, h4, [], by simp, by simpa [Store.part] using AccM.none Shard.RI 16 o4, fun _ => by simpa [Store.part] using AccM.nil Shard.RI 16 h4⟩
      subst hs
      simp only [show ((0 : Nat) : Int) = 0 from rfl] at lp
      have hlt : ¬ (s.shards.length : Int) < s.shards.length := by omega
      rw [lp, loop_run]
      conv in (codeF _ _ r308L0 _) => unfold r308L0
      have hfin : ∀ {z : Cell} {g' : Heap} {fz : List Nat}, AccM Shard.RI 16 h g' z (s.shards.take (s.spot x) ++ [{ x with state := 0, epoch := e }] ++ s.shards.drop (s.spot x)) fz →
          ∃ cs5 h5 f5, call F Z 318 [.agg [.int .i64 s.group, .int .i64 e, z], .c (.int .i64 e)] g' = some (.agg cs5, h5) ∧ On h h5 ∧ Store.RI h5 cs5 ((s.plus x).renew e) f5 ∧ Fre h f5 ∧ cs5.length = 3 ∧ cs5.take 3 = cs5 ∧ cs5.drop 3 = [] := fun {z g' fz} az => by
        obtain ⟨cs5, h5, f5, e5, o5, v5, r5⟩ := l13Renew_c (Z := Z) k (s := ⟨s.group, e, s.shards.take (s.spot x) ++ [{ x with state := 0, epoch := e }] ++ s.shards.drop (s.spot x)⟩) (az.on.le hf) ⟨z, _, rfl, rfl, az.sh⟩ (by
          refine ⟨?_, fun a ha => ?_⟩
          · simp only [List.length_append, List.length_take, List.length_drop, List.length_cons, List.length_nil]; omega
          · simp only [List.mem_append, List.mem_singleton] at ha
            rcases ha with (ha | ha) | ha
            · exact sm.2 a (List.mem_of_mem_take ha)
            · subst ha; exact smx
            · exact sm.2 a (List.mem_of_mem_drop ha)) e
        rw [Store.plus_renew] at v5
        obtain ⟨n1, n2, n3⟩ := Store.lenI v5
        exact ⟨cs5, h5, f5, e5, az.on.trans o5, v5, ⟨fun id hid => Nat.le_trans az.on.ext.1 (r5.lo id hid), r5.nd⟩, n1, n2, n3⟩
      by_cases hp : s.spot x < s.shards.length
      · rw [Store.part_end hp] at a
        obtain ⟨cs5, h5, f5, e5, o5, v5, r5, n1, n2, n3⟩ := hfin a
        have hd1 : decide (s.spot x < s.shards.length) = true := by simpa using hp
        simp only [run0, run1, run2, run3, run4, noSlot, ownS, ownK, memN, RO.dst, lk, drop, forget, number, Nat.reduceBEq, cut?, splice?, builds, List.length_cons, List.length_nil, List.drop_succ_cons, List.drop_zero, List.take_succ_cons, List.take_zero, List.cons_append, List.nil_append, List.append_nil, List.drop_nil, List.take_nil, Nat.reduceAdd, Nat.reduceLeDiff, Nat.zero_add, Nat.add_zero, ↓reduceIte, Bool.not_true, Bool.not_false, decide_true, decide_false, eq_self, bne_self_eq_false, List.getElem?_cons_zero, List.getElem?_cons_succ, decide_eq_true_eq, Bool.false_eq_true, Bool.true_eq_false, reduceCtorEq, Nat.le_refl, hwl, hlt, hd1, e5, n1, n2, n3]
        exact ⟨_, _, _, rfl, o5, v5, r5⟩
      · have hp' : s.spot x = s.shards.length := by have := s.spot_le x; omega
        have ap := ap (by omega)
        have hpl := s.part_len { x with state := 0, epoch := e } (s.spot x) s.shards.length
        obtain ⟨y', g', fp', e2, a2, _⟩ := a.one (g := g) Shard.okI hf (bytes := 80) (by omega) (by omega) (On.refl g) (Shard.okI.on hy ap.on) ⟨fun id hid => f4.lo id hid, f4.nd⟩ (ap.old (On.refl h4) hylt)
        rw [Store.part_last hp'] at a2
        obtain ⟨cs5, h5, f5, e5, o5, v5, r5, n1, n2, n3⟩ := hfin a2
        have hd1 : decide (s.spot x < s.shards.length) = false := by simpa using hp
        simp only [run0, run1, run2, run3, run4, noSlot, ownS, ownK, memN, RO.dst, lk, drop, forget, number, Nat.reduceBEq, cut?, splice?, builds, List.length_cons, List.length_nil, List.drop_succ_cons, List.drop_zero, List.take_succ_cons, List.take_zero, List.cons_append, List.nil_append, List.append_nil, List.drop_nil, List.take_nil, Nat.reduceAdd, Nat.reduceLeDiff, Nat.zero_add, Nat.add_zero, ↓reduceIte, Bool.not_true, Bool.not_false, decide_true, decide_false, eq_self, bne_self_eq_false, List.getElem?_cons_zero, List.getElem?_cons_succ, decide_eq_true_eq, Bool.false_eq_true, Bool.true_eq_false, reduceCtorEq, Nat.le_refl, hwl, hlt, hd1, List.replicate_succ, List.replicate_zero, fills, and_self, Nat.zero_lt_one, List.set_cons_zero, e2, e5, n1, n2, n3]
        exact ⟨_, _, _, rfl, o5, v5, r5⟩
end
end Go.Proofs.Ytlfepembgjjejaa.A
/- A part of a shard. -/
namespace Go.Proofs.Ytlfepembgjjejaa.A
open Go
set_option linter.unusedSimpArgs false
set_option linter.unusedVariables false
def Account.inside (lo hi : Int) (a : Account) : Bool := decide (lo ≤ a.id) && decide (a.id ≤ hi)
def Fin.inside (lo hi : Int) (a : Fin) : Bool := decide (lo ≤ a.id) && decide (a.id ≤ hi)
def Shard.within (x : Shard) (lo hi e : Int) : Shard := ⟨lo, hi, x.state, e, ⟨x.book.list.filter (Account.inside lo hi)⟩, x.finished.filter (Fin.inside lo hi)⟩
theorem Shard.within_small {x : Shard} (sm : x.Small) (lo hi e : Int) : (x.within lo hi e).Small :=
  ⟨Nat.le_trans (List.length_filter_le _ _) sm.1, Nat.le_trans (List.length_filter_le _ _) sm.2⟩
section
variable {F : Nat → Option RF} {Z : CallF} {h : Heap} {cs : List Cell} {fp : List Nat} {t : Shard}
set_option maxHeartbeats 1000000 in
theorem l13Within_c (hS13 : Has F tS13) (hf : h.floor ≤ h.next) (v : Shard.RI h cs t fp) (sm : t.Small) (lo hi e : Int) :
    ∃ cs' h' fq, call F Z 333 [.agg cs, .c (.int .u64 lo), .c (.int .u64 hi), .c (.int .i64 e)] h = some (.agg cs', h') ∧ On h h' ∧ Shard.RI h' cs' (t.within lo hi e) fq ∧ Fre h fq := by
  obtain ⟨x, p, z, q, rfl, rfl, w, u⟩ := v
  obtain ⟨sm1, sm2⟩ := sm
  have sm1 : t.book.list.length ≤ 1048576 := sm1
  have hwl := w.len
  have hul := u.len
  have hwe := w.le2
  have hue := u.le2
  rw [call_run F Z (hS13.lk (g := 333) rfl) _ _ rfl]
  simp only [run0, run1, run2, run3, run4, noSlot, ownS, ownK, memN, RO.dst, lk, drop, forget, number, Nat.reduceBEq, cut?, splice?, builds, List.length_cons, List.length_nil, List.drop_succ_cons, List.drop_zero, List.take_succ_cons, List.take_zero, List.cons_append, List.nil_append, List.append_nil, List.drop_nil, List.take_nil, Nat.reduceAdd, Nat.reduceLeDiff, Nat.zero_add, Nat.add_zero, ↓reduceIte, Bool.not_true, Bool.not_false, decide_true, decide_false, eq_self, bne_self_eq_false, List.getElem?_cons_zero, List.getElem?_cons_succ, decide_eq_true_eq, Bool.false_eq_true, Bool.true_eq_false, reduceCtorEq, Nat.le_refl]
  obtain ⟨s', ⟨y, g, hs, a⟩, lp⟩ := loop_goes (F := F) (Z := Z) (live := [1, 2, 4, 8, 9, 10]) (b := r333L1) t.book.list.length (fun i st => ∃ y g, st = ⟨[(1, .c (.int .u64 lo)), (2, .c (.int .u64 hi)), (10, .c (.int .i64 (i : Nat)))], [(4, 4, 0), (8, 8, 0), (9, 9, 0)], [(4, [.int .u64 t.lo, .int .u64 t.hi, .int .i64 t.state, .int .i64 t.epoch, x, z]), (8, [.int .u64 0, .int .u64 0, .int .i64 0, .int .i64 0, .nil, .nil]), (9, [.int .u64 lo, .int .u64 hi, .int .i64 t.state, .int .i64 e, y, .nil])], g⟩ ∧ Acc 11 h g y (((t.book.list.take i).filter (Account.inside lo hi)).map Account.enc)) (fun i st hi' ⟨y, g, hs, a⟩ => by
    subst hs
    have hlt : (i : Int) < t.book.list.length := by omega
    have hws := wrapS i (by omega)
    have hxi := w.idx hi'
    have hld := (w.on (Fl.ok _) a.on).load hi'
    have hfn := filter_next (Account.inside lo hi) hi'
    have hfl := filter_len (Account.inside lo hi) t.book.list i
    rw [loop_run]
    conv in (codeF _ _ r333L1 _) => unfold r333L1
    have hd : Account.inside lo hi t.book.list[i] = (decide (lo ≤ t.book.list[i].id) && decide (t.book.list[i].id ≤ hi)) := rfl
    generalize t.book.list[i] = b at *
    by_cases c1 : b.id ≥ lo
    · have c1' : lo ≤ b.id := c1
      by_cases c2 : b.id ≤ hi
      · have e3 := a.one_eq hf (bytes := 40) (by rw [List.length_map]; omega) b.enc
        have a2 := a.one hf (by rw [List.length_map]; omega) b.enc
        have hm : ((t.book.list.take i).filter (Account.inside lo hi)).map Account.enc ++ [b.enc] = ((t.book.list.take (i + 1)).filter (Account.inside lo hi)).map Account.enc := by
          rw [hfn, hd]; simp [c1', c2]
        rw [hm] at a2
        simp only [Account.enc] at hld e3 a2
        simp only [run0, run1, run2, run3, run4, noSlot, ownS, ownK, memN, RO.dst, lk, drop, forget, number, Nat.reduceBEq, cut?, splice?, builds, List.length_cons, List.length_nil, List.drop_succ_cons, List.drop_zero, List.take_succ_cons, List.take_zero, List.cons_append, List.nil_append, List.append_nil, List.drop_nil, List.take_nil, Nat.reduceAdd, Nat.reduceLeDiff, Nat.zero_add, Nat.add_zero, ↓reduceIte, Bool.not_true, Bool.not_false, decide_true, decide_false, eq_self, bne_self_eq_false, List.getElem?_cons_zero, List.getElem?_cons_succ, decide_eq_true_eq, Bool.false_eq_true, Bool.true_eq_false, reduceCtorEq, Nat.le_refl, hwl, hlt, hxi, hld, c1, c2, List.replicate_succ, List.replicate_zero, fills, and_self, Nat.zero_lt_one, List.set_cons_zero, e3, hws, Account.enc]
        exact ⟨_, ⟨_, _, rfl, a2⟩, rfl⟩
      · have hm : ((t.book.list.take (i + 1)).filter (Account.inside lo hi)) = ((t.book.list.take i).filter (Account.inside lo hi)) := by
          rw [hfn, hd]; simp [c2]
        rw [← hm] at a
        simp only [Account.enc] at hld
        simp only [run0, run1, run2, run3, run4, noSlot, ownS, ownK, memN, RO.dst, lk, drop, forget, number, Nat.reduceBEq, cut?, splice?, builds, List.length_cons, List.length_nil, List.drop_succ_cons, List.drop_zero, List.take_succ_cons, List.take_zero, List.cons_append, List.nil_append, List.append_nil, List.drop_nil, List.take_nil, Nat.reduceAdd, Nat.reduceLeDiff, Nat.zero_add, Nat.add_zero, ↓reduceIte, Bool.not_true, Bool.not_false, decide_true, decide_false, eq_self, bne_self_eq_false, List.getElem?_cons_zero, List.getElem?_cons_succ, decide_eq_true_eq, Bool.false_eq_true, Bool.true_eq_false, reduceCtorEq, Nat.le_refl, hwl, hlt, hxi, hld, c1, c2, hws]
        exact ⟨_, ⟨_, _, rfl, a⟩, rfl⟩
    · have hm : ((t.book.list.take (i + 1)).filter (Account.inside lo hi)) = ((t.book.list.take i).filter (Account.inside lo hi)) := by
        have c1' : ¬ lo ≤ b.id := c1
        rw [hfn, hd]; simp [c1']
      rw [← hm] at a
      simp only [Account.enc] at hld
      simp only [run0, run1, run2, run3, run4, noSlot, ownS, ownK, memN, RO.dst, lk, drop, forget, number, Nat.reduceBEq, cut?, splice?, builds, List.length_cons, List.length_nil, List.drop_succ_cons, List.drop_zero, List.take_succ_cons, List.take_zero, List.cons_append, List.nil_append, List.append_nil, List.drop_nil, List.take_nil, Nat.reduceAdd, Nat.reduceLeDiff, Nat.zero_add, Nat.add_zero, ↓reduceIte, Bool.not_true, Bool.not_false, decide_true, decide_false, eq_self, bne_self_eq_false, List.getElem?_cons_zero, List.getElem?_cons_succ, decide_eq_true_eq, Bool.false_eq_true, Bool.true_eq_false, reduceCtorEq, Nat.le_refl, hwl, hlt, hxi, hld, c1, hws]
      exact ⟨_, ⟨_, _, rfl, a⟩, rfl⟩) (s := ⟨[(1, .c (.int .u64 lo)), (2, .c (.int .u64 hi)), (10, .c (.int .i64 (0 : Nat)))], [(4, 4, 0), (8, 8, 0), (9, 9, 0)], [(4, [.int .u64 t.lo, .int .u64 t.hi, .int .i64 t.state, .int .i64 t.epoch, x, z]), (8, [.int .u64 0, .int .u64 0, .int .i64 0, .int .i64 0, .nil, .nil]), (9, [.int .u64 lo, .int .u64 hi, .int .i64 t.state, .int .i64 e, .nil, .nil])], h⟩) ⟨_, _, rfl, by simpa using Acc.nil 11 h⟩
  subst hs
  rw [List.take_length] at a
  obtain ⟨o1, fy, wy, fyr⟩ := a.flat (enc := Account.enc)
  simp only [show ((0 : Nat) : Int) = 0 from rfl] at lp
  have hlt : ¬ (t.book.list.length : Int) < t.book.list.length := by omega
  rw [lp, loop_run]
  conv in (codeF _ _ r333L1 _) => unfold r333L1
  simp only [run0, run1, run2, run3, run4, noSlot, ownS, ownK, memN, RO.dst, lk, drop, forget, number, Nat.reduceBEq, cut?, splice?, builds, List.length_cons, List.length_nil, List.drop_succ_cons, List.drop_zero, List.take_succ_cons, List.take_zero, List.cons_append, List.nil_append, List.append_nil, List.drop_nil, List.take_nil, Nat.reduceAdd, Nat.reduceLeDiff, Nat.zero_add, Nat.add_zero, ↓reduceIte, Bool.not_true, Bool.not_false, decide_true, decide_false, eq_self, bne_self_eq_false, List.getElem?_cons_zero, List.getElem?_cons_succ, decide_eq_true_eq, Bool.false_eq_true, Bool.true_eq_false, reduceCtorEq, Nat.le_refl, hwl, hlt]
  clear lp a
  have u1 := u.on (Fl.ok _) o1
  obtain ⟨s', ⟨z', g', hs, a⟩, lp⟩ := loop_goes (F := F) (Z := Z) (live := [1, 2, 4, 8, 9, 11]) (b := r333L0) t.finished.length (fun i st => ∃ z' g', st = ⟨[(1, .c (.int .u64 lo)), (2, .c (.int .u64 hi)), (11, .c (.int .i64 (i : Nat)))], [(4, 4, 0), (8, 8, 0), (9, 9, 0)], [(4, [.int .u64 t.lo, .int .u64 t.hi, .int .i64 t.state, .int .i64 t.epoch, x, z]), (8, [.int .u64 0, .int .u64 0, .int .i64 0, .int .i64 0, .nil, .nil]), (9, [.int .u64 lo, .int .u64 hi, .int .i64 t.state, .int .i64 e, y, z'])], g'⟩ ∧ Acc 9 g g' z' (((t.finished.take i).filter (Fin.inside lo hi)).map Fin.enc)) (fun i st hi' ⟨z', g', hs, a⟩ => by
    subst hs
    have hlt : (i : Int) < t.finished.length := by omega
    have hws := wrapS i (by omega)
    have hxi := u.idx hi'
    have hld := (u1.on (Fl.ok _) a.on).load hi'
    have hfn := filter_next (Fin.inside lo hi) hi'
    have hfl := filter_len (Fin.inside lo hi) t.finished i
    have hf1 := o1.le hf
    rw [loop_run]
    conv in (codeF _ _ r333L0 _) => unfold r333L0
    have hd : Fin.inside lo hi t.finished[i] = (decide (lo ≤ t.finished[i].id) && decide (t.finished[i].id ≤ hi)) := rfl
    generalize t.finished[i] = b at *
    by_cases c1 : b.id ≥ lo
    · have c1' : lo ≤ b.id := c1
      by_cases c2 : b.id ≤ hi
      · have e3 := a.one_eq hf1 (bytes := 16) (by rw [List.length_map]; omega) b.enc
        have a2 := a.one hf1 (by rw [List.length_map]; omega) b.enc
        have hm : ((t.finished.take i).filter (Fin.inside lo hi)).map Fin.enc ++ [b.enc] = ((t.finished.take (i + 1)).filter (Fin.inside lo hi)).map Fin.enc := by
          rw [hfn, hd]; simp [c1', c2]
        rw [hm] at a2
        simp only [Fin.enc] at hld e3 a2
        simp only [run0, run1, run2, run3, run4, noSlot, ownS, ownK, memN, RO.dst, lk, drop, forget, number, Nat.reduceBEq, cut?, splice?, builds, List.length_cons, List.length_nil, List.drop_succ_cons, List.drop_zero, List.take_succ_cons, List.take_zero, List.cons_append, List.nil_append, List.append_nil, List.drop_nil, List.take_nil, Nat.reduceAdd, Nat.reduceLeDiff, Nat.zero_add, Nat.add_zero, ↓reduceIte, Bool.not_true, Bool.not_false, decide_true, decide_false, eq_self, bne_self_eq_false, List.getElem?_cons_zero, List.getElem?_cons_succ, decide_eq_true_eq, Bool.false_eq_true, Bool.true_eq_false, reduceCtorEq, Nat.le_refl, hul, hlt, hxi, hld, c1, c2, List.replicate_succ, List.replicate_zero, fills, and_self, Nat.zero_lt_one, List.set_cons_zero, e3, hws, Fin.enc]
        exact ⟨_, ⟨_, _, rfl, a2⟩, rfl⟩
      · have hm : ((t.finished.take (i + 1)).filter (Fin.inside lo hi)) = ((t.finished.take i).filter (Fin.inside lo hi)) := by
          rw [hfn, hd]; simp [c2]
        rw [← hm] at a
        simp only [Fin.enc] at hld
        simp only [run0, run1, run2, run3, run4, noSlot, ownS, ownK, memN, RO.dst, lk, drop, forget, number, Nat.reduceBEq, cut?, splice?, builds, List.length_cons, List.length_nil, List.drop_succ_cons, List.drop_zero, List.take_succ_cons, List.take_zero, List.cons_append, List.nil_append, List.append_nil, List.drop_nil, List.take_nil, Nat.reduceAdd, Nat.reduceLeDiff, Nat.zero_add, Nat.add_zero, ↓reduceIte, Bool.not_true, Bool.not_false, decide_true, decide_false, eq_self, bne_self_eq_false, List.getElem?_cons_zero, List.getElem?_cons_succ, decide_eq_true_eq, Bool.false_eq_true, Bool.true_eq_false, reduceCtorEq, Nat.le_refl, hul, hlt, hxi, hld, c1, c2, hws]
        exact ⟨_, ⟨_, _, rfl, a⟩, rfl⟩
    · have hm : ((t.finished.take (i + 1)).filter (Fin.inside lo hi)) = ((t.finished.take i).filter (Fin.inside lo hi)) := by
        have c1' : ¬ lo ≤ b.id := c1
        rw [hfn, hd]; simp [c1']
      rw [← hm] at a
      simp only [Fin.enc] at hld
      simp only [run0, run1, run2, run3, run4, noSlot, ownS, ownK, memN, RO.dst, lk, drop, forget, number, Nat.reduceBEq, cut?, splice?, builds, List.length_cons, List.length_nil, List.drop_succ_cons, List.drop_zero, List.take_succ_cons, List.take_zero, List.cons_append, List.nil_append, List.append_nil, List.drop_nil, List.take_nil, Nat.reduceAdd, Nat.reduceLeDiff, Nat.zero_add, Nat.add_zero, ↓reduceIte, Bool.not_true, Bool.not_false, decide_true, decide_false, eq_self, bne_self_eq_false, List.getElem?_cons_zero, List.getElem?_cons_succ, decide_eq_true_eq, Bool.false_eq_true, Bool.true_eq_false, reduceCtorEq, Nat.le_refl, hul, hlt, hxi, hld, c1, hws]
      exact ⟨_, ⟨_, _, rfl, a⟩, rfl⟩) (s := ⟨[(1, .c (.int .u64 lo)), (2, .c (.int .u64 hi)), (11, .c (.int .i64 (0 : Nat)))], [(4, 4, 0), (8, 8, 0), (9, 9, 0)], [(4, [.int .u64 t.lo, .int .u64 t.hi, .int .i64 t.state, .int .i64 t.epoch, x, z]), (8, [.int .u64 0, .int .u64 0, .int .i64 0, .int .i64 0, .nil, .nil]), (9, [.int .u64 lo, .int .u64 hi, .int .i64 t.state, .int .i64 e, y, .nil])], g⟩) ⟨_, _, rfl, by simpa using Acc.nil 9 g⟩
  subst hs
  rw [List.take_length] at a
  obtain ⟨o2, fz, wz, fzr⟩ := a.flat (enc := Fin.enc)
  simp only [show ((0 : Nat) : Int) = 0 from rfl] at lp
  have hlt : ¬ (t.finished.length : Int) < t.finished.length := by omega
  rw [lp, loop_run]
  conv in (codeF _ _ r333L0 _) => unfold r333L0
  simp only [run0, run1, run2, run3, run4, noSlot, ownS, ownK, memN, RO.dst, lk, drop, forget, number, Nat.reduceBEq, cut?, splice?, builds, List.length_cons, List.length_nil, List.drop_succ_cons, List.drop_zero, List.take_succ_cons, List.take_zero, List.cons_append, List.nil_append, List.append_nil, List.drop_nil, List.take_nil, Nat.reduceAdd, Nat.reduceLeDiff, Nat.zero_add, Nat.add_zero, ↓reduceIte, Bool.not_true, Bool.not_false, decide_true, decide_false, eq_self, bne_self_eq_false, List.getElem?_cons_zero, List.getElem?_cons_succ, decide_eq_true_eq, Bool.false_eq_true, Bool.true_eq_false, reduceCtorEq, Nat.le_refl, hul, hlt]
  exact ⟨_, _, _, rfl, o1.trans o2, ⟨y, fy, z', fz, rfl, rfl, wy.on (Fl.ok _) o2, wz⟩, Fre.app fyr (wy.lt (Fl.ok _)) fzr o1.ext.1⟩
theorem l13Within_q (hS13 : Has F tS13) (v : Shard.RI h cs t fp) (sm : t.Small) (lo hi e : Int) :
    ∃ cs' h' g fq, call F Z 333 [.agg cs, .c (.int .u64 lo), .c (.int .u64 hi), .c (.int .i64 e)] ⟨h.next, h.next, h.get⟩ = some (.agg cs', h') ∧ Heap.mk h'.next h.floor h'.get = g ∧ On h g ∧ Shard.RI g cs' (t.within lo hi e) fq ∧ Fre h fq ∧ cs'.length = 6 := by
  obtain ⟨cs', h', fq, e1, o, u, f⟩ := l13Within_c (Z := Z) (h := ⟨h.next, h.next, h.get⟩) hS13 (Nat.le_refl _) (Shard.okI.up v h.next) sm lo hi e
  exact ⟨cs', h', _, fq, e1, rfl, ⟨⟨o.ext.1, o.ext.2⟩, rfl⟩, Shard.okI.up u h.floor, ⟨f.lo, f.nd⟩, (Shard.lenI u).1⟩
end
end Go.Proofs.Ytlfepembgjjejaa.A
/- A shard is cut, the reference's way. -/
namespace Go.Proofs.Ytlfepembgjjejaa.A
open Go
set_option linter.unusedSimpArgs false
set_option linter.unusedVariables false
def Shard.one_ (x : Shard) (a e : Int) : Shard := x.within x.lo (a - 1) e
def Shard.two_ (x : Shard) (a e : Int) : Shard := x.within a x.hi e
def Store.cutAt (s : Store) (k : Nat) (a e : Int) : Store := { s with shards := s.shards.take k ++ [(Shard.at_ s.shards k).one_ a e, (Shard.at_ s.shards k).two_ a e] ++ s.shards.drop (k + 1) }
def cutShard (s : Store) (a e : Int) : Store × Bool :=
  bif s.next e && (decide (0 ≤ findId s.shards a) && (((Shard.at_ s.shards (findId s.shards a).toNat).state == 0) && (!((Shard.at_ s.shards (findId s.shards a).toNat).lo == a) && !((s.shards.length : Int) == 8)))) then ((s.cutAt (findId s.shards a).toNat a e).renew e, true) else (s, false)
theorem cut_no {s : Store} {a e : Int} (h : s.next e = false) : cutShard s a e = (s, false) := by simp [cutShard, h]
theorem cut_away {s : Store} {a e : Int} (h : findId s.shards a = -1) : cutShard s a e = (s, false) := by simp [cutShard, h]
theorem cut_if {s : Store} {a e : Int} {k : Nat} (h0 : s.next e = true) (h : findId s.shards a = (k : Int)) : cutShard s a e = bif ((Shard.at_ s.shards k).state == 0) && (!((Shard.at_ s.shards k).lo == a) && !((s.shards.length : Int) == 8)) then ((s.cutAt k a e).renew e, true) else (s, false) := by simp [cutShard, h0, h]
theorem Store.cutAt_small {s : Store} (sm : s.Small) {k : Nat} (hk : k < s.shards.length) (a e : Int) (hl : s.shards.length ≤ 8) : (s.cutAt k a e).Small := by
  refine ⟨?_, fun b hb => ?_⟩
  · simp only [Store.cutAt, List.length_append, List.length_take, List.length_drop, List.length_cons, List.length_nil]; omega
  · simp only [Store.cutAt, List.mem_append, List.mem_cons, List.not_mem_nil, or_false] at hb
    rcases hb with (hb | hb | hb) | hb
    · exact sm.2 b (List.mem_of_mem_take hb)
    · subst hb; exact Shard.within_small (Store.at_small sm hk) _ _ _
    · subst hb; exact Shard.within_small (Store.at_small sm hk) _ _ _
    · exact sm.2 b (List.mem_of_mem_drop hb)
theorem Store.next_len {s : Store} {e : Int} (h : s.next e = true) : s.shards.length ≤ 8 := by
  simp only [Store.next, Store.good, Bool.and_eq_true, decide_eq_true_eq] at h
  omega
theorem cutShard_small {s : Store} (sm : s.Small) (a e : Int) : (cutShard s a e).1.Small := by
  cases h0 : s.next e with
  | false => rw [cut_no h0]; exact sm
  | true =>
    by_cases h1 : 0 ≤ findId s.shards a
    · obtain ⟨k, e', hk, _⟩ := findI_at h1
      have e'' : findId s.shards a = (k : Int) := e'
      rw [cut_if h0 e'']
      cases (((Shard.at_ s.shards k).state == 0) && (!((Shard.at_ s.shards k).lo == a) && !((s.shards.length : Int) == 8)))
      · exact sm
      · exact Store.renew_small (Store.cutAt_small sm hk a e (Store.next_len h0)) e
    · have : cutShard s a e = (s, false) := by simp [cutShard, h1]
      rw [this]; exact sm
/-- A cut in the course of a loop. -/
def Store.cpart (s : Store) (p q : Shard) (k i : Nat) : List Shard := if k < i then s.shards.take k ++ [p, q] ++ (s.shards.take i).drop (k + 1) else s.shards.take i
theorem Store.cpart_no {s : Store} {p q : Shard} {k i : Nat} (hi : i < s.shards.length) (h : i < k) : s.cpart p q k (i + 1) = s.cpart p q k i ++ [s.shards[i]] := by
  simp only [Store.cpart]
  rw [if_neg (by omega), if_neg (by omega), List.take_add_one, List.getElem?_eq_getElem hi]; rfl
theorem Store.cpart_at {s : Store} {p q : Shard} {i : Nat} (hi : i < s.shards.length) : s.cpart p q i (i + 1) = s.cpart p q i i ++ [p] ++ [q] := by
  simp only [Store.cpart]
  rw [if_pos (by omega), if_neg (by omega), List.drop_eq_nil_of_le (by rw [List.length_take]; omega)]
  simp
theorem Store.cpart_yes {s : Store} {p q : Shard} {k i : Nat} (hi : i < s.shards.length) (h : k < i) : s.cpart p q k (i + 1) = s.cpart p q k i ++ [s.shards[i]] := by
  simp only [Store.cpart]
  rw [if_pos (by omega), if_pos h, List.take_add_one, List.getElem?_eq_getElem hi, List.drop_append_of_le_length (by rw [List.length_take]; omega), ← List.append_assoc]; rfl
theorem Store.cpart_end {s : Store} {p q : Shard} {k : Nat} (h : k < s.shards.length) : s.cpart p q k s.shards.length = s.shards.take k ++ [p, q] ++ s.shards.drop (k + 1) := by
  simp only [Store.cpart]; rw [if_pos h, List.take_length]
theorem Store.cpart_len (s : Store) (p q : Shard) (k i : Nat) : (s.cpart p q k i).length ≤ s.shards.length + 2 := by
  simp only [Store.cpart]
  split <;> simp only [List.length_append, List.length_take, List.length_drop, List.length_cons, List.length_nil] <;> omega
section
variable {F : Nat → Option RF} {Z : CallF} {h : Heap} {cs : List Cell} {fp : List Nat} {s : Store}
theorem SlR.oneOn {α : Type} {R : Rel α} {tag : Nat} {x : Cell} {xs : List α} (ok : RelOk R) (w : SlR tag R h x xs fp) {i : Nat} (hi : i < xs.length) : ∃ r f, R h r xs[i] f ∧ ∀ g, On h g → (∀ j n, loadP g x.sid i j n = cut? r j n) ∧ R g r xs[i] f := by
  rcases w with ⟨_, ⟨rfl, rfl, _⟩ | ⟨id, rows, fps, rfl, h1, h3, rfl, h2⟩⟩
  · exact absurd hi (Nat.not_lt_zero _)
  · obtain ⟨r, f, q1, q2, q3⟩ := h2.at i hi
    exact ⟨r, f, q3, fun g o => ⟨fun j n => by simp [loadP, rowOf, Cell.sid, o.ext.2 id h3, h1, q1], ok.on q3 o⟩⟩
set_option maxHeartbeats 2000000 in
theorem sCutShard_c (k : KS F) (hf : h.floor ≤ h.next) (v : Store.RI h cs s fp) (a e : Int) (ha : 0 ≤ a ∧ a ≤ 18446744073709551615) (ok : s.Ok) (sm : s.Small) :
    ∃ cs' h' fq, call F Z 311 [.agg cs, .c (.int .u64 a), .c (.int .i64 e)] h = some (.tup [.agg cs', .c (.bool (cutShard s a e).2)], h') ∧ On h h' ∧ Store.RI h' cs' (cutShard s a e).1 fq ∧ Fre h fq := by
  obtain ⟨l1, l2, l3⟩ := Store.lenI v
  obtain ⟨cs1, h1, fr, e1, o1, v1, f1⟩ := l13Copy_c (Z := Z) k hf v sm
  obtain ⟨m1, m2, m3⟩ := Store.lenI v1
  have e2 := l13Next_run (Z := Z) k v ok e
  have e3 := l13Find_run (Z := Z) k.s13 v a
  rw [call_run F Z (k.s13.lk (g := 311) rfl) _ _ rfl]
  cases hn : s.next e with
  | false =>
    rw [hn] at e2
    rw [cut_no hn]
    simp only [run0, run1, run2, run3, run4, noSlot, ownS, ownK, memN, RO.dst, lk, drop, forget, number, Nat.reduceBEq, cut?, splice?, builds, List.length_cons, List.length_nil, List.drop_succ_cons, List.drop_zero, List.take_succ_cons, List.take_zero, List.cons_append, List.nil_append, List.append_nil, List.drop_nil, List.take_nil, Nat.reduceAdd, Nat.reduceLeDiff, Nat.zero_add, Nat.add_zero, ↓reduceIte, Bool.not_true, Bool.not_false, decide_true, decide_false, eq_self, bne_self_eq_false, List.getElem?_cons_zero, List.getElem?_cons_succ, decide_eq_true_eq, Bool.false_eq_true, Bool.true_eq_false, reduceCtorEq, Nat.le_refl, l1, l2, l3, m1, m2, m3, e1, e2, e3]
    exact ⟨_, _, _, rfl, o1, v1, f1⟩
  | true =>
    rw [hn] at e2
    obtain ⟨x, p, rfl, hp, w⟩ := v
    subst hp
    rcases w.found (fun t => decide (t.lo ≤ a) && decide (a ≤ t.hi)) with q | ⟨j, q, hj, hpj, hx, _, _, hld⟩
    · change findId s.shards a = -1 at q
      rw [cut_away q]
      rw [q] at e3
      simp only [run0, run1, run2, run3, run4, noSlot, ownS, ownK, memN, RO.dst, lk, drop, forget, number, Nat.reduceBEq, cut?, splice?, builds, List.length_cons, List.length_nil, List.drop_succ_cons, List.drop_zero, List.take_succ_cons, List.take_zero, List.cons_append, List.nil_append, List.append_nil, List.drop_nil, List.take_nil, Nat.reduceAdd, Nat.reduceLeDiff, Nat.zero_add, Nat.add_zero, ↓reduceIte, Bool.not_true, Bool.not_false, decide_true, decide_false, eq_self, bne_self_eq_false, List.getElem?_cons_zero, List.getElem?_cons_succ, decide_eq_true_eq, Bool.false_eq_true, Bool.true_eq_false, reduceCtorEq, Nat.le_refl, l1, l2, l3, m1, m2, m3, e1, e2, e3, Int.reduceLT, Int.reduceNeg]
      exact ⟨_, _, _, rfl, o1, v1, f1⟩
    change findId s.shards a = (j : Int) at q
    rw [q] at e3
    rw [cut_if hn q]
    have g0 : ¬ (j : Int) < 0 := by omega
    have hwl := w.len
    have hl8 := Store.next_len hn
    by_cases c2 : (Shard.at_ s.shards j).lo = a
    · have c2' : ((Shard.at_ s.shards j).lo == a) = true := by simpa using c2
      rw [c2']
      simp only [Bool.not_true, Bool.false_and, Bool.and_false, cond_false]
      simp only [run0, run1, run2, run3, run4, noSlot, ownS, ownK, memN, RO.dst, lk, drop, forget, number, Nat.reduceBEq, cut?, splice?, builds, List.length_cons, List.length_nil, List.drop_succ_cons, List.drop_zero, List.take_succ_cons, List.take_zero, List.cons_append, List.nil_append, List.append_nil, List.drop_nil, List.take_nil, Nat.reduceAdd, Nat.reduceLeDiff, Nat.zero_add, Nat.add_zero, ↓reduceIte, Bool.not_true, Bool.not_false, decide_true, decide_false, eq_self, bne_self_eq_false, List.getElem?_cons_zero, List.getElem?_cons_succ, decide_eq_true_eq, Bool.false_eq_true, Bool.true_eq_false, reduceCtorEq, Nat.le_refl, l1, l2, l3, m1, m2, m3, e1, e2, e3, g0, hx, hld, Shard.cells, c2']
      exact ⟨_, _, _, rfl, o1, v1, f1⟩
    have c2' : ((Shard.at_ s.shards j).lo == a) = false := by simpa using c2
    by_cases c1 : (Shard.at_ s.shards j).state = 0
    case neg =>
      have c1' : ((Shard.at_ s.shards j).state == 0) = false := by simpa using c1
      have c1n : ((Shard.at_ s.shards j).state != 0) = true := by simpa using c1
      rw [c1']
      simp only [Bool.false_and, cond_false]
      simp only [run0, run1, run2, run3, run4, noSlot, ownS, ownK, memN, RO.dst, lk, drop, forget, number, Nat.reduceBEq, cut?, splice?, builds, List.length_cons, List.length_nil, List.drop_succ_cons, List.drop_zero, List.take_succ_cons, List.take_zero, List.cons_append, List.nil_append, List.append_nil, List.drop_nil, List.take_nil, Nat.reduceAdd, Nat.reduceLeDiff, Nat.zero_add, Nat.add_zero, ↓reduceIte, Bool.not_true, Bool.not_false, decide_true, decide_false, eq_self, bne_self_eq_false, List.getElem?_cons_zero, List.getElem?_cons_succ, decide_eq_true_eq, Bool.false_eq_true, Bool.true_eq_false, reduceCtorEq, Nat.le_refl, l1, l2, l3, m1, m2, m3, e1, e2, e3, g0, hx, hld, Shard.cells, c2', c1n]
      exact ⟨_, _, _, rfl, o1, v1, f1⟩
    have c1' : ((Shard.at_ s.shards j).state == 0) = true := by simpa using c1
    have c1n : ((Shard.at_ s.shards j).state != 0) = false := by simpa using c1
    cases c3 : ((s.shards.length : Int) == 8) with
    | true =>
      simp only [Bool.not_true, Bool.and_false, cond_false]
      simp only [run0, run1, run2, run3, run4, noSlot, ownS, ownK, memN, RO.dst, lk, drop, forget, number, Nat.reduceBEq, cut?, splice?, builds, List.length_cons, List.length_nil, List.drop_succ_cons, List.drop_zero, List.take_succ_cons, List.take_zero, List.cons_append, List.nil_append, List.append_nil, List.drop_nil, List.take_nil, Nat.reduceAdd, Nat.reduceLeDiff, Nat.zero_add, Nat.add_zero, ↓reduceIte, Bool.not_true, Bool.not_false, decide_true, decide_false, eq_self, bne_self_eq_false, List.getElem?_cons_zero, List.getElem?_cons_succ, decide_eq_true_eq, Bool.false_eq_true, Bool.true_eq_false, reduceCtorEq, Nat.le_refl, l1, l2, l3, m1, m2, m3, e1, e2, e3, g0, hx, hld, Shard.cells, c2', c1n, hwl, c3]
      exact ⟨_, _, _, rfl, o1, v1, f1⟩
    | false =>
      rw [c1', c2']
      simp only [Bool.not_false, Bool.and_true, cond_true]
      have hpj' := hpj
      simp only [Bool.and_eq_true, decide_eq_true_eq] at hpj'
      have hw : IntKind.u64.wrap (a - 1) = a - 1 := by
        have := ok.shards _ (List.getElem_mem hj)
        have h0 := this.lo
        rw [Shard.at_get hj] at hpj' c2
        exact wrapU _ (by omega) (by omega)
      clear hpj hpj' hld e1 o1 v1 f1 m1 m2 m3
      obtain ⟨r0, f0, hR0, hld0⟩ := w.oneOn Shard.okI hj
      have hcells : ∃ x1 x2, r0 = [.int .u64 (Shard.at_ s.shards j).lo, .int .u64 (Shard.at_ s.shards j).hi, .int .i64 (Shard.at_ s.shards j).state, .int .i64 (Shard.at_ s.shards j).epoch, x1, x2] := by
        obtain ⟨x1, _, x2, _, hr, _⟩ := hR0
        exact ⟨x1, x2, by rw [hr, Shard.at_get hj]⟩
      rw [← Shard.at_get hj] at hR0 hld0
      obtain ⟨x1, x2, rfl⟩ := hcells
      have hl0 := (hld0 h (On.refl h)).1
      simp only [run0, run1, run2, run3, run4, noSlot, ownS, ownK, memN, RO.dst, lk, drop, forget, number, Nat.reduceBEq, cut?, splice?, builds, List.length_cons, List.length_nil, List.drop_succ_cons, List.drop_zero, List.take_succ_cons, List.take_zero, List.cons_append, List.nil_append, List.append_nil, List.drop_nil, List.take_nil, Nat.reduceAdd, Nat.reduceLeDiff, Nat.zero_add, Nat.add_zero, ↓reduceIte, Bool.not_true, Bool.not_false, decide_true, decide_false, eq_self, bne_self_eq_false, List.getElem?_cons_zero, List.getElem?_cons_succ, decide_eq_true_eq, Bool.false_eq_true, Bool.true_eq_false, reduceCtorEq, Nat.le_refl, l1, l2, l3, e2, e3, g0, hx, hl0, hwl, c1n, c2', c3]
      obtain ⟨s', ⟨y, g, fq, hs, ac⟩, lp⟩ := loop_goes (F := F) (Z := Z) (live := [1, 2, 3, 6, 8, 9, 10]) (b := r311L0) s.shards.length (fun i st => ∃ y g fq, st = ⟨[(1, .c (.int .u64 a)), (2, .c (.int .i64 e)), (8, .c (.int .i64 (j : Nat))), (10, .c (.int .i64 (i : Nat)))], [(3, 3, 0), (6, 6, 0), (9, 9, 0)], [(3, [.int .i64 s.group, .int .i64 s.seen, x]), (6, [.int .i64 0, .int .i64 0, .nil]), (9, [.int .i64 s.group, .int .i64 e, y])], g⟩ ∧ AccM Shard.RI 16 h g y (s.cpart ((Shard.at_ s.shards j).one_ a e) ((Shard.at_ s.shards j).two_ a e) j i) fq) (fun i st hi ⟨y, g, fq, hs, ac⟩ => by
        subst hs
        have hlt : (i : Int) < s.shards.length := by omega
        have hle := w.le2
        have hws := wrapS i (by omega)
        have hxi := w.idx hi
        have hcl := s.cpart_len ((Shard.at_ s.shards j).one_ a e) ((Shard.at_ s.shards j).two_ a e) j i
        rw [loop_run]
        conv in (codeF _ _ r311L0 _) => unfold r311L0
        by_cases hij : i = j
        · subst hij
          obtain ⟨hld1, hR1⟩ := hld0 g ac.on
          obtain ⟨cs', h', g1, fr, e1, hg1, o1, u1, f1, c1⟩ := l13Within_q (Z := Z) k.s13 hR1 (Store.at_small sm hi) (Shard.at_ s.shards i).lo (a - 1) e
          obtain ⟨y', g', fp', e2, a2⟩ := ac.next hf (by omega) o1 u1 f1
          obtain ⟨hld2, hR2⟩ := hld0 g' a2.on
          obtain ⟨cs3, h3, g3, fr3, e3, hg3, o3, u3, f3, c3⟩ := l13Within_q (Z := Z) k.s13 hR2 (Store.at_small sm hi) a (Shard.at_ s.shards i).hi e
          obtain ⟨y4, g4, fp4, e4, a4⟩ := a2.next hf (by simp; omega) o3 u3 f3
          have := Store.cpart_at (s := s) (p := (Shard.at_ s.shards i).one_ a e) (q := (Shard.at_ s.shards i).two_ a e) hi
          change AccM Shard.RI 16 h g4 y4 (s.cpart ((Shard.at_ s.shards i).one_ a e) ((Shard.at_ s.shards i).two_ a e) i i ++ [(Shard.at_ s.shards i).one_ a e] ++ [(Shard.at_ s.shards i).two_ a e]) fp4 at a4
          rw [← this] at a4
          have hself : ((i : Int) == (i : Int)) = true := by simp
          simp only [run0, run1, run2, run3, run4, noSlot, ownS, ownK, memN, RO.dst, lk, drop, forget, number, Nat.reduceBEq, cut?, splice?, builds, List.length_cons, List.length_nil, List.drop_succ_cons, List.drop_zero, List.take_succ_cons, List.take_zero, List.cons_append, List.nil_append, List.append_nil, List.drop_nil, List.take_nil, Nat.reduceAdd, Nat.reduceLeDiff, Nat.zero_add, Nat.add_zero, ↓reduceIte, Bool.not_true, Bool.not_false, decide_true, decide_false, eq_self, bne_self_eq_false, List.getElem?_cons_zero, List.getElem?_cons_succ, decide_eq_true_eq, Bool.false_eq_true, Bool.true_eq_false, reduceCtorEq, Nat.le_refl, hwl, hlt, hxi, hld1, hself, hw, e1, hg1, List.replicate_succ, List.replicate_zero, fills, and_self, Nat.zero_lt_one, c1, List.set_cons_zero, e2, e3, hg3, c3, e4, hws]
          exact ⟨_, ⟨_, _, _, rfl, a4⟩, rfl⟩
        · have hne : ((i : Int) == (j : Int)) = false := by
            have : ¬ (i : Int) = (j : Int) := by omega
            simpa using this
          obtain ⟨r, f, hld, hR, _⟩ := (w.on Shard.okI ac.on).one hi
          obtain ⟨r1, r2, r3⟩ := Shard.lenI hR
          obtain ⟨cs', h', g1, fr, e1, hg1, o1, u1, f1, c1⟩ := l13CopyShard_q (Z := Z) k.s10 k.s13 hR (sm.2 _ (List.getElem_mem hi))
          obtain ⟨y', g', fp', e2, a2⟩ := ac.next hf (by omega) o1 u1 f1
          have hnx : s.cpart ((Shard.at_ s.shards j).one_ a e) ((Shard.at_ s.shards j).two_ a e) j i ++ [s.shards[i]] = s.cpart ((Shard.at_ s.shards j).one_ a e) ((Shard.at_ s.shards j).two_ a e) j (i + 1) := by
            rcases Nat.lt_or_gt_of_ne hij with h | h
            · exact (Store.cpart_no hi h).symm
            · exact (Store.cpart_yes hi h).symm
          rw [hnx] at a2
          simp only [run0, run1, run2, run3, run4, noSlot, ownS, ownK, memN, RO.dst, lk, drop, forget, number, Nat.reduceBEq, cut?, splice?, builds, List.length_cons, List.length_nil, List.drop_succ_cons, List.drop_zero, List.take_succ_cons, List.take_zero, List.cons_append, List.nil_append, List.append_nil, List.drop_nil, List.take_nil, Nat.reduceAdd, Nat.reduceLeDiff, Nat.zero_add, Nat.add_zero, ↓reduceIte, Bool.not_true, Bool.not_false, decide_true, decide_false, eq_self, bne_self_eq_false, List.getElem?_cons_zero, List.getElem?_cons_succ, decide_eq_true_eq, Bool.false_eq_true, Bool.true_eq_false, reduceCtorEq, Nat.le_refl, hwl, hlt, hxi, hne, hld, r1, r2, r3, e1, hg1, List.replicate_succ, List.replicate_zero, fills, and_self, Nat.zero_lt_one, c1, List.set_cons_zero, e2, hws]
          exact ⟨_, ⟨_, _, _, rfl, a2⟩, rfl⟩) (s := ⟨[(1, .c (.int .u64 a)), (2, .c (.int .i64 e)), (8, .c (.int .i64 (j : Nat))), (10, .c (.int .i64 (0 : Nat)))], [(3, 3, 0), (6, 6, 0), (9, 9, 0)], [(3, [.int .i64 s.group, .int .i64 s.seen, x]), (6, [.int .i64 0, .int .i64 0, .nil]), (9, [.int .i64 s.group, .int .i64 e, .nil])], h⟩) ⟨_, _, _, rfl, by simpa [Store.cpart] using AccM.nil Shard.RI 16 h⟩
      subst hs
      simp only [show ((0 : Nat) : Int) = 0 from rfl] at lp
      have hlt : ¬ (s.shards.length : Int) < s.shards.length := by omega
      rw [Store.cpart_end hj] at ac
      obtain ⟨cs5, h5, f5, e5, o5, v5, r5⟩ := l13Renew_c (Z := Z) k (s := ⟨s.group, e, (s.cutAt j a e).shards⟩) (ac.on.le hf) ⟨y, _, rfl, rfl, ac.sh⟩ (Store.cutAt_small sm hj a e hl8) e
      have hre : (⟨s.group, e, (s.cutAt j a e).shards⟩ : Store).renew e = (s.cutAt j a e).renew e := rfl
      rw [hre] at v5
      obtain ⟨n1, n2, n3⟩ := Store.lenI v5
      rw [lp, loop_run]
      conv in (codeF _ _ r311L0 _) => unfold r311L0
      simp only [run0, run1, run2, run3, run4, noSlot, ownS, ownK, memN, RO.dst, lk, drop, forget, number, Nat.reduceBEq, cut?, splice?, builds, List.length_cons, List.length_nil, List.drop_succ_cons, List.drop_zero, List.take_succ_cons, List.take_zero, List.cons_append, List.nil_append, List.append_nil, List.drop_nil, List.take_nil, Nat.reduceAdd, Nat.reduceLeDiff, Nat.zero_add, Nat.add_zero, ↓reduceIte, Bool.not_true, Bool.not_false, decide_true, decide_false, eq_self, bne_self_eq_false, List.getElem?_cons_zero, List.getElem?_cons_succ, decide_eq_true_eq, Bool.false_eq_true, Bool.true_eq_false, reduceCtorEq, Nat.le_refl, hwl, hlt, e5, n1, n2, n3]
      exact ⟨_, _, _, rfl, ac.on.trans o5, v5, ⟨fun id hid => Nat.le_trans ac.on.ext.1 (r5.lo id hid), r5.nd⟩⟩
end
end Go.Proofs.Ytlfepembgjjejaa.A
/- Two shards in rows of their own, whose lists grow. -/
namespace Go.Proofs.Ytlfepembgjjejaa.A
open Go
set_option linter.unusedSimpArgs false
set_option linter.unusedVariables false
section
variable {α : Type} {tag : Nat} {g : Heap} {y : Cell} {xs : List α} {f : List Nat}
/-- One more element behind a slice of one's own. -/
theorem SlR.app1 {enc : α → List Cell} (w : SlR tag (Fl enc) g y xs f) (nd : f.Nodup) (own : ∀ id, id ∈ f → g.floor ≤ id) (hg : g.floor ≤ g.next) {bytes : Nat} (hb : (xs.length + 1) * bytes ≤ 140737488355328) (hl : xs.length + 1 ≤ 140737488355328) (t : α) :
    ∃ y' g' f', appF (g.push [enc t]) tag bytes y (.sl tag g.next 0 1) = some (y', g') ∧ SlR tag (Fl enc) g' y' (xs ++ [t]) f' ∧ Re g g' f f' := by
  have a : AccM (Fl enc) tag ⟨g.floor, g.floor, g.get⟩ g y xs f := ⟨⟨⟨hg, fun _ _ => rfl⟩, rfl⟩, w, ⟨own, nd⟩⟩
  obtain ⟨y', g', f', e, a', h1, h2, h3⟩ := a.one (Fl.ok enc) (Nat.le_refl _) hb hl (On.refl g) (cs := enc t) (t := t) (fq := []) ⟨rfl, rfl⟩ (Fre.nil _) (fun _ h => nomatch h)
  exact ⟨y', g', f', e, a'.sh, ⟨h1, a'.on.fl, h3, a'.fr.nd, fun id hid => by
    rcases h2 id hid with h | h | h
    · exact .inl h
    · cases h
    · exact .inr h⟩⟩
end
def Dj (a b : List Nat) : Prop := ∀ id, id ∈ a → id ∉ b
/-- Two rows with their slices, and the heap behind which they were made. -/
structure Cut (hb g : Heap) (o1 o2 : Nat) (lo hi a : Int) (b1 b2 : List Account) (c1 c2 : List Fin) (y1 y2 z1 z2 : Cell) (f1 f2 e1 e2 : List Nat) : Prop where
  le : hb.next ≤ g.next
  fl : g.floor = hb.floor
  hbf : hb.floor ≤ hb.next
  get : ∀ id, id < hb.next → id ≠ o1 → id ≠ o2 → g.get id = hb.get id
  ne : o1 ≠ o2
  q1 : hb.floor ≤ o1 ∧ o1 < hb.next
  q2 : hb.floor ≤ o2 ∧ o2 < hb.next
  r1 : g.get o1 = some [[.int .u64 lo, .int .u64 (a - 1), .int .i64 0, .int .i64 0, y1, z1]]
  r2 : g.get o2 = some [[.int .u64 a, .int .u64 hi, .int .i64 0, .int .i64 0, y2, z2]]
  s1 : SlR 11 (Fl Account.enc) g y1 b1 f1
  s2 : SlR 11 (Fl Account.enc) g y2 b2 f2
  t1 : SlR 9 (Fl Fin.enc) g z1 c1 e1
  t2 : SlR 9 (Fl Fin.enc) g z2 c2 e2
  l1 : ∀ id, id ∈ f1 → hb.next ≤ id
  l2 : ∀ id, id ∈ f2 → hb.next ≤ id
  m1 : ∀ id, id ∈ e1 → hb.next ≤ id
  m2 : ∀ id, id ∈ e2 → hb.next ≤ id
  n1 : f1.Nodup
  n2 : f2.Nodup
  k1 : e1.Nodup
  k2 : e2.Nodup
  d12 : Dj f1 f2
  d1a : Dj f1 e1
  d1b : Dj f1 e2
  d2a : Dj f2 e1
  d2b : Dj f2 e2
  dab : Dj e1 e2
section
variable {hb g : Heap} {o1 o2 : Nat} {lo hi a : Int} {b1 b2 : List Account} {c1 c2 : List Fin} {y1 y2 z1 z2 : Cell} {f1 f2 e1 e2 : List Nat}
theorem Cut.load1 (c : Cut hb g o1 o2 lo hi a b1 b2 c1 c2 y1 y2 z1 z2 f1 f2 e1 e2) (j n : Nat) : loadP g o1 0 j n = cut? [.int .u64 lo, .int .u64 (a - 1), .int .i64 0, .int .i64 0, y1, z1] j n := loadP_row c.r1 rfl j n
theorem Cut.load2 (c : Cut hb g o1 o2 lo hi a b1 b2 c1 c2 y1 y2 z1 z2 f1 f2 e1 e2) (j n : Nat) : loadP g o2 0 j n = cut? [.int .u64 a, .int .u64 hi, .int .i64 0, .int .i64 0, y2, z2] j n := loadP_row c.r2 rfl j n
theorem put_ne2 {h : Heap} {k id : Nat} (r : List (List Cell)) (hid : id ≠ k) : (h.put k r).get id = h.get id := put_ne r hid
theorem put_eq {h : Heap} {k : Nat} (r : List (List Cell)) : (h.put k r).get k = some r := by simp [Heap.put]
theorem Cut.a1 (c : Cut hb g o1 o2 lo hi a b1 b2 c1 c2 y1 y2 z1 z2 f1 f2 e1 e2) (hl : b1.length ≤ 1048576) (t : Account) :
    ∃ y1' g' g'' f1', appF (g.push [t.enc]) 11 40 y1 (.sl 11 g.next 0 1) = some (y1', g') ∧ (∀ j n, loadP g' o1 0 j n = cut? [.int .u64 lo, .int .u64 (a - 1), .int .i64 0, .int .i64 0, y1, z1] j n) ∧ storeP g' o1 0 4 [y1'] = some g'' ∧ Cut hb g'' o1 o2 lo hi a (b1 ++ [t]) b2 c1 c2 y1' y2 z1 z2 f1' f2 e1 e2 := by
  have own : ∀ id, id ∈ f1 → g.floor ≤ id := fun id hid => by have := c.l1 id hid; have := c.fl; have := c.hbf; omega
  obtain ⟨y1', g', f1', e, w, re⟩ := c.s1.app1 c.n1 own (by have := c.fl; have := c.hbf; have := c.le; omega) (bytes := 40) (by omega) (by omega) t
  have hno : o1 ∉ f1 := fun hc => by have := c.l1 _ hc; have := c.q1.2; omega
  have hno' : o2 ∉ f1 := fun hc => by have := c.l1 _ hc; have := c.q2.2; omega
  have hg1 : g'.get o1 = some [[.int .u64 lo, .int .u64 (a - 1), .int .i64 0, .int .i64 0, y1, z1]] := (re.get _ (by have := c.q1.2; have := c.le; omega) hno).trans c.r1
  have hg2 : g'.get o2 = some [[.int .u64 a, .int .u64 hi, .int .i64 0, .int .i64 0, y2, z2]] := (re.get _ (by have := c.q2.2; have := c.le; omega) hno').trans c.r2
  have hno2 : ∀ id, id ∈ f1' → id ≠ o1 := fun id hid e => by
    rcases re.of id hid with h | h
    · exact hno (e ▸ h)
    · have := c.q1.2; have := c.le; omega
  have hst : storeP g' o1 0 4 [y1'] = some (g'.put o1 [[.int .u64 lo, .int .u64 (a - 1), .int .i64 0, .int .i64 0, y1', z1]]) := storeP_at (rows := [[.int .u64 lo, .int .u64 (a - 1), .int .i64 0, .int .i64 0, y1, z1]]) (by rw [re.fl, c.fl]; exact c.q1.1) hg1 rfl rfl
  refine ⟨y1', g', _, f1', e, fun j n => loadP_row hg1 rfl j n, hst, ?_⟩
  exact {
    le := Nat.le_trans c.le re.le
    fl := re.fl.trans c.fl
    hbf := c.hbf
    get := fun id h1 h2 h3 => by
      rw [put_ne _ h2, re.get id (by have := c.le; omega) (fun hc => by have := c.l1 id hc; omega)]
      exact c.get id h1 h2 h3
    ne := c.ne
    q1 := c.q1
    q2 := c.q2
    r1 := put_eq _
    r2 := by rw [put_ne _ c.ne.symm]; exact hg2
    s1 := w.mv (Fl.ok _) (Nat.le_refl _) fun id hid => put_ne _ (hno2 id hid)
    l1 := fun id hid => by
      rcases re.of id hid with h | h
      · exact c.l1 id h
      · exact Nat.le_trans c.le h
    n1 := re.nd
    s2 := c.s2.mv (Fl.ok _) re.le fun id hid => by
      have hlt := c.s2.lt (Fl.ok _) id hid
      rw [put_ne _ (fun e => by have := c.l2 id hid; have := c.q1.2; omega), re.get id hlt (fun hc => c.d12 id hc hid)]
    l2 := c.l2
    n2 := c.n2
    t1 := c.t1.mv (Fl.ok _) re.le fun id hid => by
      have hlt := c.t1.lt (Fl.ok _) id hid
      rw [put_ne _ (fun e => by have := c.m1 id hid; have := c.q1.2; omega), re.get id hlt (fun hc => c.d1a id hc hid)]
    m1 := c.m1
    k1 := c.k1
    t2 := c.t2.mv (Fl.ok _) re.le fun id hid => by
      have hlt := c.t2.lt (Fl.ok _) id hid
      rw [put_ne _ (fun e => by have := c.m2 id hid; have := c.q1.2; omega), re.get id hlt (fun hc => c.d1b id hc hid)]
    m2 := c.m2
    k2 := c.k2
    d12 := fun id hid hc => by
      rcases re.of id hid with h | h
      · exact c.d12 id h hc
      · have := c.s2.lt (Fl.ok _) id hc; omega
    d1a := fun id hid hc => by
      rcases re.of id hid with h | h
      · exact c.d1a id h hc
      · have := c.t1.lt (Fl.ok _) id hc; omega
    d1b := fun id hid hc => by
      rcases re.of id hid with h | h
      · exact c.d1b id h hc
      · have := c.t2.lt (Fl.ok _) id hc; omega
    d2a := c.d2a
    d2b := c.d2b
    dab := c.dab
  }
theorem Cut.a2 (c : Cut hb g o1 o2 lo hi a b1 b2 c1 c2 y1 y2 z1 z2 f1 f2 e1 e2) (hl : b2.length ≤ 1048576) (t : Account) :
    ∃ y2' g' g'' f2', appF (g.push [t.enc]) 11 40 y2 (.sl 11 g.next 0 1) = some (y2', g') ∧ (∀ j n, loadP g' o2 0 j n = cut? [.int .u64 a, .int .u64 hi, .int .i64 0, .int .i64 0, y2, z2] j n) ∧ storeP g' o2 0 4 [y2'] = some g'' ∧ Cut hb g'' o1 o2 lo hi a b1 (b2 ++ [t]) c1 c2 y1 y2' z1 z2 f1 f2' e1 e2 := by
  have own : ∀ id, id ∈ f2 → g.floor ≤ id := fun id hid => by have := c.l2 id hid; have := c.fl; have := c.hbf; omega
  obtain ⟨y2', g', f2', e, w, re⟩ := c.s2.app1 c.n2 own (by have := c.fl; have := c.hbf; have := c.le; omega) (bytes := 40) (by omega) (by omega) t
  have hno : o2 ∉ f2 := fun hc => by have := c.l2 _ hc; have := c.q2.2; omega
  have hno' : o1 ∉ f2 := fun hc => by have := c.l2 _ hc; have := c.q1.2; omega
  have hg1 : g'.get o2 = some [[.int .u64 a, .int .u64 hi, .int .i64 0, .int .i64 0, y2, z2]] := (re.get _ (by have := c.q2.2; have := c.le; omega) hno).trans c.r2
  have hg2 : g'.get o1 = some [[.int .u64 lo, .int .u64 (a - 1), .int .i64 0, .int .i64 0, y1, z1]] := (re.get _ (by have := c.q1.2; have := c.le; omega) hno').trans c.r1
  have hno2 : ∀ id, id ∈ f2' → id ≠ o2 := fun id hid e => by
    rcases re.of id hid with h | h
    · exact hno (e ▸ h)
    · have := c.q2.2; have := c.le; omega
  have hst : storeP g' o2 0 4 [y2'] = some (g'.put o2 [[.int .u64 a, .int .u64 hi, .int .i64 0, .int .i64 0, y2', z2]]) := storeP_at (rows := [[.int .u64 a, .int .u64 hi, .int .i64 0, .int .i64 0, y2, z2]]) (by rw [re.fl, c.fl]; exact c.q2.1) hg1 rfl rfl
  refine ⟨y2', g', _, f2', e, fun j n => loadP_row hg1 rfl j n, hst, ?_⟩
  exact {
    le := Nat.le_trans c.le re.le
    fl := re.fl.trans c.fl
    hbf := c.hbf
    get := fun id h1 h2 h3 => by
      rw [put_ne _ h3, re.get id (by have := c.le; omega) (fun hc => by have := c.l2 id hc; omega)]
      exact c.get id h1 h2 h3
    ne := c.ne
    q1 := c.q1
    q2 := c.q2
    r2 := put_eq _
    r1 := by rw [put_ne _ c.ne]; exact hg2
    s1 := c.s1.mv (Fl.ok _) re.le fun id hid => by
      have hlt := c.s1.lt (Fl.ok _) id hid
      rw [put_ne _ (fun e => by have := c.l1 id hid; have := c.q2.2; omega), re.get id hlt (c.d12 id hid)]
    l1 := c.l1
    n1 := c.n1
    s2 := w.mv (Fl.ok _) (Nat.le_refl _) fun id hid => put_ne _ (hno2 id hid)
    l2 := fun id hid => by
      rcases re.of id hid with h | h
      · exact c.l2 id h
      · exact Nat.le_trans c.le h
    n2 := re.nd
    t1 := c.t1.mv (Fl.ok _) re.le fun id hid => by
      have hlt := c.t1.lt (Fl.ok _) id hid
      rw [put_ne _ (fun e => by have := c.m1 id hid; have := c.q2.2; omega), re.get id hlt (fun hc => c.d2a id hc hid)]
    m1 := c.m1
    k1 := c.k1
    t2 := c.t2.mv (Fl.ok _) re.le fun id hid => by
      have hlt := c.t2.lt (Fl.ok _) id hid
      rw [put_ne _ (fun e => by have := c.m2 id hid; have := c.q2.2; omega), re.get id hlt (fun hc => c.d2b id hc hid)]
    m2 := c.m2
    k2 := c.k2
    d12 := fun id hid hc => by
      rcases re.of id hc with h | h
      · exact c.d12 id hid h
      · have := c.s1.lt (Fl.ok _) id hid; omega
    d1a := c.d1a
    d1b := c.d1b
    d2a := fun id hid hc => by
      rcases re.of id hid with h | h
      · exact c.d2a id h hc
      · have := c.t1.lt (Fl.ok _) id hc; omega
    d2b := fun id hid hc => by
      rcases re.of id hid with h | h
      · exact c.d2b id h hc
      · have := c.t2.lt (Fl.ok _) id hc; omega
    dab := c.dab
  }
theorem Cut.p1 (c : Cut hb g o1 o2 lo hi a b1 b2 c1 c2 y1 y2 z1 z2 f1 f2 e1 e2) (hl : c1.length ≤ 1048576) (t : Fin) :
    ∃ z1' g' g'' e1', appF (g.push [t.enc]) 9 16 z1 (.sl 9 g.next 0 1) = some (z1', g') ∧ (∀ j n, loadP g' o1 0 j n = cut? [.int .u64 lo, .int .u64 (a - 1), .int .i64 0, .int .i64 0, y1, z1] j n) ∧ storeP g' o1 0 5 [z1'] = some g'' ∧ Cut hb g'' o1 o2 lo hi a b1 b2 (c1 ++ [t]) c2 y1 y2 z1' z2 f1 f2 e1' e2 := by
  have own : ∀ id, id ∈ e1 → g.floor ≤ id := fun id hid => by have := c.m1 id hid; have := c.fl; have := c.hbf; omega
  obtain ⟨z1', g', e1', e, w, re⟩ := c.t1.app1 c.k1 own (by have := c.fl; have := c.hbf; have := c.le; omega) (bytes := 16) (by omega) (by omega) t
  have hno : o1 ∉ e1 := fun hc => by have := c.m1 _ hc; have := c.q1.2; omega
  have hno' : o2 ∉ e1 := fun hc => by have := c.m1 _ hc; have := c.q2.2; omega
  have hg1 : g'.get o1 = some [[.int .u64 lo, .int .u64 (a - 1), .int .i64 0, .int .i64 0, y1, z1]] := (re.get _ (by have := c.q1.2; have := c.le; omega) hno).trans c.r1
  have hg2 : g'.get o2 = some [[.int .u64 a, .int .u64 hi, .int .i64 0, .int .i64 0, y2, z2]] := (re.get _ (by have := c.q2.2; have := c.le; omega) hno').trans c.r2
  have hno2 : ∀ id, id ∈ e1' → id ≠ o1 := fun id hid e => by
    rcases re.of id hid with h | h
    · exact hno (e ▸ h)
    · have := c.q1.2; have := c.le; omega
  have hst : storeP g' o1 0 5 [z1'] = some (g'.put o1 [[.int .u64 lo, .int .u64 (a - 1), .int .i64 0, .int .i64 0, y1, z1']]) := storeP_at (rows := [[.int .u64 lo, .int .u64 (a - 1), .int .i64 0, .int .i64 0, y1, z1]]) (by rw [re.fl, c.fl]; exact c.q1.1) hg1 rfl rfl
  refine ⟨z1', g', _, e1', e, fun j n => loadP_row hg1 rfl j n, hst, ?_⟩
  exact {
    le := Nat.le_trans c.le re.le
    fl := re.fl.trans c.fl
    hbf := c.hbf
    get := fun id h1 h2 h3 => by
      rw [put_ne _ h2, re.get id (by have := c.le; omega) (fun hc => by have := c.m1 id hc; omega)]
      exact c.get id h1 h2 h3
    ne := c.ne
    q1 := c.q1
    q2 := c.q2
    r1 := put_eq _
    r2 := by rw [put_ne _ c.ne.symm]; exact hg2
    s1 := c.s1.mv (Fl.ok _) re.le fun id hid => by
      have hlt := c.s1.lt (Fl.ok _) id hid
      rw [put_ne _ (fun e => by have := c.l1 id hid; have := c.q1.2; omega), re.get id hlt (c.d1a id hid)]
    l1 := c.l1
    n1 := c.n1
    s2 := c.s2.mv (Fl.ok _) re.le fun id hid => by
      have hlt := c.s2.lt (Fl.ok _) id hid
      rw [put_ne _ (fun e => by have := c.l2 id hid; have := c.q1.2; omega), re.get id hlt (c.d2a id hid)]
    l2 := c.l2
    n2 := c.n2
    t1 := w.mv (Fl.ok _) (Nat.le_refl _) fun id hid => put_ne _ (hno2 id hid)
    m1 := fun id hid => by
      rcases re.of id hid with h | h
      · exact c.m1 id h
      · exact Nat.le_trans c.le h
    k1 := re.nd
    t2 := c.t2.mv (Fl.ok _) re.le fun id hid => by
      have hlt := c.t2.lt (Fl.ok _) id hid
      rw [put_ne _ (fun e => by have := c.m2 id hid; have := c.q1.2; omega), re.get id hlt (fun hc => c.dab id hc hid)]
    m2 := c.m2
    k2 := c.k2
    d12 := c.d12
    d1a := fun id hid hc => by
      rcases re.of id hc with h | h
      · exact c.d1a id hid h
      · have := c.s1.lt (Fl.ok _) id hid; omega
    d1b := c.d1b
    d2a := fun id hid hc => by
      rcases re.of id hc with h | h
      · exact c.d2a id hid h
      · have := c.s2.lt (Fl.ok _) id hid; omega
    d2b := c.d2b
    dab := fun id hid hc => by
      rcases re.of id hid with h | h
      · exact c.dab id h hc
      · have := c.t2.lt (Fl.ok _) id hc; omega
  }
theorem Cut.p2 (c : Cut hb g o1 o2 lo hi a b1 b2 c1 c2 y1 y2 z1 z2 f1 f2 e1 e2) (hl : c2.length ≤ 1048576) (t : Fin) :
    ∃ z2' g' g'' e2', appF (g.push [t.enc]) 9 16 z2 (.sl 9 g.next 0 1) = some (z2', g') ∧ (∀ j n, loadP g' o2 0 j n = cut? [.int .u64 a, .int .u64 hi, .int .i64 0, .int .i64 0, y2, z2] j n) ∧ storeP g' o2 0 5 [z2'] = some g'' ∧ Cut hb g'' o1 o2 lo hi a b1 b2 c1 (c2 ++ [t]) y1 y2 z1 z2' f1 f2 e1 e2' := by
  have own : ∀ id, id ∈ e2 → g.floor ≤ id := fun id hid => by have := c.m2 id hid; have := c.fl; have := c.hbf; omega
  obtain ⟨z2', g', e2', e, w, re⟩ := c.t2.app1 c.k2 own (by have := c.fl; have := c.hbf; have := c.le; omega) (bytes := 16) (by omega) (by omega) t
  have hno : o2 ∉ e2 := fun hc => by have := c.m2 _ hc; have := c.q2.2; omega
  have hno' : o1 ∉ e2 := fun hc => by have := c.m2 _ hc; have := c.q1.2; omega
  have hg1 : g'.get o2 = some [[.int .u64 a, .int .u64 hi, .int .i64 0, .int .i64 0, y2, z2]] := (re.get _ (by have := c.q2.2; have := c.le; omega) hno).trans c.r2
  have hg2 : g'.get o1 = some [[.int .u64 lo, .int .u64 (a - 1), .int .i64 0, .int .i64 0, y1, z1]] := (re.get _ (by have := c.q1.2; have := c.le; omega) hno').trans c.r1
  have hno2 : ∀ id, id ∈ e2' → id ≠ o2 := fun id hid e => by
    rcases re.of id hid with h | h
    · exact hno (e ▸ h)
    · have := c.q2.2; have := c.le; omega
  have hst : storeP g' o2 0 5 [z2'] = some (g'.put o2 [[.int .u64 a, .int .u64 hi, .int .i64 0, .int .i64 0, y2, z2']]) := storeP_at (rows := [[.int .u64 a, .int .u64 hi, .int .i64 0, .int .i64 0, y2, z2]]) (by rw [re.fl, c.fl]; exact c.q2.1) hg1 rfl rfl
  refine ⟨z2', g', _, e2', e, fun j n => loadP_row hg1 rfl j n, hst, ?_⟩
  exact {
    le := Nat.le_trans c.le re.le
    fl := re.fl.trans c.fl
    hbf := c.hbf
    get := fun id h1 h2 h3 => by
      rw [put_ne _ h3, re.get id (by have := c.le; omega) (fun hc => by have := c.m2 id hc; omega)]
      exact c.get id h1 h2 h3
    ne := c.ne
    q1 := c.q1
    q2 := c.q2
    r2 := put_eq _
    r1 := by rw [put_ne _ c.ne]; exact hg2
    s1 := c.s1.mv (Fl.ok _) re.le fun id hid => by
      have hlt := c.s1.lt (Fl.ok _) id hid
      rw [put_ne _ (fun e => by have := c.l1 id hid; have := c.q2.2; omega), re.get id hlt (c.d1b id hid)]
    l1 := c.l1
    n1 := c.n1
    s2 := c.s2.mv (Fl.ok _) re.le fun id hid => by
      have hlt := c.s2.lt (Fl.ok _) id hid
      rw [put_ne _ (fun e => by have := c.l2 id hid; have := c.q2.2; omega), re.get id hlt (c.d2b id hid)]
    l2 := c.l2
    n2 := c.n2
    t1 := c.t1.mv (Fl.ok _) re.le fun id hid => by
      have hlt := c.t1.lt (Fl.ok _) id hid
      rw [put_ne _ (fun e => by have := c.m1 id hid; have := c.q2.2; omega), re.get id hlt (c.dab id hid)]
    m1 := c.m1
    k1 := c.k1
    t2 := w.mv (Fl.ok _) (Nat.le_refl _) fun id hid => put_ne _ (hno2 id hid)
    m2 := fun id hid => by
      rcases re.of id hid with h | h
      · exact c.m2 id h
      · exact Nat.le_trans c.le h
    k2 := re.nd
    d12 := c.d12
    d1a := c.d1a
    d1b := fun id hid hc => by
      rcases re.of id hc with h | h
      · exact c.d1b id hid h
      · have := c.s1.lt (Fl.ok _) id hid; omega
    d2a := c.d2a
    d2b := fun id hid hc => by
      rcases re.of id hc with h | h
      · exact c.d2b id hid h
      · have := c.s2.lt (Fl.ok _) id hid; omega
    dab := fun id hid hc => by
      rcases re.of id hc with h | h
      · exact c.dab id hid h
      · have := c.t1.lt (Fl.ok _) id hid; omega
  }
end
end Go.Proofs.Ytlfepembgjjejaa.A
/- A shard is cut, the program's way: the two loops. -/
namespace Go.Proofs.Ytlfepembgjjejaa.A
open Go
set_option linter.unusedSimpArgs false
set_option linter.unusedVariables false
def Account.low (a : Int) (b : Account) : Bool := !decide (b.id ≥ a)
def Account.high (a : Int) (b : Account) : Bool := decide (b.id ≥ a)
def Fin.low (a : Int) (b : Fin) : Bool := !decide (b.id ≥ a)
def Fin.high (a : Int) (b : Fin) : Bool := decide (b.id ≥ a)
section
variable {F : Nat → Option RF} {Z : CallF} {hb g : Heap} {o1 o2 : Nat} {lo hi a e k gr sn : Int} {y y1 y2 x z : Cell} {f1 f2 e1 e2 fp : List Nat} {xs : List Account} {zs : List Fin}
abbrev cutSt1 (a e k gr sn : Int) (o1 o2 : Nat) (X : List Cell) (y x : Cell) (n i : Nat) (g : Heap) : St :=
  ⟨[(1, .c (.int .u64 a)), (2, .c (.int .i64 e)), (9, .c (.int .i64 k)), (11, .c (.ptr o1 0 0)), (12, .c (.ptr o2 0 0)), (74, .c x), (75, .c (.int .i64 (n : Nat))), (76, .c (.int .i64 (i : Nat)))], [(6, 6, 0), (8, 8, 0), (10, 10, 0)], [(6, [.int .i64 0, .int .i64 0, .nil]), (8, [.int .i64 gr, .int .i64 sn, y]), (10, X)], g⟩
abbrev cutSt2 (a e k gr sn : Int) (o1 o2 : Nat) (y x : Cell) (n i : Nat) (g : Heap) : St :=
  ⟨[(1, .c (.int .u64 a)), (2, .c (.int .i64 e)), (9, .c (.int .i64 k)), (11, .c (.ptr o1 0 0)), (12, .c (.ptr o2 0 0)), (98, .c x), (99, .c (.int .i64 (n : Nat))), (100, .c (.int .i64 (i : Nat)))], [(6, 6, 0), (8, 8, 0)], [(6, [.int .i64 0, .int .i64 0, .nil]), (8, [.int .i64 gr, .int .i64 sn, y])], g⟩
set_option maxHeartbeats 1000000 in
theorem cut_loop1 (w : SlR 11 (Fl Account.enc) hb x xs fp) (hlt : ∀ id, id ∈ fp → id ≠ o1 ∧ id ≠ o2) (hl : xs.length ≤ 1048576) (X : List Cell) (c0 : Cut hb g o1 o2 lo hi a [] [] [] [] .nil .nil .nil .nil [] [] [] []) :
    ∃ g' y1 y2 f1 f2, loop F Z [1, 2, 6, 8, 9, 10, 11, 12, 74, 75, 76] r312L1 (cutSt1 a e k gr sn o1 o2 X y x xs.length 0 g) = loop F Z [1, 2, 6, 8, 9, 10, 11, 12, 74, 75, 76] r312L1 (cutSt1 a e k gr sn o1 o2 X y x xs.length xs.length g') ∧
      Cut hb g' o1 o2 lo hi a (xs.filter (Account.low a)) (xs.filter (Account.high a)) [] [] y1 y2 .nil .nil f1 f2 [] [] := by
  have hle := w.le2
  obtain ⟨s', ⟨g', y1, y2, f1, f2, hs, c⟩, lp⟩ := loop_goes (F := F) (Z := Z) (live := [1, 2, 6, 8, 9, 10, 11, 12, 74, 75, 76]) (b := r312L1) xs.length (fun i st => ∃ g y1 y2 f1 f2, st = cutSt1 a e k gr sn o1 o2 X y x xs.length i g ∧ Cut hb g o1 o2 lo hi a ((xs.take i).filter (Account.low a)) ((xs.take i).filter (Account.high a)) [] [] y1 y2 .nil .nil f1 f2 [] []) (fun i st hi' ⟨g, y1, y2, f1, f2, hs, c⟩ => by
    subst hs
    have hlt' : (i : Int) < xs.length := by omega
    have hws := wrapS i (by omega)
    have hxi := w.idx hi'
    have w' := w.mv (h' := g) (Fl.ok _) c.le fun id hid => c.get id (w.lt (Fl.ok _) id hid) (hlt id hid).1 (hlt id hid).2
    have hld := w'.load hi'
    have hf1 := filter_next (Account.low a) hi'
    have hf2 := filter_next (Account.high a) hi'
    have hn1 := filter_len (Account.low a) xs i
    have hn2 := filter_len (Account.high a) xs i
    have hc1 := c.load1
    have hc2 := c.load2
    simp only [cutSt1]
    rw [loop_run]
    conv in (codeF _ _ r312L1 _) => unfold r312L1
    generalize xs[i] = b at *
    simp only [Account.enc] at hld
    by_cases c1 : b.id ≥ a
    · obtain ⟨y', g1, g2, f', e1, hl1, e2, c'⟩ := c.a2 (by omega) b
      rw [show (xs.take (i + 1)).filter (Account.low a) = (xs.take i).filter (Account.low a) from by rw [hf1]; simp [Account.low, c1], show (xs.take (i + 1)).filter (Account.high a) = (xs.take i).filter (Account.high a) ++ [b] from by rw [hf2]; simp [Account.high, c1]]
      simp only [Account.enc] at e1
      simp only [run0, run1, run2, run3, run4, noSlot, ownS, ownK, memN, RO.dst, lk, drop, forget, number, Nat.reduceBEq, cut?, splice?, builds, List.length_cons, List.length_nil, List.drop_succ_cons, List.drop_zero, List.take_succ_cons, List.take_zero, List.cons_append, List.nil_append, List.append_nil, List.drop_nil, List.take_nil, Nat.reduceAdd, Nat.reduceLeDiff, Nat.zero_add, Nat.add_zero, ↓reduceIte, Bool.not_true, Bool.not_false, decide_true, decide_false, eq_self, bne_self_eq_false, List.getElem?_cons_zero, List.getElem?_cons_succ, decide_eq_true_eq, Bool.false_eq_true, Bool.true_eq_false, reduceCtorEq, Nat.le_refl, hlt', hxi, hld, c1, hc2, List.replicate_succ, List.replicate_zero, fills, and_self, Nat.zero_lt_one, List.set_cons_zero, e1, e2, hws]
      exact ⟨_, ⟨_, _, _, _, _, rfl, c'⟩, rfl⟩
    · obtain ⟨y', g1, g2, f', e1, hl1, e2, c'⟩ := c.a1 (by omega) b
      rw [show (xs.take (i + 1)).filter (Account.low a) = (xs.take i).filter (Account.low a) ++ [b] from by rw [hf1]; simp [Account.low, c1], show (xs.take (i + 1)).filter (Account.high a) = (xs.take i).filter (Account.high a) from by rw [hf2]; simp [Account.high, c1]]
      simp only [Account.enc] at e1
      simp only [run0, run1, run2, run3, run4, noSlot, ownS, ownK, memN, RO.dst, lk, drop, forget, number, Nat.reduceBEq, cut?, splice?, builds, List.length_cons, List.length_nil, List.drop_succ_cons, List.drop_zero, List.take_succ_cons, List.take_zero, List.cons_append, List.nil_append, List.append_nil, List.drop_nil, List.take_nil, Nat.reduceAdd, Nat.reduceLeDiff, Nat.zero_add, Nat.add_zero, ↓reduceIte, Bool.not_true, Bool.not_false, decide_true, decide_false, eq_self, bne_self_eq_false, List.getElem?_cons_zero, List.getElem?_cons_succ, decide_eq_true_eq, Bool.false_eq_true, Bool.true_eq_false, reduceCtorEq, Nat.le_refl, hlt', hxi, hld, c1, hc1, List.replicate_succ, List.replicate_zero, fills, and_self, Nat.zero_lt_one, List.set_cons_zero, e1, e2, hws]
      exact ⟨_, ⟨_, _, _, _, _, rfl, c'⟩, rfl⟩) (s := cutSt1 a e k gr sn o1 o2 X y x xs.length 0 g) ⟨g, _, _, _, _, rfl, c0⟩
  subst hs
  rw [List.take_length] at c
  exact ⟨g', y1, y2, f1, f2, lp, c⟩
set_option maxHeartbeats 1000000 in
theorem cut_loop2 {bs1 bs2 : List Account} (w : SlR 9 (Fl Fin.enc) hb x zs fp) (hlt : ∀ id, id ∈ fp → id ≠ o1 ∧ id ≠ o2) (hl : zs.length ≤ 1048576) (c0 : Cut hb g o1 o2 lo hi a bs1 bs2 [] [] y1 y2 .nil .nil f1 f2 [] []) :
    ∃ g' z1 z2 e1 e2, loop F Z [1, 2, 6, 8, 9, 11, 12, 98, 99, 100] r312L0 (cutSt2 a e k gr sn o1 o2 y x zs.length 0 g) = loop F Z [1, 2, 6, 8, 9, 11, 12, 98, 99, 100] r312L0 (cutSt2 a e k gr sn o1 o2 y x zs.length zs.length g') ∧
      Cut hb g' o1 o2 lo hi a bs1 bs2 (zs.filter (Fin.low a)) (zs.filter (Fin.high a)) y1 y2 z1 z2 f1 f2 e1 e2 := by
  have hle := w.le2
  obtain ⟨s', ⟨g', z1, z2, e1, e2, hs, c⟩, lp⟩ := loop_goes (F := F) (Z := Z) (live := [1, 2, 6, 8, 9, 11, 12, 98, 99, 100]) (b := r312L0) zs.length (fun i st => ∃ g z1 z2 e1 e2, st = cutSt2 a e k gr sn o1 o2 y x zs.length i g ∧ Cut hb g o1 o2 lo hi a bs1 bs2 ((zs.take i).filter (Fin.low a)) ((zs.take i).filter (Fin.high a)) y1 y2 z1 z2 f1 f2 e1 e2) (fun i st hi' ⟨g, z1, z2, e1, e2, hs, c⟩ => by
    subst hs
    have hlt' : (i : Int) < zs.length := by omega
    have hws := wrapS i (by omega)
    have hxi := w.idx hi'
    have w' := w.mv (h' := g) (Fl.ok _) c.le fun id hid => c.get id (w.lt (Fl.ok _) id hid) (hlt id hid).1 (hlt id hid).2
    have hld := w'.load hi'
    have hf1 := filter_next (Fin.low a) hi'
    have hf2 := filter_next (Fin.high a) hi'
    have hn1 := filter_len (Fin.low a) zs i
    have hn2 := filter_len (Fin.high a) zs i
    have hc1 := c.load1
    have hc2 := c.load2
    simp only [cutSt2]
    rw [loop_run]
    conv in (codeF _ _ r312L0 _) => unfold r312L0
    generalize zs[i] = b at *
    simp only [Fin.enc] at hld
    by_cases c1 : b.id ≥ a
    · obtain ⟨y', g1, g2, f', e1, hl1, e2, c'⟩ := c.p2 (by omega) b
      rw [show (zs.take (i + 1)).filter (Fin.low a) = (zs.take i).filter (Fin.low a) from by rw [hf1]; simp [Fin.low, c1], show (zs.take (i + 1)).filter (Fin.high a) = (zs.take i).filter (Fin.high a) ++ [b] from by rw [hf2]; simp [Fin.high, c1]]
      simp only [Fin.enc] at e1
      simp only [run0, run1, run2, run3, run4, noSlot, ownS, ownK, memN, RO.dst, lk, drop, forget, number, Nat.reduceBEq, cut?, splice?, builds, List.length_cons, List.length_nil, List.drop_succ_cons, List.drop_zero, List.take_succ_cons, List.take_zero, List.cons_append, List.nil_append, List.append_nil, List.drop_nil, List.take_nil, Nat.reduceAdd, Nat.reduceLeDiff, Nat.zero_add, Nat.add_zero, ↓reduceIte, Bool.not_true, Bool.not_false, decide_true, decide_false, eq_self, bne_self_eq_false, List.getElem?_cons_zero, List.getElem?_cons_succ, decide_eq_true_eq, Bool.false_eq_true, Bool.true_eq_false, reduceCtorEq, Nat.le_refl, hlt', hxi, hld, c1, hc2, List.replicate_succ, List.replicate_zero, fills, and_self, Nat.zero_lt_one, List.set_cons_zero, e1, e2, hws]
      exact ⟨_, ⟨_, _, _, _, _, rfl, c'⟩, rfl⟩
    · obtain ⟨y', g1, g2, f', e1, hl1, e2, c'⟩ := c.p1 (by omega) b
      rw [show (zs.take (i + 1)).filter (Fin.low a) = (zs.take i).filter (Fin.low a) ++ [b] from by rw [hf1]; simp [Fin.low, c1], show (zs.take (i + 1)).filter (Fin.high a) = (zs.take i).filter (Fin.high a) from by rw [hf2]; simp [Fin.high, c1]]
      simp only [Fin.enc] at e1
      simp only [run0, run1, run2, run3, run4, noSlot, ownS, ownK, memN, RO.dst, lk, drop, forget, number, Nat.reduceBEq, cut?, splice?, builds, List.length_cons, List.length_nil, List.drop_succ_cons, List.drop_zero, List.take_succ_cons, List.take_zero, List.cons_append, List.nil_append, List.append_nil, List.drop_nil, List.take_nil, Nat.reduceAdd, Nat.reduceLeDiff, Nat.zero_add, Nat.add_zero, ↓reduceIte, Bool.not_true, Bool.not_false, decide_true, decide_false, eq_self, bne_self_eq_false, List.getElem?_cons_zero, List.getElem?_cons_succ, decide_eq_true_eq, Bool.false_eq_true, Bool.true_eq_false, reduceCtorEq, Nat.le_refl, hlt', hxi, hld, c1, hc1, List.replicate_succ, List.replicate_zero, fills, and_self, Nat.zero_lt_one, List.set_cons_zero, e1, e2, hws]
      exact ⟨_, ⟨_, _, _, _, _, rfl, c'⟩, rfl⟩) (s := cutSt2 a e k gr sn o1 o2 y x zs.length 0 g) ⟨g, _, _, _, _, rfl, c0⟩
  subst hs
  rw [List.take_length] at c
  exact ⟨g', z1, z2, e1, e2, lp, c⟩
end
/-- What the loops gather is what lies within. -/
def Shard.one0 (x : Shard) (a : Int) : Shard := ⟨x.lo, a - 1, 0, 0, ⟨x.book.list.filter (Account.low a)⟩, x.finished.filter (Fin.low a)⟩
def Shard.two0 (x : Shard) (a : Int) : Shard := ⟨a, x.hi, 0, 0, ⟨x.book.list.filter (Account.high a)⟩, x.finished.filter (Fin.high a)⟩
theorem Shard.accs {x : Shard} (g : x.good = true) : ∀ b, b ∈ x.book.list → x.lo ≤ b.id ∧ b.id ≤ x.hi := fun b hb => by
  simp only [Shard.good, Bool.and_eq_true, List.all_eq_true] at g
  have := g.2.1 b hb
  simp only [Shard.acc, Bool.and_eq_true, decide_eq_true_eq] at this
  exact ⟨this.1, this.2.1⟩
theorem Shard.fins {x : Shard} (g : x.good = true) : ∀ b, b ∈ x.finished → x.lo ≤ b.id ∧ b.id ≤ x.hi := fun b hb => by
  obtain ⟨i, hi, rfl⟩ := List.mem_iff_getElem.1 hb
  simp only [Shard.good, Bool.and_eq_true, List.all_eq_true, List.mem_range] at g
  have := g.2.2 i hi
  simp only [Shard.finAt, Bool.and_eq_true, decide_eq_true_eq, Fin.at_, List.getElem?_eq_getElem hi, Option.getD_some] at this
  exact ⟨this.2.1, this.2.2.1⟩
theorem Shard.one_renew {x : Shard} (g : x.good = true) (hs : x.state = 0) (a e : Int) : Shard.renew e (x.one0 a) = Shard.renew e (x.one_ a e) := by
  have h1 : x.book.list.filter (Account.low a) = x.book.list.filter (Account.inside x.lo (a - 1)) := List.filter_congr fun b hb => by
    have := Shard.accs g b hb
    simp only [Account.low, Account.inside]
    rw [Bool.eq_iff_iff]
    simp only [Bool.not_eq_true', decide_eq_false_iff_not, Bool.and_eq_true, decide_eq_true_eq]
    omega
  have h2 : x.finished.filter (Fin.low a) = x.finished.filter (Fin.inside x.lo (a - 1)) := List.filter_congr fun b hb => by
    have := Shard.fins g b hb
    simp only [Fin.low, Fin.inside]
    rw [Bool.eq_iff_iff]
    simp only [Bool.not_eq_true', decide_eq_false_iff_not, Bool.and_eq_true, decide_eq_true_eq]
    omega
  simp only [Shard.renew, Shard.one0, Shard.one_, Shard.within, hs, h1, h2, beq_self_eq_true, cond_true]
theorem Shard.two_renew {x : Shard} (g : x.good = true) (hs : x.state = 0) (a e : Int) : Shard.renew e (x.two0 a) = Shard.renew e (x.two_ a e) := by
  have h1 : x.book.list.filter (Account.high a) = x.book.list.filter (Account.inside a x.hi) := List.filter_congr fun b hb => by
    have := Shard.accs g b hb
    simp only [Account.high, Account.inside]
    rw [Bool.eq_iff_iff]
    simp only [Bool.and_eq_true, decide_eq_true_eq]
    omega
  have h2 : x.finished.filter (Fin.high a) = x.finished.filter (Fin.inside a x.hi) := List.filter_congr fun b hb => by
    have := Shard.fins g b hb
    simp only [Fin.high, Fin.inside]
    rw [Bool.eq_iff_iff]
    simp only [Bool.and_eq_true, decide_eq_true_eq]
    omega
  simp only [Shard.renew, Shard.two0, Shard.two_, Shard.within, hs, h1, h2, beq_self_eq_true, cond_true]
def Store.cut0 (s : Store) (k : Nat) (a : Int) : Store := { s with shards := (s.shards.set k ((Shard.at_ s.shards k).one0 a)).take (k + 1) ++ [(Shard.at_ s.shards k).two0 a] ++ (s.shards.set k ((Shard.at_ s.shards k).one0 a)).drop (k + 1) }
theorem Store.cut_renew {s : Store} {k : Nat} (hk : k < s.shards.length) (g : (Shard.at_ s.shards k).good = true) (hs : (Shard.at_ s.shards k).state = 0) (a e : Int) : (s.cut0 k a).renew e = (s.cutAt k a e).renew e := by
  have h1 : (s.shards.set k ((Shard.at_ s.shards k).one0 a)).take (k + 1) = s.shards.take k ++ [(Shard.at_ s.shards k).one0 a] := by
    rw [List.take_add_one, List.getElem?_set_self hk, List.take_set_of_le (Nat.le_refl _)]; rfl
  have h2 : (s.shards.set k ((Shard.at_ s.shards k).one0 a)).drop (k + 1) = s.shards.drop (k + 1) := List.drop_set_of_lt (by omega)
  simp only [Store.renew, Store.cut0, Store.cutAt, h1, h2, List.map_append, List.map_cons, List.map_nil, Shard.one_renew g hs a e, Shard.two_renew g hs a e, List.append_assoc, List.cons_append, List.nil_append]
end Go.Proofs.Ytlfepembgjjejaa.A
