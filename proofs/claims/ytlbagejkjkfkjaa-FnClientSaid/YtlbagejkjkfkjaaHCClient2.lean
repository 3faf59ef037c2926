/- The functions that the statement reaches, part 2: bodies and what they compute. No condition. -/
import Derived.Test.YtlbagejkjkfkjaaHCClient1
import Derived.Test.YtlbagejkjkfkjaaD
import Derived.Test.YtlbagejkjkfkjaaA1
import Derived.Test.YtlbagejkjkfkjaaZ6
import Derived.Test.YtlbagejkjkfkjaaB9
/- One row of data with memory is turned in place. -/
namespace Go.Proofs.Ytlbagejkjkfkjaa.A
open Go
set_option linter.unusedSimpArgs false
set_option linter.unusedVariables false
theorem flat_set_mem {fq : List Nat} {id : Nat} : ∀ (fps : List (List Nat)) (i : Nat), id ∈ (fps.set i fq).flatten → id ∈ fps.flatten ∨ id ∈ fq
  | [], i, h => by simp at h
  | f :: r, 0, h => by
    simp only [List.set_cons_zero, List.flatten_cons, List.mem_append] at h ⊢
    rcases h with h | h
    · exact .inr h
    · exact .inl (.inr h)
  | f :: r, i + 1, h => by
    simp only [List.set_cons_succ, List.flatten_cons, List.mem_append] at h ⊢
    rcases h with h | h
    · exact .inl (.inl h)
    · rcases flat_set_mem r i h with h | h
      · exact .inl (.inr h)
      · exact .inr h
theorem flat_set_nodup {fq : List Nat} (nq : fq.Nodup) : ∀ (fps : List (List Nat)) (i : Nat) (f : List Nat), fps[i]? = some f → fps.flatten.Nodup → (∀ id, id ∈ fq → id ∈ f ∨ id ∉ fps.flatten) → (fps.set i fq).flatten.Nodup
  | [], i, f, h, _, _ => by simp at h
  | g :: r, 0, f, h, nd, hd => by
    simp only [List.getElem?_cons_zero, Option.some.injEq] at h
    subst h
    simp only [List.set_cons_zero, List.flatten_cons] at nd ⊢
    obtain ⟨n1, n2, n3⟩ := List.nodup_append.1 nd
    refine List.nodup_append.2 ⟨nq, n2, fun a ha b hb e => ?_⟩
    subst e
    rcases hd a ha with h | h
    · exact n3 a h a hb rfl
    · exact h (by rw [List.flatten_cons, List.mem_append]; exact .inr hb)
  | g :: r, i + 1, f, h, nd, hd => by
    simp only [List.getElem?_cons_succ] at h
    simp only [List.set_cons_succ, List.flatten_cons] at nd ⊢
    obtain ⟨n1, n2, n3⟩ := List.nodup_append.1 nd
    refine List.nodup_append.2 ⟨n1, flat_set_nodup nq r i f h n2 fun id hid => ?_, fun a ha b hb e => ?_⟩
    · rcases hd id hid with h | h
      · exact .inl h
      · exact .inr fun hc => h (by rw [List.flatten_cons, List.mem_append]; exact .inr hc)
    · subst e
      rcases flat_set_mem r i hb with hb | hb
      · exact n3 a ha a hb rfl
      · rcases hd a hb with h' | h'
        · exact n3 a ha a (List.mem_flatten.2 ⟨f, List.mem_of_getElem? h, h'⟩) rfl
        · exact h' (by rw [List.flatten_cons, List.mem_append]; exact .inl ha)
section
variable {α : Type} {R : Rel α} {tag : Nat} {h0 h g : Heap} {x : Cell} {xs : List α} {fp fq : List Nat}
theorem AllR.set {r : List Cell} {t : α} (w1 : R h r t fq) : ∀ {rows : List (List Cell)} {xs : List α} {fps : List (List Nat)}, AllR R h rows xs fps → ∀ (i : Nat), AllR R h (rows.set i r) (xs.set i t) (fps.set i fq)
  | [], [], [], _, _ => trivial
  | _ :: _, _ :: _, _ :: _, ⟨_, w⟩, 0 => ⟨w1, w⟩
  | _ :: _, _ :: _, _ :: _, ⟨w0, w⟩, i + 1 => ⟨w0, AllR.set w1 w i⟩
  | [], [], _ :: _, w, _ => w.elim
  | [], _ :: _, _, w, _ => w.elim
  | _ :: _, [], _, w, _ => w.elim
  | _ :: _, _ :: _, [], w, _ => w.elim
/-- One row, and what a store into it leaves. -/
theorem SlR.setRow (ok : RelOk R) (w : SlR tag R h x xs fp) (nd : fp.Nodup) (hfl : ∀ id, id ∈ fp → h.floor ≤ id) {i : Nat} (hi : i < xs.length) :
    ∃ r f, ∃ rows : List (List Cell), R h r xs[i] f ∧ (∀ id, id ∈ f → id ∈ fp) ∧ f.Nodup ∧ x.sid ∈ fp ∧ x.sid ∉ f ∧ (∀ j n, loadP h x.sid i j n = cut? r j n) ∧ (∀ j new r', splice? r j new = some r' → storeP h x.sid i j new = some (h.put x.sid (rows.set i r'))) ∧
      ∀ r' t' fq, R h r' t' fq → fq.Nodup → (∀ id, id ∈ fq → id ∈ f ∨ id ∉ fp) → ∃ fp', SlR tag R (h.put x.sid (rows.set i r')) x (xs.set i t') fp' ∧ fp'.Nodup ∧ ∀ id, id ∈ fp' → id ∈ fp ∨ id ∈ fq := by
  rcases w with ⟨hl, ⟨rfl, rfl, rfl⟩ | ⟨id, rows, fps, rfl, q1, q2, rfl, q3⟩⟩
  · exact absurd hi (Nat.not_lt_zero _)
  obtain ⟨r, f, e1, e2, v⟩ := q3.at i hi
  have hn := List.nodup_cons.1 nd
  have hin : ∀ j, j ∈ f → j ∈ fps.flatten := fun j hj => List.mem_flatten.2 ⟨f, List.mem_of_getElem? e2, hj⟩
  have hfn : f.Nodup := by
    have : ∀ (fps : List (List Nat)) (i : Nat), fps[i]? = some f → fps.flatten.Nodup → f.Nodup := by
      intro fps
      induction fps with
      | nil => intro i h _; simp at h
      | cons g r ih =>
        intro i h nd
        rw [List.flatten_cons] at nd
        obtain ⟨n1, n2, _⟩ := List.nodup_append.1 nd
        cases i with
        | zero => simp only [List.getElem?_cons_zero, Option.some.injEq] at h; exact h ▸ n1
        | succ i => exact ih i (by simpa using h) n2
    exact this fps i e2 hn.2
  refine ⟨r, f, rows, v, fun j hj => List.mem_cons_of_mem _ (hin j hj), hfn, by simp [Cell.sid], fun hc => hn.1 (hin _ hc), fun j n => by simp [loadP, rowOf, Cell.sid, q1, e1], fun j new r' hs => ?_, fun r' t' fq v' nq hd => ?_⟩
  · exact storeP_at (hfl _ (by simp [Cell.sid])) q1 e1 hs
  · have hne : ∀ j, j ∈ fq → j ≠ id := fun j hj e => by
      rcases hd j hj with h1 | h1
      · exact hn.1 (e ▸ hin j h1)
      · exact h1 (by rw [e]; simp)
    refine ⟨id :: (fps.set i fq).flatten, ⟨by simpa using hl, .inr ⟨id, rows.set i r', fps.set i fq, by simp, by simp [Heap.put, Cell.sid], q2, rfl, ?_⟩⟩, ?_, ?_⟩
    · have v'' : R (h.put id (rows.set i r')) r' t' fq := ok.mv v' (Nat.le_refl _) fun j hj => put_ne _ (hne j hj)
      exact AllR.set v'' (q3.mv (h' := h.put id (rows.set i r')) ok (Nat.le_refl _) fun j hj => put_ne _ fun e => hn.1 (e ▸ hj)) i
    · rw [List.nodup_cons]
      refine ⟨fun hc => ?_, flat_set_nodup nq fps i f e2 hn.2 fun j hj => ?_⟩
      · rcases flat_set_mem _ _ hc with hc | hc
        · exact hn.1 hc
        · exact hne _ hc rfl
      · rcases hd j hj with h1 | h1
        · exact .inl h1
        · exact .inr fun hc => h1 (List.mem_cons_of_mem _ hc)
    · intro j hj
      rcases List.mem_cons.1 hj with rfl | hj
      · exact .inl (by simp)
      · rcases flat_set_mem _ _ hj with hj | hj
        · exact .inl (List.mem_cons_of_mem _ hj)
        · exact .inr hj
theorem AllR.turn (ok : RelOk R) {h' : Heap} (hn : h.next ≤ h'.next) {r' : List Cell} {t' : α} : ∀ {rows : List (List Cell)} {xs : List α} {fps : List (List Nat)}, AllR R h rows xs fps → ∀ (i : Nat) (f : List Nat), fps[i]? = some f → fps.flatten.Nodup →
    (∀ id, id ∈ fps.flatten → id ∉ f → h'.get id = h.get id) → R h' r' t' f → AllR R h' (rows.set i r') (xs.set i t') fps
  | [], [], [], _, i, f, e, _, _, _ => by simp at e
  | r :: rs, a :: bs, g :: gs, ⟨w0, w⟩, 0, f, e, nd, hg, v => by
    simp only [List.getElem?_cons_zero, Option.some.injEq] at e
    subst e
    rw [List.flatten_cons] at nd
    obtain ⟨n1, n2, n3⟩ := List.nodup_append.1 nd
    exact ⟨v, w.mv ok hn fun id hid => hg id (by rw [List.flatten_cons, List.mem_append]; exact .inr hid) fun hf => n3 id hf id hid rfl⟩
  | r :: rs, a :: bs, g :: gs, ⟨w0, w⟩, i + 1, f, e, nd, hg, v => by
    simp only [List.getElem?_cons_succ] at e
    rw [List.flatten_cons] at nd
    obtain ⟨n1, n2, n3⟩ := List.nodup_append.1 nd
    exact ⟨ok.mv w0 hn fun id hid => hg id (by rw [List.flatten_cons, List.mem_append]; exact .inl hid) fun hf => n3 id hid id (List.mem_flatten.2 ⟨f, List.mem_of_getElem? e, hf⟩) rfl,
      AllR.turn ok hn w i f e n2 (fun id hid hf => hg id (by rw [List.flatten_cons, List.mem_append]; exact .inr hid) hf) v⟩
  | [], [], _ :: _, w, _, _, _, _, _, _ => w.elim
  | [], _ :: _, _, w, _, _, _, _, _, _ => w.elim
  | _ :: _, [], _, w, _, _, _, _, _, _ => w.elim
  | _ :: _, _ :: _, [], w, _, _, _, _, _, _ => w.elim
theorem flat_at_nodup {f : List Nat} : ∀ (fps : List (List Nat)) (i : Nat), fps[i]? = some f → fps.flatten.Nodup → f.Nodup
  | [], i, h, _ => by simp at h
  | g :: r, i, h, nd => by
    rw [List.flatten_cons] at nd
    obtain ⟨n1, n2, _⟩ := List.nodup_append.1 nd
    cases i with
    | zero => simp only [List.getElem?_cons_zero, Option.some.injEq] at h; exact h ▸ n1
    | succ i => exact flat_at_nodup r i (by simpa using h) n2
/-- One element with its own memory is turned. -/
theorem SlR.turn (ok : RelOk R) (w : SlR tag R h x xs fp) (nd : fp.Nodup) {i : Nat} (hi : i < xs.length) :
    ∃ r f, ∃ rows : List (List Cell), R h r xs[i] f ∧ (∀ id, id ∈ f → id ∈ fp) ∧ f.Nodup ∧ x.sid ∈ fp ∧ x.sid ∉ f ∧ x.sid < h.next ∧ h.get x.sid = some rows ∧ rows[i]? = some r ∧ i < rows.length ∧
      ∀ h' r' t', h.next ≤ h'.next → (∀ id, id ∈ fp → id ≠ x.sid → id ∉ f → h'.get id = h.get id) → h'.get x.sid = some (rows.set i r') → R h' r' t' f → SlR tag R h' x (xs.set i t') fp := by
  rcases w with ⟨hl, ⟨rfl, rfl, rfl⟩ | ⟨id, rows, fps, rfl, q1, q2, rfl, q3⟩⟩
  · exact absurd hi (Nat.not_lt_zero _)
  obtain ⟨r, f, e1, e2, v⟩ := q3.at i hi
  have hn := List.nodup_cons.1 nd
  have hin : ∀ j, j ∈ f → j ∈ fps.flatten := fun j hj => List.mem_flatten.2 ⟨f, List.mem_of_getElem? e2, hj⟩
  refine ⟨r, f, rows, v, fun j hj => List.mem_cons_of_mem _ (hin j hj), flat_at_nodup fps i e2 hn.2, by simp [Cell.sid], fun hc => hn.1 (hin _ hc), q2, q1, e1, by rw [q3.len]; exact hi, fun h' r' t' hn' hg hg' v' => ?_⟩
  refine ⟨by simpa using hl, .inr ⟨id, rows.set i r', fps, by simp, hg', Nat.lt_of_lt_of_le q2 hn', rfl, ?_⟩⟩
  exact q3.turn ok hn' i f e2 hn.2 (fun j hj hf => hg j (List.mem_cons_of_mem _ hj) (fun e => hn.1 (by simp only [Cell.sid] at e; exact e ▸ hj)) hf) v'
theorem loadP_row {h : Heap} {id i : Nat} {rows : List (List Cell)} {r : List Cell} (hg : h.get id = some rows) (hi : rows[i]? = some r) (j n : Nat) : loadP h id i j n = cut? r j n := by simp [loadP, rowOf, hg, hi]
theorem loadP_put {h : Heap} {id i : Nat} {rows : List (List Cell)} (hi : i < rows.length) (r : List Cell) (j n : Nat) : loadP (h.put id (rows.set i r)) id i j n = cut? r j n := loadP_row (rows := rows.set i r) (by simp [Heap.put]) (List.getElem?_set_self hi) j n
theorem put_row {h : Heap} {id i : Nat} {rows : List (List Cell)} {r : List Cell} (hg : h.get id = some rows) (hi : rows[i]? = some r) : h.put id (rows.set i r) = h := by
  have : rows.set i r = rows := by
    apply List.ext_getElem?
    intro j
    by_cases e : i = j
    · subst e
      have hlt : i < rows.length := by
        rcases Nat.lt_or_ge i rows.length with hlt | hge
        · exact hlt
        · rw [List.getElem?_eq_none hge] at hi; cases hi
      rw [List.getElem?_set_self hlt, hi]
    · rw [List.getElem?_set_ne e]
  rw [this]; exact put_same hg
end
end Go.Proofs.Ytlbagejkjkfkjaa.A
/- Loops that look for one, behind which the heap goes on; rows that are shown twice. -/
namespace Go.Proofs.Ytlbagejkjkfkjaa.A
open Go
set_option linter.unusedSimpArgs false
set_option linter.unusedVariables false
section
variable {F : Nat → Option RF} {Z : CallF} {live : List Nat} {b : RC}
theorem loop_findO {α : Type} (xs : List α) (p : α → Bool) (st : Nat → Heap → St) (h : Heap) (Q : Nat → St → Prop)
    (hs : ∀ i (hi : i < xs.length) g, On h g → TurnO (loop F Z live b (st i g)) (fun g' => loop F Z live b (st (i + 1) g')) g (!p xs[i]) (Q i)) :
    (xs.findIdx? p = none ∧ ∃ g, On h g ∧ loop F Z live b (st 0 h) = loop F Z live b (st xs.length g)) ∨ ∃ i, xs.findIdx? p = some i ∧ i < xs.length ∧ ∃ s, loop F Z live b (st 0 h) = some (.ret, s) ∧ On h s.hp ∧ Q i s := by
  have key : ∀ n, n ≤ xs.length → ((∀ i (hi : i < xs.length), i < n → p xs[i] = false) ∧ ∃ g, On h g ∧ loop F Z live b (st 0 h) = loop F Z live b (st n g)) ∨ ∃ i, xs.findIdx? p = some i ∧ i < xs.length ∧ ∃ s, loop F Z live b (st 0 h) = some (.ret, s) ∧ On h s.hp ∧ Q i s := by
    intro n
    induction n with
    | zero => intro _; exact .inl ⟨fun i hi h => absurd h (Nat.not_lt_zero _), h, On.refl h, rfl⟩
    | succ n ih =>
      intro hn
      rcases ih (by omega) with ⟨h1, g, og, h2⟩ | h
      · rcases hs n (by omega) g og with ⟨h3, g', og', h4⟩ | ⟨h3, s, h4, os, h5⟩
        · refine .inl ⟨fun i hi hl => ?_, g', og.trans og', h2.trans h4⟩
          by_cases he : i = n
          · subst he; simpa using h3
          · exact h1 i hi (by omega)
        · refine .inr ⟨n, ?_, by omega, s, h2.trans h4, og.trans os, h5⟩
          rw [List.findIdx?_eq_some_iff_getElem]
          refine ⟨by omega, by simpa using h3, fun j hj => ?_⟩
          simpa using h1 j (by omega) (by omega)
      · exact .inr h
  rcases key xs.length (Nat.le_refl _) with ⟨h1, g, og, h2⟩ | h
  · refine .inl ⟨?_, g, og, h2⟩
    rw [List.findIdx?_eq_none_iff]
    intro a ha
    obtain ⟨i, hi, rfl⟩ := List.mem_iff_getElem.1 ha
    exact h1 i hi hi
  · exact .inr h
end
theorem findI_any {α : Type} (p : α → Bool) (xs : List α) : decide (findI p xs ≥ 0) = xs.any p := by
  unfold findI
  cases hf : xs.findIdx? p with
  | none =>
    rw [List.findIdx?_eq_none_iff] at hf
    have : xs.any p = false := by rw [List.any_eq_false]; intro a ha; simp [hf a ha]
    rw [this]; rfl
  | some i =>
    rw [List.findIdx?_eq_some_iff_getElem] at hf
    obtain ⟨h1, h2, _⟩ := hf
    have : xs.any p = true := List.any_eq_true.2 ⟨_, List.getElem_mem h1, h2⟩
    rw [this]; simp
section
variable {α : Type} {R : Rel α} {tag : Nat} {h0 h g : Heap} {x : Cell} {xs ys : List α} {fp fq : List Nat}
theorem SlR.rowsM (w : SlR tag R h x xs fp) : ∃ rows fps, rowsOf h x = some rows ∧ AllR R h rows xs fps := by
  rcases w with ⟨_, ⟨rfl, rfl, rfl⟩ | ⟨id, rows, fps, rfl, q1, q2, rfl, q3⟩⟩
  · exact ⟨[], [], rfl, trivial⟩
  · refine ⟨rows, fps, ?_, q3⟩
    have := q3.len
    simp only [rowsOf, q1, Option.bind_some, Nat.zero_add]
    rw [if_pos (by omega), List.drop_zero, List.take_of_length_le (by omega)]
theorem AllR.app : ∀ {r1 r2 : List (List Cell)} {xs ys : List α} {f1 f2 : List (List Nat)}, AllR R h r1 xs f1 → AllR R h r2 ys f2 → AllR R h (r1 ++ r2) (xs ++ ys) (f1 ++ f2)
  | [], _, [], _, [], _, _, w => w
  | _ :: _, _, _ :: _, _, _ :: _, _, ⟨w1, w⟩, u => ⟨w1, AllR.app w u⟩
  | [], _, [], _, _ :: _, _, w, _ => w.elim
  | [], _, _ :: _, _, _, _, w, _ => w.elim
  | _ :: _, _, [], _, _, _, w, _ => w.elim
  | _ :: _, _, _ :: _, _, [], _, w, _ => w.elim
/-- Raw rows that were laid together show what they show. -/
theorem Acc.shows (ok : RelOk R) {rows : List (List Cell)} {fps : List (List Nat)} (a : Acc tag h0 h x rows) (w : AllR R h0 rows xs fps) : ∃ fp, SlR tag R h x xs fp := by
  obtain ⟨o, fp, v, f⟩ := a
  have w' : AllR R h rows xs fps := w.mv ok o.ext.1 fun id hid => o.ext.2 id (w.lt ok id hid)
  have hl := w.len
  have hle := v.le
  rcases v.flat with ⟨rfl, h2, rfl⟩ | ⟨hx, hg, hn, rfl⟩
  · have : xs = [] := List.eq_nil_of_length_eq_zero (by rw [← hl, h2]; rfl)
    subst this
    exact ⟨_, SlR.nil _ _ _⟩
  · refine ⟨x.sid :: fps.flatten, by omega, .inr ⟨x.sid, rows, fps, by rw [← hl]; exact hx, by simpa using hg, hn, rfl, w'⟩⟩
end
end Go.Proofs.Ytlbagejkjkfkjaa.A
/- Stores into rows of data with memory. -/
namespace Go.Proofs.Ytlbagejkjkfkjaa.A
open Go
set_option linter.unusedSimpArgs false
set_option linter.unusedVariables false
section
variable {α : Type} {R : Rel α} {tag : Nat} {h0 h g : Heap} {x : Cell} {xs : List α} {fp fq : List Nat}
/-- Rows that were made behind h have turned: h goes on all the same. -/
theorem On.turned (o : On h0 h) (m : Mk h g fp) (f : Fre h0 fp) : On h0 g :=
  ⟨⟨by rw [m.next]; exact o.ext.1, fun id hid => by rw [m.get id (f.gt id hid)]; exact o.ext.2 id hid⟩, m.fl.trans o.fl⟩
theorem Fre.own (f : Fre h0 fp) (o : On h0 h) (hf : h0.floor ≤ h0.next) : ∀ id, id ∈ fp → h.floor ≤ id := fun id hid => by
  rw [o.fl]; exact Nat.le_trans hf (f.lo id hid)
theorem Mk.then {a b c : Heap} (m : Mk a b fp) (n : Mk b c fp) : Mk a c fp := ⟨n.next.trans m.next, n.fl.trans m.fl, fun id hid => (n.get id hid).trans (m.get id hid)⟩
/-- One row, and what stores into it leave. -/
theorem SlR.putRow (ok : RelOk R) (w : SlR tag R h x xs fp) (nd : fp.Nodup) (hfl : ∀ id, id ∈ fp → h.floor ≤ id) {i : Nat} (hi : i < xs.length) :
    ∃ r f, ∃ rows : List (List Cell), R h r xs[i] f ∧ x.sid ∈ fp ∧ (∀ j n, loadP h x.sid i j n = cut? r j n) ∧ h.put x.sid (rows.set i r) = h ∧
      (∀ r1 j new, storeP (h.put x.sid (rows.set i r1)) x.sid i j new = putM h x.sid rows i (splice? r1 j new)) ∧ (∀ r1 j n, loadP (h.put x.sid (rows.set i r1)) x.sid i j n = cut? r1 j n) ∧
      ∀ r' t', R h r' t' f → SlR tag R (h.put x.sid (rows.set i r')) x (xs.set i t') fp ∧ Mk h (h.put x.sid (rows.set i r')) fp := by
  obtain ⟨r, f, rows, hR, hin, nf, hs, hns, hsl, hg, hr, hir, fin⟩ := w.turn ok nd hi
  refine ⟨r, f, rows, hR, hs, loadP_row hg hr, put_row hg hr, fun r1 j new => storeP_put (hfl _ hs) hir r1 new j, fun r1 j n => loadP_put hir r1 j n, fun r' t' v => ⟨?_, rfl, rfl, fun id hid => put_ne _ fun e => hid (e ▸ hs)⟩⟩
  exact fin _ r' t' (Nat.le_refl _) (fun id _ h2 _ => put_ne _ h2) (by simp [Heap.put]) (ok.mv v (Nat.le_refl _) fun id hid => put_ne _ fun e => hns (e ▸ hid))
end
end Go.Proofs.Ytlbagejkjkfkjaa.A
/- The cursor that drawn values come from: what it keeps, and how its heap goes on. -/
namespace Go.Proofs.Ytlbagejkjkfkjaa.A
open Go
set_option linter.unusedSimpArgs false
set_option linter.unusedVariables false
def byte_enc (b : Int) : List Cell := [.int .u8 b]
/-- A cursor over bytes: a row of the heap. -/
structure Cur (h : Heap) (k : Nat) (x : Cell) (code : List Int) : Prop where
  fl : h.floor ≤ k ∧ k < h.next
  vw : Vw 19 byte_enc h x code
  ne : x = .nil ∨ x.sid ≠ k
  row : ∃ i hh : Int, h.get k = some [[x, .int .i64 i, .int .i64 hh]] ∧ 0 ≤ i ∧ i ≤ code.length
/-- The heap goes on, but for one row. -/
structure Dr (k : Nat) (h h' : Heap) : Prop where
  next : h.next ≤ h'.next
  fl : h'.floor = h.floor
  get : ∀ id, id < h.next → id ≠ k → h'.get id = h.get id
section
variable {h h' h2 : Heap} {k : Nat} {x : Cell} {code : List Int}
theorem Dr.refl (k : Nat) (h : Heap) : Dr k h h := ⟨Nat.le_refl _, rfl, fun _ _ _ => rfl⟩
theorem Dr.trans (a : Dr k h h') (b : Dr k h' h2) : Dr k h h2 := ⟨Nat.le_trans a.next b.next, b.fl.trans a.fl, fun id h1 hn => (b.get id (Nat.lt_of_lt_of_le h1 a.next) hn).trans (a.get id h1 hn)⟩
theorem On.dr (o : On h h') (k : Nat) : Dr k h h' := ⟨o.ext.1, o.fl, fun id h1 _ => o.ext.2 id h1⟩
theorem Mk.dr (m : Mk h h' [k]) : Dr k h h' := ⟨by rw [m.next]; exact Nat.le_refl _, m.fl, fun id _ hn => m.get id (by simpa using hn)⟩
theorem Dr.le (d : Dr k h h') (hf : h.floor ≤ h.next) : h'.floor ≤ h'.next := by have := d.next; have := d.fl; omega
theorem RelOk.dr {α : Type} {R : Rel α} (ok : RelOk R) {cs : List Cell} {a : α} {fp : List Nat} (w : R h cs a fp) (d : Dr k h h') (hk : k ∉ fp) : R h' cs a fp :=
  ok.mv w d.next fun id hid => d.get id (ok.lt w id hid) fun he => hk (he ▸ hid)
theorem SlR.dr {α : Type} {R : Rel α} {tag : Nat} {y : Cell} {xs : List α} {fp : List Nat} (w : SlR tag R h y xs fp) (ok : RelOk R) (d : Dr k h h') (hk : k ∉ fp) : SlR tag R h' y xs fp :=
  w.mv ok d.next fun id hid => d.get id (w.lt ok id hid) fun he => hk (he ▸ hid)
theorem Vw.dr {α : Type} {enc : α → List Cell} {tag : Nat} {y : Cell} {xs : List α} (w : Vw tag enc h y xs) (d : Dr k h h') (hk : y = .nil ∨ y.sid ≠ k) : Vw tag enc h' y xs := by
  rcases w with ⟨hl, h0 | ⟨id, off, rows, rfl, h2, h3, h4⟩⟩
  · exact ⟨hl, .inl h0⟩
  · have hk : id ≠ k := hk.elim (fun h => (nomatch h)) fun h => h
    exact ⟨hl, .inr ⟨id, off, rows, rfl, (d.get id h3 hk).trans h2, Nat.lt_of_lt_of_le h3 d.next, h4⟩⟩
theorem Cur.on (c : Cur h k x code) (o : On h h') : Cur h' k x code := by
  obtain ⟨i, hh, h1, h2⟩ := c.row
  exact ⟨⟨by rw [o.fl]; exact c.fl.1, Nat.lt_of_lt_of_le c.fl.2 o.ext.1⟩, c.vw.on o, c.ne, i, hh, (o.ext.2 k c.fl.2).trans h1, h2⟩
/-- Rows that were made behind h are not the cursor's. -/
theorem Cur.far (c : Cur h k x code) {fp : List Nat} (f : Fre h fp) : k ∉ fp := fun hk => by have := f.lo k hk; have := c.fl.2; omega
theorem Cur.put (c : Cur h k x code) (i hh : Int) (h0 : 0 ≤ i) (h1 : i ≤ code.length) : Cur (h.put k [[x, .int .i64 i, .int .i64 hh]]) k x code :=
  ⟨c.fl, c.vw.dr (Mk.put h k _).dr c.ne, c.ne, i, hh, by simp [Heap.put], h0, h1⟩
def put1 (h : Heap) (k : Nat) : Option (List Cell) → Option Heap
  | some r => some (h.put k [r])
  | none => none
theorem put1_s (h : Heap) (k : Nat) (r : List Cell) : put1 h k (some r) = some (h.put k [r]) := rfl
theorem sto1 (hf : h.floor ≤ k) (r : List Cell) (j : Nat) (new : List Cell) : storeP (h.put k [r]) k 0 j new = put1 h k (splice? r j new) := by
  have hf' : (h.put k [r]).floor ≤ k := hf
  have hg : (h.put k [r]).get k = some [r] := by simp [Heap.put]
  simp only [storeP]
  rw [if_pos hf', hg]
  simp only [Option.bind_some, List.getElem?_cons_zero]
  cases splice? r j new with
  | none => rfl
  | some r' => simp only [Option.bind_some, List.set_cons_zero, put_put, put1]
theorem loa1 (h : Heap) (k : Nat) (r : List Cell) (j n : Nat) : loadP (h.put k [r]) k 0 j n = cut? r j n := by simp [loadP, rowOf, Heap.put]
theorem loa2 (h : Heap) {k id : Nat} (hn : id ≠ k) (rows : List (List Cell)) (i j n : Nat) : loadP (h.put k rows) id i j n = loadP h id i j n := by simp [loadP, rowOf, Heap.put, hn]
/-! ### bits -/
theorem b_and (k : IntKind) (a b : Int) : binF .and (.int k a) (.int k b) = some (.int k (k.wrap ((BitVec.ofInt k.bits a &&& BitVec.ofInt k.bits b).toNat : Nat))) := by simp [binF, Op.intBits, pureCell, valCell?]; rfl
theorem b_xor (k : IntKind) (a b : Int) : binF .xor (.int k a) (.int k b) = some (.int k (k.wrap ((BitVec.ofInt k.bits a ^^^ BitVec.ofInt k.bits b).toNat : Nat))) := by simp [binF, Op.intBits, pureCell, valCell?]; rfl
def shrI (k : IntKind) (a b : Int) : Int := a.fdiv (2 ^ (min b.toNat k.bits))
def shlI (k : IntKind) (a b : Int) : Int := k.wrap (a * 2 ^ (min b.toNat k.bits))
theorem b_shr (k yk : IntKind) (a b : Int) (h : 0 ≤ b) : binF .shr (.int k a) (.int yk b) = some (.int k (shrI k a b)) := by
  have : ¬ b < 0 := by omega
  simp only [binF, Op.shift, if_neg this]; rfl
theorem b_shl (k yk : IntKind) (a b : Int) (h : 0 ≤ b) : binF .shl (.int k a) (.int yk b) = some (.int k (shlI k a b)) := by
  have : ¬ b < 0 := by omega
  simp only [binF, Op.shift, if_neg this]; rfl
theorem and255 (a : Int) : 0 ≤ IntKind.i64.wrap ((BitVec.ofInt IntKind.i64.bits a &&& BitVec.ofInt IntKind.i64.bits 255).toNat : Nat) ∧ IntKind.i64.wrap ((BitVec.ofInt IntKind.i64.bits a &&& BitVec.ofInt IntKind.i64.bits 255).toNat : Nat) ≤ 255 := by
  have h1 : (BitVec.ofInt IntKind.i64.bits a &&& BitVec.ofInt IntKind.i64.bits 255).toNat ≤ 255 := by
    rw [BitVec.toNat_and]
    exact Nat.le_trans Nat.and_le_right (by decide)
  generalize (BitVec.ofInt IntKind.i64.bits a &&& BitVec.ofInt IntKind.i64.bits 255).toNat = n at *
  rw [wrapI _ (by omega) (by omega)]
  omega
end
section
variable {F : Nat → Option RF} {Z : CallF} {h : Heap} {k : Nat} {x : Cell} {code : List Int}
set_option maxHeartbeats 1000000 in
theorem l01Byte_c (hS : Has F tS01d) (c : Cur h k x code) : ∃ r h', call F Z 263 [.c (.ptr k 0 0)] h = some (.c (.int .i64 r), h') ∧ (0 ≤ r ∧ r ≤ 255) ∧ Mk h h' [k] ∧ Cur h' k x code := by
  obtain ⟨i, hh, hg, h0, h1⟩ := c.row
  have hle := c.vw.le
  unfold maxLen at hle
  have hput : h.put k [[x, .int .i64 i, .int .i64 hh]] = h := put_same hg
  obtain ⟨i, rfl⟩ : ∃ j : Nat, i = (j : Int) := ⟨i.toNat, by omega⟩
  have hl0 : ∀ j n, loadP h k 0 j n = cut? [x, .int .i64 i, .int .i64 hh] j n := fun j n => by rw [← hput]; exact loa1 _ _ _ _ _
  have hst : ∀ j new, storeP h k 0 j new = put1 h k (splice? [x, .int .i64 i, .int .i64 hh] j new) := fun j new => by
    have := sto1 c.fl.1 [x, .int .i64 i, .int .i64 hh] j new
    rwa [hput] at this
  have hl1 := loa1 h k
  have hs1 := fun r => sto1 c.fl.1 (r := r)
  rw [call_run F Z (hS.lk (g := 263) rfl) _ _ rfl]
  by_cases hlt : i < code.length
  · have hlt' : (i : Int) < code.length := by omega
    have hws := wrapS i (by omega)
    have hid := c.vw.idx hlt
    have hld := c.vw.load hlt
    have hne : x.sid ≠ k := c.ne.elim (fun hx => by subst hx; rcases c.vw with ⟨_, ⟨_, h0⟩ | ⟨_, _, _, h0, _⟩⟩ <;> simp_all) fun h => h
    have hl2 := fun rows => loa2 h hne rows
    simp only [run0, run1, run2, run3, run4, noSlot, ownS, ownK, memN, RO.dst, lk, drop, forget, number, Nat.reduceBEq, cut?, splice?, builds, List.length_cons, List.length_nil, List.drop_succ_cons, List.drop_zero, List.take_succ_cons, List.take_zero, List.cons_append, List.nil_append, List.append_nil, List.drop_nil, List.take_nil, Nat.reduceAdd, Nat.reduceLeDiff, Nat.zero_add, Nat.add_zero, ↓reduceIte, Bool.not_true, Bool.not_false, decide_true, decide_false, eq_self, bne_self_eq_false, List.getElem?_cons_zero, List.getElem?_cons_succ, decide_eq_true_eq, Bool.false_eq_true, Bool.true_eq_false, reduceCtorEq, Nat.le_refl, hl0, hst, put1_s, hl1, hs1, b_and, b_xor, b_shr _ _ _ _ (show (0 : Int) ≤ 33 from by omega), b_shr _ _ _ _ (show (0 : Int) ≤ 45 from by omega), c.vw.len, hlt', hid, hl2, hld, byte_enc, hws]
    exact ⟨_, _, rfl, and255 _, Mk.put _ _ _, c.put _ _ (by omega) (by omega)⟩
  · have hlt' : ¬ (i : Int) < code.length := by omega
    simp only [run0, run1, run2, run3, run4, noSlot, ownS, ownK, memN, RO.dst, lk, drop, forget, number, Nat.reduceBEq, cut?, splice?, builds, List.length_cons, List.length_nil, List.drop_succ_cons, List.drop_zero, List.take_succ_cons, List.take_zero, List.cons_append, List.nil_append, List.append_nil, List.drop_nil, List.take_nil, Nat.reduceAdd, Nat.reduceLeDiff, Nat.zero_add, Nat.add_zero, ↓reduceIte, Bool.not_true, Bool.not_false, decide_true, decide_false, eq_self, bne_self_eq_false, List.getElem?_cons_zero, List.getElem?_cons_succ, decide_eq_true_eq, Bool.false_eq_true, Bool.true_eq_false, reduceCtorEq, Nat.le_refl, hl0, hst, put1_s, hl1, hs1, b_and, b_xor, b_shr _ _ _ _ (show (0 : Int) ≤ 33 from by omega), b_shr _ _ _ _ (show (0 : Int) ≤ 45 from by omega), c.vw.len, hlt']
    exact ⟨_, _, rfl, and255 _, Mk.put _ _ _, c.put _ _ (by omega) (by omega)⟩
theorem tmod_in {a n : Int} (ha : 0 ≤ a) (hn : 0 < n) : 0 ≤ a.tmod n ∧ a.tmod n < n := ⟨Int.tmod_nonneg _ ha, Int.tmod_lt_of_pos _ hn⟩
set_option maxHeartbeats 1000000 in
/-- A number below n; 0 where n is not above 0. -/
theorem l01Below_c (hS : Has F tS01d) (c : Cur h k x code) (n : Int) : ∃ r h', call F Z 236 [.c (.ptr k 0 0), .c (.int .i64 n)] h = some (.c (.int .i64 r), h') ∧ 0 ≤ r ∧ (0 < n → r < n) ∧ (n ≤ 0 → r = 0) ∧ Mk h h' [k] ∧ Cur h' k x code := by
  rw [call_run F Z (hS.lk (g := 236) rfl) _ _ rfl]
  by_cases hn : n ≤ 0
  · simp only [run0, run1, run2, run3, run4, noSlot, ownS, ownK, memN, RO.dst, lk, drop, forget, number, Nat.reduceBEq, cut?, splice?, builds, List.length_cons, List.length_nil, List.drop_succ_cons, List.drop_zero, List.take_succ_cons, List.take_zero, List.cons_append, List.nil_append, List.append_nil, List.drop_nil, List.take_nil, Nat.reduceAdd, Nat.reduceLeDiff, Nat.zero_add, Nat.add_zero, ↓reduceIte, Bool.not_true, Bool.not_false, decide_true, decide_false, eq_self, bne_self_eq_false, List.getElem?_cons_zero, List.getElem?_cons_succ, decide_eq_true_eq, Bool.false_eq_true, Bool.true_eq_false, reduceCtorEq, Nat.le_refl, hn]
    exact ⟨_, _, rfl, by omega, fun h' => absurd hn (by omega), fun _ => rfl, Mk.refl _ _, c⟩
  by_cases hm : n ≤ 256
  · obtain ⟨r, h1, e1, b1, m1, c1⟩ := l01Byte_c (Z := Z) hS c
    have ht := tmod_in b1.1 (show 0 < n from by omega)
    simp only [run0, run1, run2, run3, run4, noSlot, ownS, ownK, memN, RO.dst, lk, drop, forget, number, Nat.reduceBEq, cut?, splice?, builds, List.length_cons, List.length_nil, List.drop_succ_cons, List.drop_zero, List.take_succ_cons, List.take_zero, List.cons_append, List.nil_append, List.append_nil, List.drop_nil, List.take_nil, Nat.reduceAdd, Nat.reduceLeDiff, Nat.zero_add, Nat.add_zero, ↓reduceIte, Bool.not_true, Bool.not_false, decide_true, decide_false, eq_self, bne_self_eq_false, List.getElem?_cons_zero, List.getElem?_cons_succ, decide_eq_true_eq, Bool.false_eq_true, Bool.true_eq_false, reduceCtorEq, Nat.le_refl, hn, hm, e1, b_rem _ _ _ (show n ≠ 0 from by omega)]
    exact ⟨_, _, rfl, ht.1, fun _ => ht.2, fun h' => h'.elim, m1, c1⟩
  · obtain ⟨r1, h1, e1, b1, m1, c1⟩ := l01Byte_c (Z := Z) hS c
    obtain ⟨r2, h2, e2, b2, m2, c2⟩ := l01Byte_c (Z := Z) hS c1
    obtain ⟨r3, h3, e3, b3, m3, c3⟩ := l01Byte_c (Z := Z) hS c2
    have w1 : IntKind.i64.wrap (r1 * 65536) = r1 * 65536 := wrapI _ (by omega) (by omega)
    have w2 : IntKind.i64.wrap (r2 * 256) = r2 * 256 := wrapI _ (by omega) (by omega)
    have w3 : IntKind.i64.wrap (r1 * 65536 + r2 * 256) = r1 * 65536 + r2 * 256 := wrapI _ (by omega) (by omega)
    have w4 : IntKind.i64.wrap (r1 * 65536 + r2 * 256 + r3) = r1 * 65536 + r2 * 256 + r3 := wrapI _ (by omega) (by omega)
    have ht := tmod_in (show 0 ≤ r1 * 65536 + r2 * 256 + r3 from by omega) (show 0 < n from by omega)
    simp only [run0, run1, run2, run3, run4, noSlot, ownS, ownK, memN, RO.dst, lk, drop, forget, number, Nat.reduceBEq, cut?, splice?, builds, List.length_cons, List.length_nil, List.drop_succ_cons, List.drop_zero, List.take_succ_cons, List.take_zero, List.cons_append, List.nil_append, List.append_nil, List.drop_nil, List.take_nil, Nat.reduceAdd, Nat.reduceLeDiff, Nat.zero_add, Nat.add_zero, ↓reduceIte, Bool.not_true, Bool.not_false, decide_true, decide_false, eq_self, bne_self_eq_false, List.getElem?_cons_zero, List.getElem?_cons_succ, decide_eq_true_eq, Bool.false_eq_true, Bool.true_eq_false, reduceCtorEq, Nat.le_refl, hn, hm, e1, e2, e3, w1, w2, w3, w4, b_rem _ _ _ (show n ≠ 0 from by omega)]
    exact ⟨_, _, rfl, ht.1, fun _ => ht.2, fun h' => h'.elim, (m1.then m2).then m3, c3⟩
end
end Go.Proofs.Ytlbagejkjkfkjaa.A
/- Drawn numbers. -/
namespace Go.Proofs.Ytlbagejkjkfkjaa.A
open Go
set_option linter.unusedSimpArgs false
set_option linter.unusedVariables false
section
variable {F : Nat → Option RF} {Z : CallF} {h : Heap} {k : Nat} {x y : Cell} {code : List Int} {xs : List Int} {fp : List Nat}
theorem l01Once_c (hS : Has F tS01d) (c : Cur h k x code) (n : Int) : ∃ b h', call F Z 240 [.c (.ptr k 0 0), .c (.int .i64 n)] h = some (.c (.bool b), h') ∧ Mk h h' [k] ∧ Cur h' k x code := by
  obtain ⟨r, h1, e1, _, _, _, m1, c1⟩ := l01Below_c (Z := Z) hS c n
  rw [call_run F Z (hS.lk (g := 240) rfl) _ _ rfl]
  simp only [run0, run1, run2, run3, run4, noSlot, ownS, ownK, memN, RO.dst, lk, drop, forget, number, Nat.reduceBEq, cut?, splice?, builds, List.length_cons, List.length_nil, List.drop_succ_cons, List.drop_zero, List.take_succ_cons, List.take_zero, List.cons_append, List.nil_append, List.append_nil, List.drop_nil, List.take_nil, Nat.reduceAdd, Nat.reduceLeDiff, Nat.zero_add, Nat.add_zero, ↓reduceIte, Bool.not_true, Bool.not_false, decide_true, decide_false, eq_self, bne_self_eq_false, List.getElem?_cons_zero, List.getElem?_cons_succ, decide_eq_true_eq, Bool.false_eq_true, Bool.true_eq_false, reduceCtorEq, Nat.le_refl, e1]
  exact ⟨_, _, rfl, m1, c1⟩
/-- One of a list. -/
theorem l01PickInt_c (hS : Has F tS01d) (c : Cur h k x code) (w : SlR 15 (Fl int_enc) h y xs fp) (hk : k ∉ fp) (hx : 0 < xs.length) :
    ∃ r h', call F Z 239 [.c (.ptr k 0 0), .c y] h = some (.c (.int .i64 r), h') ∧ r ∈ xs ∧ Mk h h' [k] ∧ Cur h' k x code := by
  obtain ⟨r, h1, e1, r0, rn, _, m1, c1⟩ := l01Below_c (Z := Z) hS c (xs.length : Int)
  have hlt := rn (by omega)
  obtain ⟨j, rfl⟩ : ∃ j : Nat, r = (j : Int) := ⟨r.toNat, by omega⟩
  have hj : j < xs.length := by omega
  have w1 := w.dr (Fl.ok _) m1.dr hk
  have hi := w.idx hj
  have hl := w1.load hj
  rw [call_run F Z (hS.lk (g := 239) rfl) _ _ rfl]
  simp only [run0, run1, run2, run3, run4, noSlot, ownS, ownK, memN, RO.dst, lk, drop, forget, number, Nat.reduceBEq, cut?, splice?, builds, List.length_cons, List.length_nil, List.drop_succ_cons, List.drop_zero, List.take_succ_cons, List.take_zero, List.cons_append, List.nil_append, List.append_nil, List.drop_nil, List.take_nil, Nat.reduceAdd, Nat.reduceLeDiff, Nat.zero_add, Nat.add_zero, ↓reduceIte, Bool.not_true, Bool.not_false, decide_true, decide_false, eq_self, bne_self_eq_false, List.getElem?_cons_zero, List.getElem?_cons_succ, decide_eq_true_eq, Bool.false_eq_true, Bool.true_eq_false, reduceCtorEq, Nat.le_refl, w.len, e1, hi, hl, int_enc]
  exact ⟨_, _, rfl, List.getElem_mem hj, m1, c1⟩
theorem l01Size_c (hS : Has F tS01d) (w : Vw 19 byte_enc h x code) (most : Int) (hm : 2 ≤ most) : ∃ r, call F Z 238 [.c x, .c (.int .i64 most)] h = some (.c (.int .i64 r), h) ∧ 2 ≤ r ∧ r ≤ most := by
  have hle := w.le2
  have hq : (code.length : Int).tdiv 16 = ((code.length / 16 : Nat) : Int) := by rw [Int.tdiv_eq_ediv_of_nonneg (by omega)]; omega
  have h1 : IntKind.i64.wrap ((code.length / 16 : Nat) : Int) = ((code.length / 16 : Nat) : Int) := wrapI _ (by omega) (by omega)
  have h2 : IntKind.i64.wrap (2 + ((code.length / 16 : Nat) : Int)) = 2 + ((code.length / 16 : Nat) : Int) := wrapI _ (by omega) (by omega)
  have hb := b_quo .i64 (code.length : Int) 16 (by omega)
  rw [hq, h1] at hb
  rw [call_run F Z (hS.lk (g := 238) rfl) _ _ rfl]
  by_cases hgt : 2 + ((code.length / 16 : Nat) : Int) > most
  · simp only [run0, run1, run2, run3, run4, noSlot, ownS, ownK, memN, RO.dst, lk, drop, forget, number, Nat.reduceBEq, cut?, splice?, builds, List.length_cons, List.length_nil, List.drop_succ_cons, List.drop_zero, List.take_succ_cons, List.take_zero, List.cons_append, List.nil_append, List.append_nil, List.drop_nil, List.take_nil, Nat.reduceAdd, Nat.reduceLeDiff, Nat.zero_add, Nat.add_zero, ↓reduceIte, Bool.not_true, Bool.not_false, decide_true, decide_false, eq_self, bne_self_eq_false, List.getElem?_cons_zero, List.getElem?_cons_succ, decide_eq_true_eq, Bool.false_eq_true, Bool.true_eq_false, reduceCtorEq, Nat.le_refl, w.len, hb, h2, hgt]
    exact ⟨_, rfl, hm, by omega⟩
  · simp only [run0, run1, run2, run3, run4, noSlot, ownS, ownK, memN, RO.dst, lk, drop, forget, number, Nat.reduceBEq, cut?, splice?, builds, List.length_cons, List.length_nil, List.drop_succ_cons, List.drop_zero, List.take_succ_cons, List.take_zero, List.cons_append, List.nil_append, List.append_nil, List.drop_nil, List.take_nil, Nat.reduceAdd, Nat.reduceLeDiff, Nat.zero_add, Nat.add_zero, ↓reduceIte, Bool.not_true, Bool.not_false, decide_true, decide_false, eq_self, bne_self_eq_false, List.getElem?_cons_zero, List.getElem?_cons_succ, decide_eq_true_eq, Bool.false_eq_true, Bool.true_eq_false, reduceCtorEq, Nat.le_refl, w.len, hb, h2, hgt]
    exact ⟨_, rfl, by omega, by omega⟩
theorem l01New_c (hS : Has F tS01d) (hf : h.floor ≤ h.next) (w : Vw 19 byte_enc h x code) : ∃ h', call F Z 194 [.c x] h = some (.c (.ptr h.next 0 0), h') ∧ On h h' ∧ Cur h' h.next x code := by
  have hle := w.le2
  rw [call_run F Z (hS.lk (g := 194) rfl) _ _ rfl]
  simp only [run0, run1, run2, run3, run4, noSlot, ownS, ownK, memN, RO.dst, lk, drop, forget, number, Nat.reduceBEq, cut?, splice?, builds, List.length_cons, List.length_nil, List.drop_succ_cons, List.drop_zero, List.take_succ_cons, List.take_zero, List.cons_append, List.nil_append, List.append_nil, List.drop_nil, List.take_nil, Nat.reduceAdd, Nat.reduceLeDiff, Nat.zero_add, Nat.add_zero, ↓reduceIte, Bool.not_true, Bool.not_false, decide_true, decide_false, eq_self, bne_self_eq_false, List.getElem?_cons_zero, List.getElem?_cons_succ, decide_eq_true_eq, Bool.false_eq_true, Bool.true_eq_false, reduceCtorEq, Nat.le_refl, w.len]
  have key := loop_goes (F := F) (Z := Z) (live := [0, 3, 4]) (b := r194L0) (min code.length 4000) (fun i s => ∃ hh : Int, s = ⟨[(0, .c x), (3, .c (.int .i64 hh)), (4, .c (.int .i64 (i : Nat)))], [], [], h⟩) (fun i s hi ⟨hh, hs⟩ => by
    subst hs
    have hlt : (i : Int) < code.length := by omega
    have h4 : (i : Int) < 4000 := by omega
    have hid := w.idx (i := i) (by omega)
    have hld := w.load (i := i) (by omega)
    have hws := wrapS i (by omega)
    refine ⟨?aa, ?pp, ?ee⟩
    case ee =>
      rw [loop_run]
      conv in (codeF _ _ r194L0 _) => unfold r194L0
      simp only [run0, run1, run2, run3, run4, noSlot, ownS, ownK, memN, RO.dst, lk, drop, forget, number, Nat.reduceBEq, cut?, splice?, builds, List.length_cons, List.length_nil, List.drop_succ_cons, List.drop_zero, List.take_succ_cons, List.take_zero, List.cons_append, List.nil_append, List.append_nil, List.drop_nil, List.take_nil, Nat.reduceAdd, Nat.reduceLeDiff, Nat.zero_add, Nat.add_zero, ↓reduceIte, Bool.not_true, Bool.not_false, decide_true, decide_false, eq_self, bne_self_eq_false, List.getElem?_cons_zero, List.getElem?_cons_succ, decide_eq_true_eq, Bool.false_eq_true, Bool.true_eq_false, reduceCtorEq, Nat.le_refl, w.len, hlt, h4, hid, hld, byte_enc, b_and, hws]
      rfl
    case pp => exact ⟨_, rfl⟩) (s := ⟨[(0, .c x), (3, .c (.int .i64 (IntKind.i64.wrap (138138 + (code.length : Nat))))), (4, .c (.int .i64 ((0 : Nat) : Int)))], [], [], h⟩) ⟨_, rfl⟩
  obtain ⟨s', ⟨hh, rfl⟩, e⟩ := key
  simp only [show ((0 : Nat) : Int) = 0 from rfl] at e
  rw [e, loop_run]
  conv in (codeF _ _ r194L0 _) => unfold r194L0
  have hcur : Cur (h.push [[x, .int .i64 0, .int .i64 hh]]) h.next x code := by
    refine ⟨⟨hf, by simp [Heap.push]⟩, w.on (On.push _ _), ?_, 0, hh, by simp [Heap.push], by omega, by omega⟩
    rcases w with ⟨_, ⟨rfl, _⟩ | ⟨id, off, rows, rfl, _, h3, _⟩⟩
    · exact .inl rfl
    · exact .inr (by simp [Cell.sid]; omega)
  by_cases hc : code.length ≤ 4000
  · have hlt : ¬ ((min code.length 4000 : Nat) : Int) < code.length := by omega
    simp only [run0, run1, run2, run3, run4, noSlot, ownS, ownK, memN, RO.dst, lk, drop, forget, number, Nat.reduceBEq, cut?, splice?, builds, List.length_cons, List.length_nil, List.drop_succ_cons, List.drop_zero, List.take_succ_cons, List.take_zero, List.cons_append, List.nil_append, List.append_nil, List.drop_nil, List.take_nil, Nat.reduceAdd, Nat.reduceLeDiff, Nat.zero_add, Nat.add_zero, ↓reduceIte, Bool.not_true, Bool.not_false, decide_true, decide_false, eq_self, bne_self_eq_false, List.getElem?_cons_zero, List.getElem?_cons_succ, decide_eq_true_eq, Bool.false_eq_true, Bool.true_eq_false, reduceCtorEq, Nat.le_refl, w.len, hlt]
    exact ⟨_, rfl, On.push _ _, hcur⟩
  · have hlt : ((min code.length 4000 : Nat) : Int) < code.length := by omega
    have h4 : ¬ ((min code.length 4000 : Nat) : Int) < 4000 := by omega
    simp only [run0, run1, run2, run3, run4, noSlot, ownS, ownK, memN, RO.dst, lk, drop, forget, number, Nat.reduceBEq, cut?, splice?, builds, List.length_cons, List.length_nil, List.drop_succ_cons, List.drop_zero, List.take_succ_cons, List.take_zero, List.cons_append, List.nil_append, List.append_nil, List.drop_nil, List.take_nil, Nat.reduceAdd, Nat.reduceLeDiff, Nat.zero_add, Nat.add_zero, ↓reduceIte, Bool.not_true, Bool.not_false, decide_true, decide_false, eq_self, bne_self_eq_false, List.getElem?_cons_zero, List.getElem?_cons_succ, decide_eq_true_eq, Bool.false_eq_true, Bool.true_eq_false, reduceCtorEq, Nat.le_refl, w.len, hlt, h4]
    exact ⟨_, rfl, On.push _ _, hcur⟩
/-! ### numbers of 64 bits -/
theorem wrapU_in (z : Int) : 0 ≤ IntKind.u64.wrap z ∧ IntKind.u64.wrap z ≤ 18446744073709551615 := by
  show 0 ≤ (if (false && decide (z % 18446744073709551616 ≥ 9223372036854775808)) = true then z % 18446744073709551616 - 18446744073709551616 else z % 18446744073709551616) ∧ (if (false && decide (z % 18446744073709551616 ≥ 9223372036854775808)) = true then z % 18446744073709551616 - 18446744073709551616 else z % 18446744073709551616) ≤ _
  rw [if_neg (by simp)]
  omega
theorem shr_in {a : Int} (ha : 0 ≤ a ∧ a ≤ 18446744073709551615) (b : Int) : 0 ≤ shrI .u64 a b ∧ shrI .u64 a b ≤ 18446744073709551615 := by
  unfold shrI
  generalize min b.toNat IntKind.u64.bits = n
  have hp : (0 : Int) < 2 ^ n := Int.pow_pos (by omega)
  rw [Int.fdiv_eq_ediv_of_nonneg _ (Int.le_of_lt hp)]
  exact ⟨Int.ediv_nonneg ha.1 (Int.le_of_lt hp), Int.le_trans (Int.ediv_le_self _ ha.1) ha.2⟩
set_option maxHeartbeats 1000000 in
theorem l01Big_c (hS : Has F tS01d) (c : Cur h k x code) : ∃ r h', call F Z 264 [.c (.ptr k 0 0)] h = some (.c (.int .u64 r), h') ∧ (0 ≤ r ∧ r ≤ 18446744073709551615) ∧ Mk h h' [k] ∧ Cur h' k x code := by
  obtain ⟨r1, h1, e1, r0, rn, _, m1, c1⟩ := l01Below_c (Z := Z) hS c 8
  rw [call_run F Z (hS.lk (g := 264) rfl) _ _ rfl]
  by_cases a0 : r1 = 0
  · simp only [run0, run1, run2, run3, run4, noSlot, ownS, ownK, memN, RO.dst, lk, drop, forget, number, Nat.reduceBEq, cut?, splice?, builds, List.length_cons, List.length_nil, List.drop_succ_cons, List.drop_zero, List.take_succ_cons, List.take_zero, List.cons_append, List.nil_append, List.append_nil, List.drop_nil, List.take_nil, Nat.reduceAdd, Nat.reduceLeDiff, Nat.zero_add, Nat.add_zero, ↓reduceIte, Bool.not_true, Bool.not_false, decide_true, decide_false, eq_self, bne_self_eq_false, List.getElem?_cons_zero, List.getElem?_cons_succ, decide_eq_true_eq, Bool.false_eq_true, Bool.true_eq_false, reduceCtorEq, Nat.le_refl, e1, show (r1 == 0) = true by simpa using a0]
    exact ⟨_, _, rfl, by omega, m1, c1⟩
  have b0 : (r1 == 0) = false := by simpa using a0
  by_cases a1 : r1 = 1
  · simp only [run0, run1, run2, run3, run4, noSlot, ownS, ownK, memN, RO.dst, lk, drop, forget, number, Nat.reduceBEq, cut?, splice?, builds, List.length_cons, List.length_nil, List.drop_succ_cons, List.drop_zero, List.take_succ_cons, List.take_zero, List.cons_append, List.nil_append, List.append_nil, List.drop_nil, List.take_nil, Nat.reduceAdd, Nat.reduceLeDiff, Nat.zero_add, Nat.add_zero, ↓reduceIte, Bool.not_true, Bool.not_false, decide_true, decide_false, eq_self, bne_self_eq_false, List.getElem?_cons_zero, List.getElem?_cons_succ, decide_eq_true_eq, Bool.false_eq_true, Bool.true_eq_false, reduceCtorEq, Nat.le_refl, e1, b0, show (r1 == 1) = true by simpa using a1]
    exact ⟨_, _, rfl, by omega, m1, c1⟩
  have b1 : (r1 == 1) = false := by simpa using a1
  by_cases a2 : r1 = 2
  · obtain ⟨r2, h2, e2, s0, sn, _, m2, c2⟩ := l01Below_c (Z := Z) hS c1 300
    simp only [run0, run1, run2, run3, run4, noSlot, ownS, ownK, memN, RO.dst, lk, drop, forget, number, Nat.reduceBEq, cut?, splice?, builds, List.length_cons, List.length_nil, List.drop_succ_cons, List.drop_zero, List.take_succ_cons, List.take_zero, List.cons_append, List.nil_append, List.append_nil, List.drop_nil, List.take_nil, Nat.reduceAdd, Nat.reduceLeDiff, Nat.zero_add, Nat.add_zero, ↓reduceIte, Bool.not_true, Bool.not_false, decide_true, decide_false, eq_self, bne_self_eq_false, List.getElem?_cons_zero, List.getElem?_cons_succ, decide_eq_true_eq, Bool.false_eq_true, Bool.true_eq_false, reduceCtorEq, Nat.le_refl, e1, b0, b1, show (r1 == 2) = true by simpa using a2, e2]
    exact ⟨_, _, rfl, wrapU_in _, m1.then m2, c2⟩
  have b2 : (r1 == 2) = false := by simpa using a2
  by_cases a3 : r1 = 3
  · obtain ⟨r2, h2, e2, s0, sn, _, m2, c2⟩ := l01Below_c (Z := Z) hS c1 300
    simp only [run0, run1, run2, run3, run4, noSlot, ownS, ownK, memN, RO.dst, lk, drop, forget, number, Nat.reduceBEq, cut?, splice?, builds, List.length_cons, List.length_nil, List.drop_succ_cons, List.drop_zero, List.take_succ_cons, List.take_zero, List.cons_append, List.nil_append, List.append_nil, List.drop_nil, List.take_nil, Nat.reduceAdd, Nat.reduceLeDiff, Nat.zero_add, Nat.add_zero, ↓reduceIte, Bool.not_true, Bool.not_false, decide_true, decide_false, eq_self, bne_self_eq_false, List.getElem?_cons_zero, List.getElem?_cons_succ, decide_eq_true_eq, Bool.false_eq_true, Bool.true_eq_false, reduceCtorEq, Nat.le_refl, e1, b0, b1, b2, show (r1 == 3) = true by simpa using a3, e2]
    exact ⟨_, _, rfl, wrapU_in _, m1.then m2, c2⟩
  have b3 : (r1 == 3) = false := by simpa using a3
  by_cases a4 : r1 = 4
  · obtain ⟨r2, h2, e2, s0, sn, _, m2, c2⟩ := l01Below_c (Z := Z) hS c1 64
    have hw : IntKind.u64.wrap r2 = r2 := wrapU _ s0 (by have := sn (by omega); omega)
    simp only [run0, run1, run2, run3, run4, noSlot, ownS, ownK, memN, RO.dst, lk, drop, forget, number, Nat.reduceBEq, cut?, splice?, builds, List.length_cons, List.length_nil, List.drop_succ_cons, List.drop_zero, List.take_succ_cons, List.take_zero, List.cons_append, List.nil_append, List.append_nil, List.drop_nil, List.take_nil, Nat.reduceAdd, Nat.reduceLeDiff, Nat.zero_add, Nat.add_zero, ↓reduceIte, Bool.not_true, Bool.not_false, decide_true, decide_false, eq_self, bne_self_eq_false, List.getElem?_cons_zero, List.getElem?_cons_succ, decide_eq_true_eq, Bool.false_eq_true, Bool.true_eq_false, reduceCtorEq, Nat.le_refl, e1, b0, b1, b2, b3, show (r1 == 4) = true by simpa using a4, e2, hw, b_shl _ _ _ _ s0]
    exact ⟨_, _, rfl, wrapU_in _, m1.then m2, c2⟩
  have b4 : (r1 == 4) = false := by simpa using a4
  simp only [run0, run1, run2, run3, run4, noSlot, ownS, ownK, memN, RO.dst, lk, drop, forget, number, Nat.reduceBEq, cut?, splice?, builds, List.length_cons, List.length_nil, List.drop_succ_cons, List.drop_zero, List.take_succ_cons, List.take_zero, List.cons_append, List.nil_append, List.append_nil, List.drop_nil, List.take_nil, Nat.reduceAdd, Nat.reduceLeDiff, Nat.zero_add, Nat.add_zero, ↓reduceIte, Bool.not_true, Bool.not_false, decide_true, decide_false, eq_self, bne_self_eq_false, List.getElem?_cons_zero, List.getElem?_cons_succ, decide_eq_true_eq, Bool.false_eq_true, Bool.true_eq_false, reduceCtorEq, Nat.le_refl, e1, b0, b1, b2, b3, b4]
  have key := loop_goes (F := F) (Z := Z) (live := [0, 3, 4]) (b := r264L0) 8 (fun i s => ∃ (z : Int) (g : Heap), s = ⟨[(0, .c (.ptr k 0 0)), (3, .c (.int .u64 z)), (4, .c (.int .i64 (i : Nat)))], [], [], g⟩ ∧ (0 ≤ z ∧ z ≤ 18446744073709551615) ∧ Mk h g [k] ∧ Cur g k x code) (fun i s hi ⟨z, g, hs, hz, m, cg⟩ => by
    subst hs
    obtain ⟨r2, g2, e2, s0, sn, _, m2, c2⟩ := l01Below_c (Z := Z) hS cg 256
    have hlt : (i : Int) < 8 := by omega
    have hws := wrapS i (by omega)
    refine ⟨?aa, ?pp, ?ee⟩
    case ee =>
      rw [loop_run]
      conv in (codeF _ _ r264L0 _) => unfold r264L0
      simp only [run0, run1, run2, run3, run4, noSlot, ownS, ownK, memN, RO.dst, lk, drop, forget, number, Nat.reduceBEq, cut?, splice?, builds, List.length_cons, List.length_nil, List.drop_succ_cons, List.drop_zero, List.take_succ_cons, List.take_zero, List.cons_append, List.nil_append, List.append_nil, List.drop_nil, List.take_nil, Nat.reduceAdd, Nat.reduceLeDiff, Nat.zero_add, Nat.add_zero, ↓reduceIte, Bool.not_true, Bool.not_false, decide_true, decide_false, eq_self, bne_self_eq_false, List.getElem?_cons_zero, List.getElem?_cons_succ, decide_eq_true_eq, Bool.false_eq_true, Bool.true_eq_false, reduceCtorEq, Nat.le_refl, hlt, e2, hws]
      rfl
    case pp => exact ⟨_, g2, rfl, wrapU_in _, m.then m2, c2⟩) (s := ⟨[(0, .c (.ptr k 0 0)), (3, .c (.int .u64 0)), (4, .c (.int .i64 ((0 : Nat) : Int)))], [], [], h1⟩) ⟨_, _, rfl, by omega, m1, c1⟩
  obtain ⟨s', ⟨z, g, rfl, hz, m, cg⟩, e⟩ := key
  obtain ⟨r2, g2, e2, s0, sn, _, m2, c2⟩ := l01Below_c (Z := Z) hS cg 64
  have hw : IntKind.u64.wrap r2 = r2 := wrapU _ s0 (by have := sn (by omega); omega)
  simp only [show ((0 : Nat) : Int) = 0 from rfl] at e
  rw [e, loop_run]
  conv in (codeF _ _ r264L0 _) => unfold r264L0
  simp only [run0, run1, run2, run3, run4, noSlot, ownS, ownK, memN, RO.dst, lk, drop, forget, number, Nat.reduceBEq, cut?, splice?, builds, List.length_cons, List.length_nil, List.drop_succ_cons, List.drop_zero, List.take_succ_cons, List.take_zero, List.cons_append, List.nil_append, List.append_nil, List.drop_nil, List.take_nil, Nat.reduceAdd, Nat.reduceLeDiff, Nat.zero_add, Nat.add_zero, ↓reduceIte, Bool.not_true, Bool.not_false, decide_true, decide_false, eq_self, bne_self_eq_false, List.getElem?_cons_zero, List.getElem?_cons_succ, decide_eq_true_eq, Bool.false_eq_true, Bool.true_eq_false, reduceCtorEq, Nat.le_refl, show ¬ (((8 : Nat) : Int) < 8) by omega, e2, hw, b_shr _ _ _ _ s0]
  exact ⟨_, _, rfl, shr_in hz _, m.then m2, c2⟩
/-! ### ids and amounts -/
theorem l10DrawId_c (hS : Has F tS01d) (hS10 : Has F tS10) (c : Cur h k x code) : ∃ r h', call F Z 235 [.c (.ptr k 0 0)] h = some (.c (.int .u64 r), h') ∧ (0 ≤ r ∧ r ≤ 18446744073709551615) ∧ Dr k h h' ∧ Cur h' k x code := by
  have o := On.push h [[.int .u64 0], [.int .u64 1], [.int .u64 2], [.int .u64 5], [.int .u64 9], [.int .u64 100], [.int .u64 9223372036854775808], [.int .u64 18446744073709551615]]
  obtain ⟨r1, h1, e1, r0, rn, _, m1, c1⟩ := l01Below_c (Z := Z) hS (c.on o) 8
  have hlt := rn (by omega)
  obtain ⟨j, rfl⟩ : ∃ j : Nat, r1 = (j : Int) := ⟨r1.toNat, by omega⟩
  have hj : j < 8 := by omega
  have hg : h1.get h.next = some [[.int .u64 0], [.int .u64 1], [.int .u64 2], [.int .u64 5], [.int .u64 9], [.int .u64 100], [.int .u64 9223372036854775808], [.int .u64 18446744073709551615]] := by
    rw [m1.get _ (by have := c.fl.2; simp; omega)]; simp [Heap.push]
  have hid : idxR 13 (some (.sl 13 h.next 0 8)) (some (j : Int)) = some (.ptr h.next j 0) := by rw [idxR_s, if_pos (by omega)]; simp
  obtain ⟨v, hv, hvr⟩ : ∃ v : Int, loadP h1 h.next j 0 1 = some [.int .u64 v] ∧ (0 ≤ v ∧ v ≤ 18446744073709551615) := by
    match j, hj with
    | 0, _ => exact ⟨0, by simp [loadP, rowOf, hg, cut?], by omega⟩
    | 1, _ => exact ⟨1, by simp [loadP, rowOf, hg, cut?], by omega⟩
    | 2, _ => exact ⟨2, by simp [loadP, rowOf, hg, cut?], by omega⟩
    | 3, _ => exact ⟨5, by simp [loadP, rowOf, hg, cut?], by omega⟩
    | 4, _ => exact ⟨9, by simp [loadP, rowOf, hg, cut?], by omega⟩
    | 5, _ => exact ⟨100, by simp [loadP, rowOf, hg, cut?], by omega⟩
    | 6, _ => exact ⟨9223372036854775808, by simp [loadP, rowOf, hg, cut?], by omega⟩
    | 7, _ => exact ⟨18446744073709551615, by simp [loadP, rowOf, hg, cut?], by omega⟩
  rw [call_run F Z (hS10.lk (g := 235) rfl) _ _ rfl]
  simp only [run0, run1, run2, run3, run4, noSlot, ownS, ownK, memN, RO.dst, lk, drop, forget, number, Nat.reduceBEq, cut?, splice?, builds, List.length_cons, List.length_nil, List.drop_succ_cons, List.drop_zero, List.take_succ_cons, List.take_zero, List.cons_append, List.nil_append, List.append_nil, List.drop_nil, List.take_nil, Nat.reduceAdd, Nat.reduceLeDiff, Nat.zero_add, Nat.add_zero, ↓reduceIte, Bool.not_true, Bool.not_false, decide_true, decide_false, eq_self, bne_self_eq_false, List.getElem?_cons_zero, List.getElem?_cons_succ, decide_eq_true_eq, Bool.false_eq_true, Bool.true_eq_false, reduceCtorEq, Nat.le_refl, List.replicate_succ, List.replicate_zero, fills, and_self, List.set_cons_zero, List.set_cons_succ, Nat.reduceLT, Nat.zero_lt_succ, e1, hid, hv]
  exact ⟨_, _, rfl, hvr, (o.dr k).trans m1.dr, c1⟩
theorem l10DrawAmount_c (hS : Has F tS01d) (hS10 : Has F tS10) (c : Cur h k x code) : ∃ r h', call F Z 237 [.c (.ptr k 0 0)] h = some (.c (.int .u64 r), h') ∧ (0 ≤ r ∧ r ≤ 18446744073709551615) ∧ Mk h h' [k] ∧ Cur h' k x code := by
  obtain ⟨b, h1, e1, m1, c1⟩ := l01Once_c (Z := Z) hS c 5
  rw [call_run F Z (hS10.lk (g := 237) rfl) _ _ rfl]
  cases b with
  | true =>
    obtain ⟨r, h2, e2, hr, m2, c2⟩ := l01Big_c (Z := Z) hS c1
    simp only [run0, run1, run2, run3, run4, noSlot, ownS, ownK, memN, RO.dst, lk, drop, forget, number, Nat.reduceBEq, cut?, splice?, builds, List.length_cons, List.length_nil, List.drop_succ_cons, List.drop_zero, List.take_succ_cons, List.take_zero, List.cons_append, List.nil_append, List.append_nil, List.drop_nil, List.take_nil, Nat.reduceAdd, Nat.reduceLeDiff, Nat.zero_add, Nat.add_zero, ↓reduceIte, Bool.not_true, Bool.not_false, decide_true, decide_false, eq_self, bne_self_eq_false, List.getElem?_cons_zero, List.getElem?_cons_succ, decide_eq_true_eq, Bool.false_eq_true, Bool.true_eq_false, reduceCtorEq, Nat.le_refl, e1, e2]
    exact ⟨_, _, rfl, hr, m1.then m2, c2⟩
  | false =>
    obtain ⟨r, h2, e2, _, _, _, m2, c2⟩ := l01Below_c (Z := Z) hS c1 60
    simp only [run0, run1, run2, run3, run4, noSlot, ownS, ownK, memN, RO.dst, lk, drop, forget, number, Nat.reduceBEq, cut?, splice?, builds, List.length_cons, List.length_nil, List.drop_succ_cons, List.drop_zero, List.take_succ_cons, List.take_zero, List.cons_append, List.nil_append, List.append_nil, List.drop_nil, List.take_nil, Nat.reduceAdd, Nat.reduceLeDiff, Nat.zero_add, Nat.add_zero, ↓reduceIte, Bool.not_true, Bool.not_false, decide_true, decide_false, eq_self, bne_self_eq_false, List.getElem?_cons_zero, List.getElem?_cons_succ, decide_eq_true_eq, Bool.false_eq_true, Bool.true_eq_false, reduceCtorEq, Nat.le_refl, e1, e2]
    exact ⟨_, _, rfl, wrapU_in _, m1.then m2, c2⟩
end
end Go.Proofs.Ytlbagejkjkfkjaa.A
/- What append leaves alone. -/
namespace Go.Proofs.Ytlbagejkjkfkjaa.A
open Go
set_option linter.unusedSimpArgs false
set_option linter.unusedVariables false
/-! ### what append leaves alone -/
section
variable {α : Type} {R : Rel α} {h : Heap} {tag tag' : Nat} {x : Cell} {xs : List α} {fp : List Nat}
theorem catH_keep (w : SlR tag R h x xs fp) (new : List (List Cell)) {id : Nat} (hid : id < h.next) (hn : id ∉ fp) : (catH h x new).get id = h.get id := by
  rcases w with ⟨_, ⟨rfl, _, _⟩ | ⟨k, rows, fps, rfl, _, _, rfl, _⟩⟩
  · simp only [catH]
    split
    · rfl
    · simp only [Heap.push]; rw [if_neg (by omega)]
  · have hk : id ≠ k := fun he => hn (by simp [he])
    show (if id = h.next then some (((h.get k).getD []) ++ new) else (if id = k then none else h.get id)) = h.get id
    rw [if_neg (by omega), if_neg hk]
theorem catH_next (h : Heap) (x : Cell) (new : List (List Cell)) : h.next ≤ (catH h x new).next := by
  unfold catH
  split
  · simp [Heap.push, Heap.kill]
  · split
    · exact Nat.le_refl _
    · simp [Heap.push]
theorem catX_sid (tag : Nat) (h : Heap) (x : Cell) : (catX tag h x 1).sid = h.next := by cases x <;> rfl
/-- Cells that show something, beside a list that grows. -/
structure Beside {β : Type} (P : Rel β) (tag : Nat) (h0 g : Heap) (y : Cell) (rows : List (List Cell)) (cs : List Cell) (b : β) (fq : List Nat) : Prop where
  acc : Acc tag h0 g y rows
  v : P g cs b fq
  fr : Fre h0 fq
  dj : ∃ fy, SlR tag (Fl fun r => r) g y rows fy ∧ Fre h0 fy ∧ ∀ id, id ∈ fq → id ∉ fy
theorem Beside.step {β : Type} {P : Rel β} (okP : RelOk P) {h0 g g1 : Heap} {y : Cell} {rows : List (List Cell)} {cs cs1 : List Cell} {b b1 : β} {fq fq1 : List Nat} (w : Beside P tag h0 g y rows cs b fq) (hf : h0.floor ≤ h0.next) (hl : rows.length + 1 ≤ 140737488355328)
    (o : On g g1) (v1 : P g1 cs1 b1 fq1) (f1 : Fre g fq1) (row : List Cell) :
    Beside P tag h0 (catH (g1.push [row]) y [row]) (catX tag (g1.push [row]) y 1) (rows ++ [row]) cs1 b1 fq1 := by
  have a1 := w.acc.go o
  have a2 := a1.one hf hl row
  obtain ⟨fy, hy, fry, dj⟩ := w.dj
  have hy1 := hy.on (Fl.ok _) o
  have hyp := hy1.on (Fl.ok _) (On.push g1 [row])
  have hlt := okP.lt v1
  have hoff : ∀ id, id ∈ fq1 → id ∉ fy := fun id h1 h2 => by
    have := f1.lo id h1
    have := hy.lt (Fl.ok _) id h2
    omega
  refine ⟨a2, okP.mv v1 ?_ fun id hid => ?_, ⟨fun id hid => ?_, f1.nd⟩, ?_⟩
  · exact Nat.le_trans (by simp [Heap.push]) (catH_next (g1.push [row]) y [row])
  · have h1 := hlt id hid
    rw [catH_keep hyp [row] (by simp only [Heap.push]; omega) (hoff id hid)]
    simp only [Heap.push]; rw [if_neg (by omega)]
  · have := f1.lo id hid
    have := w.acc.on.ext.1
    omega
  · obtain ⟨fy2, q1, q2⟩ := a2.sh
    refine ⟨fy2, q1, q2, fun id h1 h2 => ?_⟩
    have h3 : id ∈ [(catX tag (g1.push [row]) y 1).sid] := by
      rcases q1.flat with ⟨_, h4, _⟩ | ⟨_, _, _, h4⟩
      · simp at h4
      · rw [← h4]; exact h2
    rw [catX_sid] at h3
    have := hlt id h1
    simp only [Heap.push, List.mem_cons, List.not_mem_nil, or_false] at h3
    omega
end
end Go.Proofs.Ytlbagejkjkfkjaa.A
/- Lists that are gathered while a cursor goes on. -/
namespace Go.Proofs.Ytlbagejkjkfkjaa.A
open Go
set_option linter.unusedSimpArgs false
set_option linter.unusedVariables false
/-- A cursor; what lay in h0 is there, but for the cursor's row. -/
structure Cux (h0 h : Heap) (k : Nat) (x : Cell) (code : List Int) : Prop where
  dr : Dr k h0 h
  cur : Cur h k x code
  src : x = .nil ∨ x.sid < h0.next
/-- A heap with the cursor's row as it is now. -/
def patch (h0 : Heap) (k : Nat) (h : Heap) : Heap := ⟨h0.next, h0.floor, fun i => if i = k then h.get k else h0.get i⟩
/-- A list that grows beside a cursor. -/
structure Draw (tag : Nat) (h0 h : Heap) (k : Nat) (x : Cell) (code : List Int) (y : Cell) (rows : List (List Cell)) : Prop where
  cux : Cux h0 h k x code
  sep : ∃ fp, SlR tag (Fl fun r => r) h y rows fp ∧ Fre h0 fp ∧ k ∉ fp
section
variable {h0 h h' : Heap} {k tag : Nat} {x y : Cell} {code : List Int} {rows : List (List Cell)}
theorem Dr.base (d : Dr k h h') (o : On h0 h) (lo : h0.next ≤ k) : On h0 h' := ⟨⟨Nat.le_trans o.ext.1 d.next, fun id hid => (d.get id (Nat.lt_of_lt_of_le hid o.ext.1) (by omega)).trans (o.ext.2 id hid)⟩, d.fl.trans o.fl⟩
theorem Dr.on (d : Dr k h0 h) : On (patch h0 k h) h := ⟨⟨d.next, fun id hid => by
  show h.get id = if id = k then h.get k else h0.get id
  split
  · rename_i he; rw [he]
  · rename_i hn; exact d.get id hid hn⟩, d.fl⟩
theorem Cux.on (w : Cux h0 h k x code) (lo : h0.next ≤ k) : On h0 h := w.dr.base (On.refl h0) lo
theorem Cux.go_ (w : Cux h0 h k x code) (d : Dr k h h') (c : Cur h' k x code) : Cux h0 h' k x code := ⟨w.dr.trans d, c, w.src⟩
theorem Cux.go (w : Cux h0 h k x code) (o : On h h') : Cux h0 h' k x code := ⟨w.dr.trans (o.dr k), w.cur.on o, w.src⟩
theorem Cux.self (c : Cur h k x code) : Cux h h k x code := ⟨Dr.refl k h, c, by
  rcases c.vw with ⟨_, ⟨rfl, _⟩ | ⟨id, off, rows, rfl, _, h3, _⟩⟩
  · exact .inl rfl
  · exact .inr h3⟩
theorem Cur.le (c : Cur h k x code) : h.floor ≤ h.next := by have := c.fl; omega
theorem Cux.le (w : Cux h0 h k x code) : h.floor ≤ h.next := w.cur.le
theorem Draw.acc (w : Draw tag h0 h k x code y rows) : Acc tag (patch h0 k h) h y rows := by
  obtain ⟨fp, h1, h2, _⟩ := w.sep
  exact ⟨w.cux.dr.on, fp, h1, ⟨h2.lo, h2.nd⟩⟩
theorem Draw.dr (w : Draw tag h0 h k x code y rows) (d : Dr k h h') (c : Cur h' k x code) : Draw tag h0 h' k x code y rows := by
  obtain ⟨fp, h1, h2, h3⟩ := w.sep
  exact ⟨w.cux.go_ d c, fp, h1.dr (Fl.ok _) d h3, h2, h3⟩
theorem Draw.go (w : Draw tag h0 h k x code y rows) (o : On h h') : Draw tag h0 h' k x code y rows := w.dr (o.dr k) (w.cux.cur.on o)
theorem Draw.start (w : Cux h0 h k x code) : Draw tag h0 (h.push []) k x code (.sl tag h.next 0 0) [] := by
  have hk := w.cur.fl.2
  refine ⟨w.go (On.push h []), ?_⟩
  obtain ⟨fy, h1, h2⟩ := (Acc.lit0 (tag := tag) w.dr.on).sh
  refine ⟨fy, h1, ⟨h2.lo, h2.nd⟩, fun hy => ?_⟩
  rcases h1.flat with ⟨_, _, h3⟩ | ⟨_, _, _, h3⟩
  · rw [h3] at hy; cases hy
  · rw [h3] at hy
    simp [Cell.sid] at hy; omega
theorem Draw.one (w : Draw tag h0 h k x code y rows) (hf : h0.floor ≤ h0.next) (hl : rows.length + 1 ≤ 140737488355328) (row : List Cell) :
    Draw tag h0 (catH (h.push [row]) y [row]) k x code (catX tag (h.push [row]) y 1) (rows ++ [row]) := by
  have a2 := w.acc.one (h0 := patch h0 k h) hf hl row
  obtain ⟨fp, h1, h2, h3⟩ := w.sep
  have hp := h1.on (Fl.ok _) (On.push h [row])
  have hk := w.cux.cur.fl.2
  have hn : h.next ≤ (catH (h.push [row]) y [row]).next := Nat.le_trans (by simp [Heap.push]) (catH_next (h.push [row]) y [row])
  have keep : ∀ id, id < h.next → id ∉ fp → (catH (h.push [row]) y [row]).get id = h.get id := fun id hid hnf => by
    rw [catH_keep hp [row] (by simp only [Heap.push]; omega) hnf]
    simp only [Heap.push]; rw [if_neg (by omega)]
  obtain ⟨i, hh, r1, r2⟩ := w.cux.cur.row
  have hfl : (catH (h.push [row]) y [row]).floor = h.floor := by rw [a2.on.fl, w.cux.dr.on.fl]
  have dd : Dr k h0 (catH (h.push [row]) y [row]) := ⟨Nat.le_trans w.cux.dr.next hn, hfl.trans w.cux.dr.fl, fun id hid hne => by
    have := w.cux.dr.next
    rw [keep id (by omega) fun hm => by have := h2.lo id hm; omega]
    exact w.cux.dr.get id hid hne⟩
  refine ⟨⟨dd, ⟨⟨by rw [hfl]; exact w.cux.cur.fl.1, by omega⟩, ?_, w.cux.cur.ne, i, hh, by rw [keep k hk h3]; exact r1, r2⟩, w.cux.src⟩, ?_⟩
  · rcases w.cux.cur.vw with ⟨q0, q1 | ⟨id, off, rs, rfl, q2, q3, q4⟩⟩
    · exact ⟨q0, .inl q1⟩
    · refine ⟨q0, .inr ⟨id, off, rs, rfl, ?_, by omega, q4⟩⟩
      have hs : id < h0.next := w.cux.src.elim (fun h => (nomatch h)) fun h => h
      rw [keep id q3 fun hid => by have := h2.lo id hid; omega]; exact q2
  · obtain ⟨fp2, q1, q2⟩ := a2.sh
    refine ⟨fp2, q1, ⟨q2.lo, q2.nd⟩, fun hm => ?_⟩
    have h4 : k ∈ [(catX tag (h.push [row]) y 1).sid] := by
      rcases q1.flat with ⟨_, h4, _⟩ | ⟨_, _, _, h4⟩
      · simp at h4
      · rw [← h4]; exact hm
    rw [catX_sid] at h4
    simp only [Heap.push, List.mem_cons, List.not_mem_nil, or_false] at h4
    omega
theorem Draw.one_eq (w : Draw tag h0 h k x code y rows) (hf : h0.floor ≤ h0.next) {bytes : Nat} (hb : (rows.length + 1) * bytes ≤ 140737488355328) (row : List Cell) :
    appF (h.push [row]) tag bytes y (.sl tag h.next 0 1) = some (catX tag (h.push [row]) y 1, catH (h.push [row]) y [row]) := w.acc.one_eq (h0 := patch h0 k h) hf hb row
end
/-! ### lists of numbers to pick from -/
section
variable {F : Nat → Option RF} {Z : CallF} {h : Heap} {k : Nat} {x : Cell} {code : List Int}
theorem pick_lit (hS : Has F tS01d) (c : Cur h k x code) (xs : List Int) (h1 : 0 < xs.length) (h2 : xs.length ≤ 1048576) :
    ∃ r h', call F Z 239 [.c (.ptr k 0 0), .c (.sl 15 h.next 0 xs.length)] (h.push (xs.map int_enc)) = some (.c (.int .i64 r), h') ∧ r ∈ xs ∧ Dr k h h' ∧ Cur h' k x code := by
  have o := On.push h (xs.map int_enc)
  have w : SlR 15 (Fl int_enc) (h.push (xs.map int_enc)) (.sl 15 h.next 0 xs.length) xs [h.next] := SlR.ofFlat (by unfold maxLen; omega) (push_get _ _) (by rw [push_next]; omega)
  obtain ⟨r, h', e, hr, m, c1⟩ := l01PickInt_c (Z := Z) hS (c.on o) w (by have := c.fl.2; simp; omega) h1
  exact ⟨r, h', e, hr, (o.dr k).trans m.dr, c1⟩
end
end Go.Proofs.Ytlbagejkjkfkjaa.A
/- The data of a Range, and its cells. -/
namespace Go.Proofs.Ytlbagejkjkfkjaa.A
open Go
set_option linter.unusedSimpArgs false
set_option linter.unusedVariables false
structure Range where
  lo : Int
  hi : Int
  group : Int
  deriving DecidableEq
namespace Range
def enc (t : Range) : List Cell := [.int .u64 t.lo, .int .u64 t.hi, .int .i64 t.group]
theorem len (t : Range) : t.enc.length = 3 := rfl
theorem tak (t : Range) : t.enc.take 3 = t.enc := rfl
def none_ : Range := ⟨0, 0, 0⟩
/-- The numbers are those of the machine. -/
structure Ok (t : Range) : Prop where
  lo : 0 ≤ t.lo ∧ t.lo ≤ 18446744073709551615
  hi : 0 ≤ t.hi ∧ t.hi ≤ 18446744073709551615
  group : -9223372036854775808 ≤ t.group ∧ t.group ≤ 9223372036854775807
end Range
theorem Wf.isRange {h : Heap} {n : Nat} {cs : List Cell} (w : Wf h (n + 2) shRange cs) : ∃ t : Range, cs = t.enc ∧ t.Ok := by
  obtain ⟨_, _, rfl, _, ⟨lo0, rfl, h0⟩, _, _, rfl, _, ⟨hi0, rfl, h1⟩, _, _, rfl, _, ⟨group0, rfl, h2⟩, rfl⟩ := w
  exact ⟨⟨lo0, hi0, group0⟩, rfl, ⟨wfU h0, wfU h1, wfI h2⟩⟩
theorem Wf.isRangeS {h : Heap} {n : Nat} {x : Cell} (w : Wf h (n + 3) shRangeS [x]) : ∃ xs fp, SlR 8 (Fl Range.enc) h x xs fp ∧ ∀ t, t ∈ xs → t.Ok :=
  SlR.ofWf (fun r hr => by obtain ⟨t, rfl, ht⟩ := Wf.isRange hr.2; exact ⟨t, [], ⟨rfl, rfl⟩, ht⟩) w
theorem Wf.isRangeS' {h : Heap} {n : Nat} {a : List Cell} (w : Wf h (n + 3) shRangeS a) : ∃ x xs fp, a = [x] ∧ SlR 8 (Fl Range.enc) h x xs fp ∧ ∀ t, t ∈ xs → t.Ok := by
  have hx : ∃ x, a = [x] := by rcases w with w | ⟨_, _, w, _⟩ <;> exact ⟨_, w⟩
  obtain ⟨x, rfl⟩ := hx
  obtain ⟨xs, fp, v, ok⟩ := Wf.isRangeS w
  exact ⟨x, xs, fp, rfl, v, ok⟩
end Go.Proofs.Ytlbagejkjkfkjaa.A
/- The compact code of some functions: laws.szRangeS, laws.toRangeS, laws.eqRangeS, laws.markRangeS, laws.toRange, laws.eqRange, laws.heldRangeS, laws.sameRanges. -/
namespace Go.Proofs.Ytlbagejkjkfkjaa.A
open Go
/-- laws.szRangeS -/
def r102 : RF :=
 ⟨2, [.tmp 4],
 .seq (.reg [⟨none, .mov 4 (.k (.int .i64 0))⟩])
 (.seq (.reg [⟨none, .mov 5 (.t 1)⟩,
  ⟨none, .mov 6 (.t 0)⟩,
  ⟨none, .len 7 (.t 6)⟩,
  ⟨none, .bin 8 .sub (.t 5) (.t 7)⟩,
  ⟨none, .mov 1 (.t 8)⟩])
 (.seq (.seq (.reg [⟨none, .mov 9 (.t 1)⟩,
   ⟨none, .bin 10 .lss (.t 9) (.k (.int .i64 0))⟩])
  (.cond (.t 10)
  (.seq (.reg [⟨none, .mov 4 (.k (.int .i64 (-1)))⟩])
   (.ret))
  (.skip)))
 (.seq (.reg [⟨none, .mov 11 (.t 1)⟩,
  ⟨none, .mov 4 (.t 11)⟩])
 (.ret))))⟩
/-- A loop of laws.toRangeS. -/
def r105L0 : RC :=
 .seq (.seq (.reg [⟨none, .mov 8 (.t 4)⟩,
      ⟨none, .mov 9 (.t 0)⟩,
      ⟨none, .len 10 (.t 9)⟩,
      ⟨none, .bin 11 .lss (.t 8) (.t 10)⟩])
     (.cond (.t 11)
     (.skip)
     (.exit 0)))
    (.seq (.block 1 (.reg [⟨none, .mov 14 (.t 3)⟩,
      ⟨none, .mov 15 (.t 4)⟩,
      ⟨none, .mov 16 (.t 0)⟩,
      ⟨none, .mov 17 (.t 4)⟩,
      ⟨none, .idx 18 8 (.t 16) (.t 17)⟩,
      ⟨none, .load 19 18 3 true⟩,
      ⟨none, .call (some 20) 123 [(.t 19)] false⟩,
      ⟨none, .idx 21 7 (.t 14) (.t 15)⟩,
      ⟨none, .store 21 3 (.t 20)⟩]))
    (.reg [⟨none, .mov 12 (.t 4)⟩,
    ⟨none, .bin 13 .add (.t 12) (.k (.int .i64 1))⟩,
    ⟨none, .mov 4 (.t 13)⟩]))
/-- laws.toRangeS -/
def r105 : RF :=
 ⟨1, [.tmp 2],
 .seq (.reg [⟨none, .mov 2 (.k (.nil))⟩])
 (.seq (.reg [⟨none, .mov 5 (.t 0)⟩,
  ⟨none, .len 6 (.t 5)⟩,
  ⟨none, .mks 7 7 24 [.int .u64 0, .int .u64 0, .int .i64 0] (.t 6) (.t 6)⟩,
  ⟨none, .mov 3 (.t 7)⟩])
 (.seq (.seq (.reg [⟨none, .mov 4 (.k (.int .i64 0))⟩])
  (.block 0 (.loop [0, 3, 4]
   r105L0)))
 (.seq (.reg [⟨none, .mov 22 (.t 3)⟩,
  ⟨none, .mov 2 (.t 22)⟩])
 (.ret))))⟩
/-- A loop of laws.eqRangeS. -/
def r108L0 : RC :=
 .seq (.seq (.reg [⟨none, .mov 11 (.t 5)⟩,
      ⟨none, .mov 12 (.t 0)⟩,
      ⟨none, .len 13 (.t 12)⟩,
      ⟨none, .bin 14 .lss (.t 11) (.t 13)⟩])
     (.cond (.t 14)
     (.skip)
     (.exit 0)))
    (.seq (.block 1 (.seq (.reg [⟨none, .chk []⟩,
       ⟨none, .mov 17 (.t 0)⟩,
       ⟨none, .mov 18 (.t 5)⟩,
       ⟨none, .idx 19 7 (.t 17) (.t 18)⟩,
       ⟨none, .mov 21 (.t 1)⟩,
       ⟨none, .mov 22 (.t 5)⟩,
       ⟨none, .idx 23 7 (.t 21) (.t 22)⟩,
       ⟨none, .load 20 19 3 true⟩,
       ⟨none, .load 24 23 3 true⟩,
       ⟨none, .call (some 25) 127 [(.t 20), (.t 24)] true⟩,
       ⟨none, .not 26 (.t 25)⟩])
      (.cond (.t 26)
      (.seq (.reg [⟨none, .mov 4 (.k (.bool false))⟩])
       (.ret))
      (.skip))))
    (.reg [⟨none, .mov 15 (.t 5)⟩,
    ⟨none, .bin 16 .add (.t 15) (.k (.int .i64 1))⟩,
    ⟨none, .mov 5 (.t 16)⟩]))
/-- laws.eqRangeS -/
def r108 : RF :=
 ⟨2, [.tmp 4],
 .seq (.reg [⟨none, .mov 4 (.k (.bool false))⟩])
 (.seq (.seq (.reg [⟨none, .mov 6 (.t 0)⟩,
   ⟨none, .len 7 (.t 6)⟩,
   ⟨none, .mov 8 (.t 1)⟩,
   ⟨none, .len 9 (.t 8)⟩,
   ⟨none, .bin 10 .neq (.t 7) (.t 9)⟩])
  (.cond (.t 10)
  (.seq (.reg [⟨none, .mov 4 (.k (.bool false))⟩])
   (.ret))
  (.skip)))
 (.seq (.seq (.reg [⟨none, .mov 5 (.k (.int .i64 0))⟩])
  (.block 0 (.loop [0, 1, 5]
   r108L0)))
 (.seq (.reg [⟨none, .mov 4 (.k (.bool true))⟩])
 (.ret))))⟩
/-- A loop of laws.markRangeS. -/
def r117L0 : RC :=
 .seq (.seq (.reg [⟨none, .mov 6 (.t 5)⟩,
      ⟨none, .mov 7 (.t 0)⟩,
      ⟨none, .len 8 (.t 7)⟩,
      ⟨none, .bin 9 .lss (.t 6) (.t 8)⟩])
     (.cond (.t 9)
     (.skip)
     (.exit 0)))
    (.seq (.block 1 (.seq (.reg [⟨none, .mov 12 (.t 0)⟩,
       ⟨none, .mov 13 (.t 5)⟩,
       ⟨none, .mov 14 (.t 1)⟩,
       ⟨none, .conv 15 .u64 (.t 14)⟩,
       ⟨none, .idx 16 7 (.t 12) (.t 13)⟩,
       ⟨none, .fad 17 16 0⟩,
       ⟨none, .store 17 1 (.t 15)⟩])
      (.seq (.reg [⟨none, .mov 18 (.t 1)⟩,
       ⟨none, .bin 19 .add (.t 18) (.k (.int .i64 1))⟩,
       ⟨none, .mov 1 (.t 19)⟩])
      (.seq (.reg [⟨none, .mov 20 (.t 0)⟩,
       ⟨none, .mov 21 (.t 5)⟩,
       ⟨none, .mov 22 (.t 1)⟩,
       ⟨none, .conv 23 .u64 (.t 22)⟩,
       ⟨none, .idx 24 7 (.t 20) (.t 21)⟩,
       ⟨none, .fad 25 24 1⟩,
       ⟨none, .store 25 1 (.t 23)⟩])
      (.seq (.reg [⟨none, .mov 26 (.t 1)⟩,
       ⟨none, .bin 27 .add (.t 26) (.k (.int .i64 1))⟩,
       ⟨none, .mov 1 (.t 27)⟩])
      (.seq (.reg [⟨none, .mov 28 (.t 0)⟩,
       ⟨none, .mov 29 (.t 5)⟩,
       ⟨none, .mov 30 (.t 1)⟩,
       ⟨none, .idx 31 7 (.t 28) (.t 29)⟩,
       ⟨none, .fad 32 31 2⟩,
       ⟨none, .store 32 1 (.t 30)⟩])
      (.reg [⟨none, .mov 33 (.t 1)⟩,
      ⟨none, .bin 34 .add (.t 33) (.k (.int .i64 1))⟩,
      ⟨none, .mov 1 (.t 34)⟩])))))))
    (.reg [⟨none, .mov 10 (.t 5)⟩,
    ⟨none, .bin 11 .add (.t 10) (.k (.int .i64 1))⟩,
    ⟨none, .mov 5 (.t 11)⟩]))
/-- laws.markRangeS -/
def r117 : RF :=
 ⟨2, [.tmp 4],
 .seq (.reg [⟨none, .mov 4 (.k (.int .i64 0))⟩])
 (.seq (.seq (.reg [⟨none, .mov 5 (.k (.int .i64 0))⟩])
  (.block 0 (.loop [0, 1, 5]
   r117L0)))
 (.seq (.reg [⟨none, .mov 35 (.t 1)⟩,
  ⟨none, .mov 4 (.t 35)⟩])
 (.ret)))⟩
/-- laws.toRange -/
def r123 : RF :=
 ⟨1, [.cell 2 3 true],
 .seq (.reg [⟨none, .locb 1 (.t 0)⟩,
  ⟨none, .loc 2 [.int .u64 0, .int .u64 0, .int .i64 0]⟩])
 (.seq (.reg [⟨none, .loc 3 [.int .u64 0, .int .u64 0, .int .i64 0]⟩])
 (.seq (.reg [⟨none, .fad 4 1 0⟩,
  ⟨none, .load 5 4 1 false⟩,
  ⟨none, .fad 6 3 0⟩,
  ⟨none, .store 6 1 (.t 5)⟩])
 (.seq (.reg [⟨none, .fad 7 1 1⟩,
  ⟨none, .load 8 7 1 false⟩,
  ⟨none, .fad 9 3 1⟩,
  ⟨none, .store 9 1 (.t 8)⟩])
 (.seq (.reg [⟨none, .fad 10 1 2⟩,
  ⟨none, .load 11 10 1 false⟩,
  ⟨none, .fad 12 3 2⟩,
  ⟨none, .store 12 1 (.t 11)⟩])
 (.seq (.reg [⟨none, .load 13 3 3 true⟩,
  ⟨none, .store 2 3 (.t 13)⟩])
 (.ret))))))⟩
/-- laws.eqRange -/
def r127 : RF :=
 ⟨2, [.tmp 4],
 .seq (.reg [⟨none, .locb 2 (.t 0)⟩,
  ⟨none, .locb 3 (.t 1)⟩,
  ⟨none, .mov 4 (.k (.bool false))⟩])
 (.seq (.seq (.reg [⟨none, .fad 5 2 0⟩,
   ⟨none, .load 6 5 1 false⟩,
   ⟨none, .fad 7 3 0⟩,
   ⟨none, .load 8 7 1 false⟩,
   ⟨none, .bin 9 .neq (.t 6) (.t 8)⟩])
  (.cond (.t 9)
  (.seq (.reg [⟨none, .mov 4 (.k (.bool false))⟩])
   (.ret))
  (.skip)))
 (.seq (.seq (.reg [⟨none, .fad 10 2 1⟩,
   ⟨none, .load 11 10 1 false⟩,
   ⟨none, .fad 12 3 1⟩,
   ⟨none, .load 13 12 1 false⟩,
   ⟨none, .bin 14 .neq (.t 11) (.t 13)⟩])
  (.cond (.t 14)
  (.seq (.reg [⟨none, .mov 4 (.k (.bool false))⟩])
   (.ret))
  (.skip)))
 (.seq (.seq (.reg [⟨none, .fad 15 2 2⟩,
   ⟨none, .load 16 15 1 false⟩,
   ⟨none, .fad 17 3 2⟩,
   ⟨none, .load 18 17 1 false⟩,
   ⟨none, .bin 19 .neq (.t 16) (.t 18)⟩])
  (.cond (.t 19)
  (.seq (.reg [⟨none, .mov 4 (.k (.bool false))⟩])
   (.ret))
  (.skip)))
 (.seq (.reg [⟨none, .mov 4 (.k (.bool true))⟩])
 (.ret)))))⟩
/-- A loop of laws.heldRangeS. -/
def r135L0 : RC :=
 .seq (.seq (.reg [⟨none, .mov 6 (.t 5)⟩,
      ⟨none, .mov 7 (.t 0)⟩,
      ⟨none, .len 8 (.t 7)⟩,
      ⟨none, .bin 9 .lss (.t 6) (.t 8)⟩])
     (.cond (.t 9)
     (.skip)
     (.exit 0)))
    (.seq (.block 1 (.seq (.seq (.reg [⟨none, .mov 12 (.t 0)⟩,
        ⟨none, .mov 13 (.t 5)⟩,
        ⟨none, .idx 14 7 (.t 12) (.t 13)⟩,
        ⟨none, .fad 15 14 0⟩,
        ⟨none, .load 16 15 1 false⟩,
        ⟨none, .mov 17 (.t 1)⟩,
        ⟨none, .conv 18 .u64 (.t 17)⟩,
        ⟨none, .bin 19 .neq (.t 16) (.t 18)⟩])
       (.cond (.t 19)
       (.seq (.reg [⟨none, .mov 4 (.k (.int .i64 (-1)))⟩])
        (.ret))
       (.skip)))
      (.seq (.reg [⟨none, .mov 20 (.t 1)⟩,
       ⟨none, .bin 21 .add (.t 20) (.k (.int .i64 1))⟩,
       ⟨none, .mov 1 (.t 21)⟩])
      (.seq (.seq (.reg [⟨none, .mov 22 (.t 0)⟩,
        ⟨none, .mov 23 (.t 5)⟩,
        ⟨none, .idx 24 7 (.t 22) (.t 23)⟩,
        ⟨none, .fad 25 24 1⟩,
        ⟨none, .load 26 25 1 false⟩,
        ⟨none, .mov 27 (.t 1)⟩,
        ⟨none, .conv 28 .u64 (.t 27)⟩,
        ⟨none, .bin 29 .neq (.t 26) (.t 28)⟩])
       (.cond (.t 29)
       (.seq (.reg [⟨none, .mov 4 (.k (.int .i64 (-1)))⟩])
        (.ret))
       (.skip)))
      (.seq (.reg [⟨none, .mov 30 (.t 1)⟩,
       ⟨none, .bin 31 .add (.t 30) (.k (.int .i64 1))⟩,
       ⟨none, .mov 1 (.t 31)⟩])
      (.seq (.seq (.reg [⟨none, .mov 32 (.t 0)⟩,
        ⟨none, .mov 33 (.t 5)⟩,
        ⟨none, .idx 34 7 (.t 32) (.t 33)⟩,
        ⟨none, .fad 35 34 2⟩,
        ⟨none, .load 36 35 1 false⟩,
        ⟨none, .mov 37 (.t 1)⟩,
        ⟨none, .bin 38 .neq (.t 36) (.t 37)⟩])
       (.cond (.t 38)
       (.seq (.reg [⟨none, .mov 4 (.k (.int .i64 (-1)))⟩])
        (.ret))
       (.skip)))
      (.reg [⟨none, .mov 39 (.t 1)⟩,
      ⟨none, .bin 40 .add (.t 39) (.k (.int .i64 1))⟩,
      ⟨none, .mov 1 (.t 40)⟩])))))))
    (.reg [⟨none, .mov 10 (.t 5)⟩,
    ⟨none, .bin 11 .add (.t 10) (.k (.int .i64 1))⟩,
    ⟨none, .mov 5 (.t 11)⟩]))
/-- laws.heldRangeS -/
def r135 : RF :=
 ⟨2, [.tmp 4],
 .seq (.reg [⟨none, .mov 4 (.k (.int .i64 0))⟩])
 (.seq (.seq (.reg [⟨none, .mov 5 (.k (.int .i64 0))⟩])
  (.block 0 (.loop [0, 1, 5]
   r135L0)))
 (.seq (.reg [⟨none, .mov 41 (.t 1)⟩,
  ⟨none, .mov 4 (.t 41)⟩])
 (.ret)))⟩
/-- A loop of laws.sameRanges. -/
def r227L0 : RC :=
 .seq (.seq (.reg [⟨none, .mov 11 (.t 5)⟩,
      ⟨none, .mov 12 (.t 0)⟩,
      ⟨none, .len 13 (.t 12)⟩,
      ⟨none, .bin 14 .lss (.t 11) (.t 13)⟩])
     (.cond (.t 14)
     (.skip)
     (.exit 0)))
    (.seq (.block 1 (.seq (.reg [⟨none, .chk []⟩,
       ⟨none, .mov 17 (.t 0)⟩,
       ⟨none, .mov 18 (.t 5)⟩,
       ⟨none, .idx 19 7 (.t 17) (.t 18)⟩,
       ⟨none, .mov 21 (.t 1)⟩,
       ⟨none, .mov 22 (.t 5)⟩,
       ⟨none, .idx 23 7 (.t 21) (.t 22)⟩,
       ⟨none, .load 20 19 3 true⟩,
       ⟨none, .load 24 23 3 true⟩,
       ⟨none, .eqs 25 true [.i .u64, .i .u64, .i .i64] (.t 20) (.t 24)⟩])
      (.cond (.t 25)
      (.seq (.reg [⟨none, .mov 4 (.k (.bool false))⟩])
       (.ret))
      (.skip))))
    (.reg [⟨none, .mov 15 (.t 5)⟩,
    ⟨none, .bin 16 .add (.t 15) (.k (.int .i64 1))⟩,
    ⟨none, .mov 5 (.t 16)⟩]))
/-- laws.sameRanges -/
def r227 : RF :=
 ⟨2, [.tmp 4],
 .seq (.reg [⟨none, .mov 4 (.k (.bool false))⟩])
 (.seq (.seq (.reg [⟨none, .mov 6 (.t 0)⟩,
   ⟨none, .len 7 (.t 6)⟩,
   ⟨none, .mov 8 (.t 1)⟩,
   ⟨none, .len 9 (.t 8)⟩,
   ⟨none, .bin 10 .neq (.t 7) (.t 9)⟩])
  (.cond (.t 10)
  (.seq (.reg [⟨none, .mov 4 (.k (.bool false))⟩])
   (.ret))
  (.skip)))
 (.seq (.seq (.reg [⟨none, .mov 5 (.k (.int .i64 0))⟩])
  (.block 0 (.loop [0, 1, 5]
   r227L0)))
 (.seq (.reg [⟨none, .mov 4 (.k (.bool true))⟩])
 (.ret))))⟩
/-- The functions of this text, with their numbers. -/
def tLRange : List (Nat × RF) := [(102, r102), (105, r105), (108, r108), (117, r117), (123, r123), (127, r127), (135, r135), (227, r227)]
end Go.Proofs.Ytlbagejkjkfkjaa.A
/- What the converters of Range compute. -/
namespace Go.Proofs.Ytlbagejkjkfkjaa.A
open Go
set_option linter.unusedSimpArgs false
set_option linter.unusedVariables false
section
variable {F : Nat → Option RF} {Z : CallF} {h : Heap} {x y : Cell} {xs ys : List Range} {fp fq : List Nat}
def Range.zero : List Cell := [.int .u64 0, .int .u64 0, .int .i64 0]
theorem toRange_run (hL : Has F tLRange) (p : Range) (h : Heap) : call F Z 123 [.agg p.enc] h = some (.agg p.enc, h) := by
  rw [call_run F Z (hL.lk (g := 123) rfl) _ _ rfl]
  simp only [Range.enc, run0, run1, run2, run3, run4, noSlot, ownS, ownK, memN, RO.dst, lk, drop, forget, number, Nat.reduceBEq, cut?, splice?, builds, List.length_cons, List.length_nil, List.drop_succ_cons, List.drop_zero, List.take_succ_cons, List.take_zero, List.cons_append, List.nil_append, List.append_nil, List.drop_nil, List.take_nil, Nat.reduceAdd, Nat.reduceLeDiff, Nat.zero_add, Nat.add_zero, ↓reduceIte, Bool.not_true, Bool.not_false, decide_true, decide_false, eq_self, bne_self_eq_false, List.getElem?_cons_zero, List.getElem?_cons_succ, decide_eq_true_eq, Bool.false_eq_true, Bool.true_eq_false, reduceCtorEq, Nat.le_refl]
set_option maxHeartbeats 1000000 in
theorem eqRange_run (hL : Has F tLRange) (p q : Range) (h : Heap) : call F Z 127 [.agg p.enc, .agg q.enc] h = some (.c (.bool (decide (p = q))), h) := by
  rw [call_run F Z (hL.lk (g := 127) rfl) _ _ rfl]
  obtain ⟨lo1, hi1, group1⟩ := p
  obtain ⟨lo2, hi2, group2⟩ := q
  simp only [Range.enc, run0, run1, run2, run3, run4, noSlot, ownS, ownK, memN, RO.dst, lk, drop, forget, number, Nat.reduceBEq, cut?, splice?, builds, List.length_cons, List.length_nil, List.drop_succ_cons, List.drop_zero, List.take_succ_cons, List.take_zero, List.cons_append, List.nil_append, List.append_nil, List.drop_nil, List.take_nil, Nat.reduceAdd, Nat.reduceLeDiff, Nat.zero_add, Nat.add_zero, ↓reduceIte, Bool.not_true, Bool.not_false, decide_true, decide_false, eq_self, bne_self_eq_false, List.getElem?_cons_zero, List.getElem?_cons_succ, decide_eq_true_eq, Bool.false_eq_true, Bool.true_eq_false, reduceCtorEq, Nat.le_refl]
  (repeat' ((first | (rw [gF_if]; split) | (rw [condC_if]; split) | (rw [pickR_if]; split)) <;> (rename_i hh; (try simp only [Bool.not_eq_true, decide_eq_true_eq] at hh); simp only [hh, run0, run1, run2, run3, run4, noSlot, ownS, ownK, memN, RO.dst, lk, drop, forget, number, Nat.reduceBEq, cut?, splice?, builds, List.length_cons, List.length_nil, List.drop_succ_cons, List.drop_zero, List.take_succ_cons, List.take_zero, List.cons_append, List.nil_append, List.append_nil, List.drop_nil, List.take_nil, Nat.reduceAdd, Nat.reduceLeDiff, Nat.zero_add, Nat.add_zero, ↓reduceIte, Bool.not_true, Bool.not_false, decide_true, decide_false, eq_self, bne_self_eq_false, List.getElem?_cons_zero, List.getElem?_cons_succ, decide_eq_true_eq, Bool.false_eq_true, Bool.true_eq_false, reduceCtorEq, Nat.le_refl]))) <;> refine fin_bool ?_ <;> simp_all <;> (try (intros; omega))
theorem szRangeS_run (hL : Has F tLRange) (w : SlR 8 (Fl Range.enc) h x xs fp) (left : Int) (h1 : 0 ≤ left) (h2 : left ≤ 1048576) : call F Z 102 [.c x, .c (.int .i64 left)] h = some (.c (.int .i64 (if left - xs.length < 0 then -1 else left - xs.length)), h) := by
  have := w.le2
  rw [call_run F Z (hL.lk (g := 102) rfl) _ _ rfl]
  simp only [run0, run1, run2, run3, run4, noSlot, ownS, ownK, memN, RO.dst, lk, drop, forget, number, Nat.reduceBEq, cut?, splice?, builds, List.length_cons, List.length_nil, List.drop_succ_cons, List.drop_zero, List.take_succ_cons, List.take_zero, List.cons_append, List.nil_append, List.append_nil, List.drop_nil, List.take_nil, Nat.reduceAdd, Nat.reduceLeDiff, Nat.zero_add, Nat.add_zero, ↓reduceIte, Bool.not_true, Bool.not_false, decide_true, decide_false, eq_self, bne_self_eq_false, List.getElem?_cons_zero, List.getElem?_cons_succ, decide_eq_true_eq, Bool.false_eq_true, Bool.true_eq_false, reduceCtorEq, Nat.le_refl, w.len, wrapI (left - xs.length) (by omega) (by omega)]
  (repeat' ((first | (rw [gF_if]; split) | (rw [condC_if]; split) | (rw [pickR_if]; split)) <;> (rename_i hh; (try simp only [Bool.not_eq_true, decide_eq_true_eq] at hh); simp only [hh, run0, run1, run2, run3, run4, noSlot, ownS, ownK, memN, RO.dst, lk, drop, forget, number, Nat.reduceBEq, cut?, splice?, builds, List.length_cons, List.length_nil, List.drop_succ_cons, List.drop_zero, List.take_succ_cons, List.take_zero, List.cons_append, List.nil_append, List.append_nil, List.drop_nil, List.take_nil, Nat.reduceAdd, Nat.reduceLeDiff, Nat.zero_add, Nat.add_zero, ↓reduceIte, Bool.not_true, Bool.not_false, decide_true, decide_false, eq_self, bne_self_eq_false, List.getElem?_cons_zero, List.getElem?_cons_succ, decide_eq_true_eq, Bool.false_eq_true, Bool.true_eq_false, reduceCtorEq, Nat.le_refl]))) <;> simp_all
theorem szRangeS_c (hL : Has F tLRange) (w : SlR 8 (Fl Range.enc) h x xs fp) (left : Int) (h1 : 0 ≤ left) (h2 : left ≤ 1048576) : ∃ r, call F Z 102 [.c x, .c (.int .i64 left)] h = some (.c (.int .i64 r), h) ∧ r ≤ left ∧ (0 ≤ r → xs.length ≤ 1048576) :=
  ⟨_, szRangeS_run hL w left h1 h2, by split <;> omega, by split <;> omega⟩
theorem toRange_lit (hL : Has F tLRange) (lo1 hi1 group1 : Int) (h : Heap) : call F Z 123 [.agg [.int .u64 lo1, .int .u64 hi1, .int .i64 group1]] h = some (.agg [.int .u64 lo1, .int .u64 hi1, .int .i64 group1], h) := toRange_run hL ⟨lo1, hi1, group1⟩ h
theorem eqRange_lit (hL : Has F tLRange) (lo1 hi1 group1 lo2 hi2 group2 : Int) (h : Heap) : call F Z 127 [.agg [.int .u64 lo1, .int .u64 hi1, .int .i64 group1], .agg [.int .u64 lo2, .int .u64 hi2, .int .i64 group2]] h = some (.c (.bool (decide ((⟨lo1, hi1, group1⟩ : Range) = ⟨lo2, hi2, group2⟩))), h) := eqRange_run hL ⟨lo1, hi1, group1⟩ ⟨lo2, hi2, group2⟩ h
theorem toRangeS_run (hL : Has F tLRange) (hf : h.floor ≤ h.next) (w : SlR 8 (Fl Range.enc) h x xs fp) (hn : xs.length ≤ 1048576) : call F Z 105 [.c x] h = some (.c (.sl 7 h.next 0 xs.length), h.push (xs.map Range.enc)) := by
  rw [call_run F Z (hL.lk (g := 105) rfl) _ _ rfl]
  simp only [run0, run1, run2, run3, run4, noSlot, ownS, ownK, memN, RO.dst, lk, drop, forget, number, Nat.reduceBEq, cut?, splice?, builds, List.length_cons, List.length_nil, List.drop_succ_cons, List.drop_zero, List.take_succ_cons, List.take_zero, List.cons_append, List.nil_append, List.append_nil, List.drop_nil, List.take_nil, Nat.reduceAdd, Nat.reduceLeDiff, Nat.zero_add, Nat.add_zero, ↓reduceIte, Bool.not_true, Bool.not_false, decide_true, decide_false, eq_self, bne_self_eq_false, List.getElem?_cons_zero, List.getElem?_cons_succ, decide_eq_true_eq, Bool.false_eq_true, Bool.true_eq_false, reduceCtorEq, Nat.le_refl, w.len]
  rw [if_pos (by omega)]
  simp only [run0, run1, run2, run3, run4, noSlot, ownS, ownK, memN, RO.dst, lk, drop, forget, number, Nat.reduceBEq, cut?, splice?, builds, List.length_cons, List.length_nil, List.drop_succ_cons, List.drop_zero, List.take_succ_cons, List.take_zero, List.cons_append, List.nil_append, List.append_nil, List.drop_nil, List.take_nil, Nat.reduceAdd, Nat.reduceLeDiff, Nat.zero_add, Nat.add_zero, ↓reduceIte, Bool.not_true, Bool.not_false, decide_true, decide_false, eq_self, bne_self_eq_false, List.getElem?_cons_zero, List.getElem?_cons_succ, decide_eq_true_eq, Bool.false_eq_true, Bool.true_eq_false, reduceCtorEq, Nat.le_refl, Int.toNat_natCast]
  have key : loop F Z [0, 3, 4] r105L0 ⟨[(0, .c x), (3, .c (.sl 7 h.next 0 xs.length)), (4, .c (.int .i64 (0 : Nat)))], [], [], h.push (fillR Range.enc Range.zero xs 0)⟩ = loop F Z [0, 3, 4] r105L0 ⟨[(0, .c x), (3, .c (.sl 7 h.next 0 xs.length)), (4, .c (.int .i64 (xs.length : Nat)))], [], [], h.push (fillR Range.enc Range.zero xs xs.length)⟩ :=
    loop_goesF xs.length (fun i => ⟨[(0, .c x), (3, .c (.sl 7 h.next 0 xs.length)), (4, .c (.int .i64 (i : Nat)))], [], [], h.push (fillR Range.enc Range.zero xs i)⟩) fun i hi => by
      have w' := w.mono (Fl.ok _) (HExt.push h (fillR Range.enc Range.zero xs i))
      have hlt : (i : Int) < xs.length := by omega
      have h0 : (0 : Int) ≤ i := by omega
      rw [loop_run]
      simp only [r105L0, run0, run1, run2, run3, run4, noSlot, ownS, ownK, memN, RO.dst, lk, drop, forget, number, Nat.reduceBEq, cut?, splice?, builds, List.length_cons, List.length_nil, List.drop_succ_cons, List.drop_zero, List.take_succ_cons, List.take_zero, List.cons_append, List.nil_append, List.append_nil, List.drop_nil, List.take_nil, Nat.reduceAdd, Nat.reduceLeDiff, Nat.zero_add, Nat.add_zero, ↓reduceIte, Bool.not_true, Bool.not_false, decide_true, decide_false, eq_self, bne_self_eq_false, List.getElem?_cons_zero, List.getElem?_cons_succ, decide_eq_true_eq, Bool.false_eq_true, Bool.true_eq_false, reduceCtorEq, Nat.le_refl, w.len, hlt, w.idx hi, w'.load hi, Range.len, Range.tak, toRange_run hL, h0, and_self, Int.toNat_natCast, storeP_push hf (fillR_get Range.enc Range.zero xs hi) (Range.len xs[i]), wrapS i (by omega)]
      rw [← fillR_set Range.enc Range.zero xs hi]
  rw [fillR_0] at key
  rw [fillR_n] at key
  rw [show ((0 : Nat) : Int) = 0 from rfl] at key
  simp only [Range.zero] at key
  rw [key, loop_run]
  have hlt : ¬ (xs.length : Int) < xs.length := by omega
  simp only [r105L0, run0, run1, run2, run3, run4, noSlot, ownS, ownK, memN, RO.dst, lk, drop, forget, number, Nat.reduceBEq, cut?, splice?, builds, List.length_cons, List.length_nil, List.drop_succ_cons, List.drop_zero, List.take_succ_cons, List.take_zero, List.cons_append, List.nil_append, List.append_nil, List.drop_nil, List.take_nil, Nat.reduceAdd, Nat.reduceLeDiff, Nat.zero_add, Nat.add_zero, ↓reduceIte, Bool.not_true, Bool.not_false, decide_true, decide_false, eq_self, bne_self_eq_false, List.getElem?_cons_zero, List.getElem?_cons_succ, decide_eq_true_eq, Bool.false_eq_true, Bool.true_eq_false, reduceCtorEq, Nat.le_refl, w.len, hlt]
theorem toRangeS_c (hL : Has F tLRange) (hf : h.floor ≤ h.next) (w : SlR 8 (Fl Range.enc) h x xs fp) (hn : xs.length ≤ 1048576) : ∃ y h' fq, call F Z 105 [.c x] h = some (.c y, h') ∧ On h h' ∧ SlR 7 (Fl Range.enc) h' y xs fq ∧ Fre h fq :=
  ⟨_, _, _, toRangeS_run hL hf w hn, On.push _ _, SlR.ofFlat w.le (push_get _ _) (by rw [push_next]; omega), Fre.one h⟩
theorem eqRangeS_run (hL : Has F tLRange) (w : SlR 7 (Fl Range.enc) h x xs fp) (v : SlR 7 (Fl Range.enc) h y ys fq) : call F Z 108 [.c x, .c y] h = some (.c (.bool (decide (xs = ys))), h) := by
  have hw := w.le2
  have hv := v.le2
  rw [call_run F Z (hL.lk (g := 108) rfl) _ _ rfl]
  simp only [run0, run1, run2, run3, run4, noSlot, ownS, ownK, memN, RO.dst, lk, drop, forget, number, Nat.reduceBEq, cut?, splice?, builds, List.length_cons, List.length_nil, List.drop_succ_cons, List.drop_zero, List.take_succ_cons, List.take_zero, List.cons_append, List.nil_append, List.append_nil, List.drop_nil, List.take_nil, Nat.reduceAdd, Nat.reduceLeDiff, Nat.zero_add, Nat.add_zero, ↓reduceIte, Bool.not_true, Bool.not_false, decide_true, decide_false, eq_self, bne_self_eq_false, List.getElem?_cons_zero, List.getElem?_cons_succ, decide_eq_true_eq, Bool.false_eq_true, Bool.true_eq_false, reduceCtorEq, Nat.le_refl, w.len, v.len]
  rw [condC_if]
  split
  · rename_i hne
    have : xs ≠ ys := by rintro rfl; simp at hne
    simp only [run0, run1, run2, run3, run4, noSlot, ownS, ownK, memN, RO.dst, lk, drop, forget, number, Nat.reduceBEq, cut?, splice?, builds, List.length_cons, List.length_nil, List.drop_succ_cons, List.drop_zero, List.take_succ_cons, List.take_zero, List.cons_append, List.nil_append, List.append_nil, List.drop_nil, List.take_nil, Nat.reduceAdd, Nat.reduceLeDiff, Nat.zero_add, Nat.add_zero, ↓reduceIte, Bool.not_true, Bool.not_false, decide_true, decide_false, eq_self, bne_self_eq_false, List.getElem?_cons_zero, List.getElem?_cons_succ, decide_eq_true_eq, Bool.false_eq_true, Bool.true_eq_false, reduceCtorEq, Nat.le_refl, this]
  · rename_i he
    have he : xs.length = ys.length := by simp at he; omega
    simp only [run0, run1, run2, run3, run4, noSlot, ownS, ownK, memN, RO.dst, lk, drop, forget, number, Nat.reduceBEq, cut?, splice?, builds, List.length_cons, List.length_nil, List.drop_succ_cons, List.drop_zero, List.take_succ_cons, List.take_zero, List.cons_append, List.nil_append, List.append_nil, List.drop_nil, List.take_nil, Nat.reduceAdd, Nat.reduceLeDiff, Nat.zero_add, Nat.add_zero, ↓reduceIte, Bool.not_true, Bool.not_false, decide_true, decide_false, eq_self, bne_self_eq_false, List.getElem?_cons_zero, List.getElem?_cons_succ, decide_eq_true_eq, Bool.false_eq_true, Bool.true_eq_false, reduceCtorEq, Nat.le_refl]
    have key := loop_allN (F := F) (Z := Z) (live := [0, 1, 5]) (b := r108L0) xs.length (fun i => ⟨[(0, .c x), (1, .c y), (5, .c (.int .i64 (i : Nat)))], [], [], h⟩) (fun i => decide (xs[i]? = ys[i]?)) (fun s => lk s.env 4 = some (.c (.bool false)) ∧ s.hp = h) fun i hi => by
      have hi' : i < ys.length := by omega
      have hlt : (i : Int) < xs.length := by omega
      rw [loop_run]
      simp only [r108L0, run0, run1, run2, run3, run4, noSlot, ownS, ownK, memN, RO.dst, lk, drop, forget, number, Nat.reduceBEq, cut?, splice?, builds, List.length_cons, List.length_nil, List.drop_succ_cons, List.drop_zero, List.take_succ_cons, List.take_zero, List.cons_append, List.nil_append, List.append_nil, List.drop_nil, List.take_nil, Nat.reduceAdd, Nat.reduceLeDiff, Nat.zero_add, Nat.add_zero, ↓reduceIte, Bool.not_true, Bool.not_false, decide_true, decide_false, eq_self, bne_self_eq_false, List.getElem?_cons_zero, List.getElem?_cons_succ, decide_eq_true_eq, Bool.false_eq_true, Bool.true_eq_false, reduceCtorEq, Nat.le_refl, w.len, hlt, w.idx hi, v.idx hi', w.load hi, v.load hi', Range.len, Range.tak, eqRange_run hL, wrapS i (by omega)]
      rw [List.getElem?_eq_getElem hi, List.getElem?_eq_getElem hi']
      (repeat' ((first | (rw [gF_if]; split) | (rw [condC_if]; split) | (rw [pickR_if]; split)) <;> (rename_i hh; (try simp only [Bool.not_eq_true, decide_eq_true_eq] at hh); simp only [hh, run0, run1, run2, run3, run4, noSlot, ownS, ownK, memN, RO.dst, lk, drop, forget, number, Nat.reduceBEq, cut?, splice?, builds, List.length_cons, List.length_nil, List.drop_succ_cons, List.drop_zero, List.take_succ_cons, List.take_zero, List.cons_append, List.nil_append, List.append_nil, List.drop_nil, List.take_nil, Nat.reduceAdd, Nat.reduceLeDiff, Nat.zero_add, Nat.add_zero, ↓reduceIte, Bool.not_true, Bool.not_false, decide_true, decide_false, eq_self, bne_self_eq_false, List.getElem?_cons_zero, List.getElem?_cons_succ, decide_eq_true_eq, Bool.false_eq_true, Bool.true_eq_false, reduceCtorEq, Nat.le_refl, wrapS i (by omega)])))
      · exact .inr ⟨by simp_all, _, rfl, rfl, rfl⟩
      · exact .inl ⟨by simp_all, rfl⟩
    rw [all_same he] at key
    rcases key with ⟨k1, k2⟩ | ⟨k1, s, k2, k3, k4⟩
    · simp only [show ((0 : Nat) : Int) = 0 from rfl] at k2
      rw [k2, loop_run]
      have hlt : ¬ (xs.length : Int) < xs.length := by omega
      simp only [r108L0, run0, run1, run2, run3, run4, noSlot, ownS, ownK, memN, RO.dst, lk, drop, forget, number, Nat.reduceBEq, cut?, splice?, builds, List.length_cons, List.length_nil, List.drop_succ_cons, List.drop_zero, List.take_succ_cons, List.take_zero, List.cons_append, List.nil_append, List.append_nil, List.drop_nil, List.take_nil, Nat.reduceAdd, Nat.reduceLeDiff, Nat.zero_add, Nat.add_zero, ↓reduceIte, Bool.not_true, Bool.not_false, decide_true, decide_false, eq_self, bne_self_eq_false, List.getElem?_cons_zero, List.getElem?_cons_succ, decide_eq_true_eq, Bool.false_eq_true, Bool.true_eq_false, reduceCtorEq, Nat.le_refl, w.len, hlt, k1]
    · simp only [show ((0 : Nat) : Int) = 0 from rfl] at k2
      rw [k2]
      simp only [run0, run1, run2, run3, run4, noSlot, ownS, ownK, memN, RO.dst, lk, drop, forget, number, Nat.reduceBEq, cut?, splice?, builds, List.length_cons, List.length_nil, List.drop_succ_cons, List.drop_zero, List.take_succ_cons, List.take_zero, List.cons_append, List.nil_append, List.append_nil, List.drop_nil, List.take_nil, Nat.reduceAdd, Nat.reduceLeDiff, Nat.zero_add, Nat.add_zero, ↓reduceIte, Bool.not_true, Bool.not_false, decide_true, decide_false, eq_self, bne_self_eq_false, List.getElem?_cons_zero, List.getElem?_cons_succ, decide_eq_true_eq, Bool.false_eq_true, Bool.true_eq_false, reduceCtorEq, Nat.le_refl, k3, k4, k1]
/-- What is written to mark one. -/
def Range.mk_ (k : Int) : Range := ⟨k, k + 1, k + 1 + 1⟩
def Range.marks (n : Nat) (k : Int) : List Range := (List.range n).map fun i : Nat => Range.mk_ (k + 3 * (i : Int))
theorem Range.marks_len (n : Nat) (k : Int) : (Range.marks n k).length = n := by simp [Range.marks]
set_option maxHeartbeats 1000000 in
theorem markRangeS_run (hL : Has F tLRange) (w : SlR 7 (Fl Range.enc) h x xs fp) (hlo : ∀ id, id ∈ fp → h.floor ≤ id) (k : Int) (h1 : 0 ≤ k) (h2 : k + 3 * xs.length ≤ 9200000000000000000) :
    ∃ h', call F Z 117 [.c x, .c (.int .i64 k)] h = some (.c (.int .i64 (k + 3 * xs.length)), h') ∧ Mk h h' fp ∧ SlR 7 (Fl Range.enc) h' x (Range.marks xs.length k) fp := by
  have hle := w.le2
  have hlm := Range.marks_len xs.length k
  rw [call_run F Z (hL.lk (g := 117) rfl) _ _ rfl]
  simp only [run0, run1, run2, run3, run4, noSlot, ownS, ownK, memN, RO.dst, lk, drop, forget, number, Nat.reduceBEq, cut?, splice?, builds, List.length_cons, List.length_nil, List.drop_succ_cons, List.drop_zero, List.take_succ_cons, List.take_zero, List.cons_append, List.nil_append, List.append_nil, List.drop_nil, List.take_nil, Nat.reduceAdd, Nat.reduceLeDiff, Nat.zero_add, Nat.add_zero, ↓reduceIte, Bool.not_true, Bool.not_false, decide_true, decide_false, eq_self, bne_self_eq_false, List.getElem?_cons_zero, List.getElem?_cons_succ, decide_eq_true_eq, Bool.false_eq_true, Bool.true_eq_false, reduceCtorEq, Nat.le_refl]
  rcases w.flat with ⟨rfl, rfl, rfl⟩ | ⟨hx, hg, hn, rfl⟩
  · rw [loop_run]
    simp only [r117L0, run0, run1, run2, run3, run4, noSlot, ownS, ownK, memN, RO.dst, lk, drop, forget, number, Nat.reduceBEq, cut?, splice?, builds, List.length_cons, List.length_nil, List.drop_succ_cons, List.drop_zero, List.take_succ_cons, List.take_zero, List.cons_append, List.nil_append, List.append_nil, List.drop_nil, List.take_nil, Nat.reduceAdd, Nat.reduceLeDiff, Nat.zero_add, Nat.add_zero, ↓reduceIte, Bool.not_true, Bool.not_false, decide_true, decide_false, eq_self, bne_self_eq_false, List.getElem?_cons_zero, List.getElem?_cons_succ, decide_eq_true_eq, Bool.false_eq_true, Bool.true_eq_false, reduceCtorEq, Nat.le_refl, show ¬ ((0 : Int) < 0) from by omega]
    exact ⟨h, by simp, Mk.refl _ _, by simpa [Range.marks] using w⟩
  · have hfl : h.floor ≤ x.sid := hlo _ (by simp)
    have key : loop F Z [0, 1, 5] r117L0 ⟨[(0, .c x), (1, .c (.int .i64 (k + 3 * (0 : Nat)))), (5, .c (.int .i64 (0 : Nat)))], [], [], h.put x.sid (mixR Range.enc (Range.marks xs.length k) xs 0)⟩ = loop F Z [0, 1, 5] r117L0 ⟨[(0, .c x), (1, .c (.int .i64 (k + 3 * (xs.length : Nat)))), (5, .c (.int .i64 (xs.length : Nat)))], [], [], h.put x.sid (mixR Range.enc (Range.marks xs.length k) xs xs.length)⟩ :=
      loop_goesF xs.length (fun i => ⟨[(0, .c x), (1, .c (.int .i64 (k + 3 * (i : Nat)))), (5, .c (.int .i64 (i : Nat)))], [], [], h.put x.sid (mixR Range.enc (Range.marks xs.length k) xs i)⟩) fun i hi => by
        have hlt : (i : Int) < xs.length := by omega
        have hi2 : i < (mixR Range.enc (Range.marks xs.length k) xs i).length := by rw [mixR_len _ hlm]; exact hi
        have hms : (Range.marks xs.length k)[i]'(by omega) = Range.mk_ (k + 3 * i) := by simp [Range.marks]
        have hset := mixR_set Range.enc hlm hi
        rw [hms] at hset
        have hput := storeP_put (h := h) hfl hi2
        rw [← mixR_cur Range.enc hlm hi, ← hset, loop_run]
        simp (disch := omega) only [r117L0, run0, run1, run2, run3, run4, noSlot, ownS, ownK, memN, RO.dst, lk, drop, forget, number, Nat.reduceBEq, cut?, splice?, builds, List.length_cons, List.length_nil, List.drop_succ_cons, List.drop_zero, List.take_succ_cons, List.take_zero, List.cons_append, List.nil_append, List.append_nil, List.drop_nil, List.take_nil, Nat.reduceAdd, Nat.reduceLeDiff, Nat.zero_add, Nat.add_zero, ↓reduceIte, Bool.not_true, Bool.not_false, decide_true, decide_false, eq_self, bne_self_eq_false, List.getElem?_cons_zero, List.getElem?_cons_succ, decide_eq_true_eq, Bool.false_eq_true, Bool.true_eq_false, reduceCtorEq, Nat.le_refl, w.len, hlt, w.idx hi, hput, putM_s, wrapI1, wrapU1, Range.enc, Int.reduceEq, Range.mk_]
        rw [show k + 3 * ((i : Nat) : Int) + 1 + 1 + 1 = k + 3 * ((i + 1 : Nat) : Int) from by omega, show ((i : Nat) : Int) + 1 = ((i + 1 : Nat) : Int) from rfl]
    rw [mixR_0, put_same hg, mixR_n _ hlm] at key
    simp only [show ((0 : Nat) : Int) = 0 from rfl, Int.mul_zero, Int.add_zero] at key
    rw [key, loop_run]
    have hlt : ¬ (xs.length : Int) < xs.length := by omega
    simp only [r117L0, run0, run1, run2, run3, run4, noSlot, ownS, ownK, memN, RO.dst, lk, drop, forget, number, Nat.reduceBEq, cut?, splice?, builds, List.length_cons, List.length_nil, List.drop_succ_cons, List.drop_zero, List.take_succ_cons, List.take_zero, List.cons_append, List.nil_append, List.append_nil, List.drop_nil, List.take_nil, Nat.reduceAdd, Nat.reduceLeDiff, Nat.zero_add, Nat.add_zero, ↓reduceIte, Bool.not_true, Bool.not_false, decide_true, decide_false, eq_self, bne_self_eq_false, List.getElem?_cons_zero, List.getElem?_cons_succ, decide_eq_true_eq, Bool.false_eq_true, Bool.true_eq_false, reduceCtorEq, Nat.le_refl, w.len, hlt]
    refine ⟨_, rfl, Mk.put _ _ _, ?_⟩
    have := SlR.ofFlat (tag := 7) (h := h.put x.sid ((Range.marks xs.length k).map Range.enc)) (enc := Range.enc) (xs := Range.marks xs.length k) (id := x.sid) (by rw [hlm]; exact w.le) (by simp [Heap.put]) hn
    rw [hlm, ← hx] at this
    exact this
set_option maxHeartbeats 1000000 in
theorem heldRangeS_run (hL : Has F tLRange) {n : Nat} {k : Int} (w : SlR 7 (Fl Range.enc) h x (Range.marks n k) fp) (h1 : 0 ≤ k) (h2 : k + 3 * n ≤ 9200000000000000000) :
    call F Z 135 [.c x, .c (.int .i64 k)] h = some (.c (.int .i64 (k + 3 * n)), h) := by
  have hle := w.le2
  have hwl := w.len
  rw [Range.marks_len] at hle hwl
  rw [call_run F Z (hL.lk (g := 135) rfl) _ _ rfl]
  simp only [run0, run1, run2, run3, run4, noSlot, ownS, ownK, memN, RO.dst, lk, drop, forget, number, Nat.reduceBEq, cut?, splice?, builds, List.length_cons, List.length_nil, List.drop_succ_cons, List.drop_zero, List.take_succ_cons, List.take_zero, List.cons_append, List.nil_append, List.append_nil, List.drop_nil, List.take_nil, Nat.reduceAdd, Nat.reduceLeDiff, Nat.zero_add, Nat.add_zero, ↓reduceIte, Bool.not_true, Bool.not_false, decide_true, decide_false, eq_self, bne_self_eq_false, List.getElem?_cons_zero, List.getElem?_cons_succ, decide_eq_true_eq, Bool.false_eq_true, Bool.true_eq_false, reduceCtorEq, Nat.le_refl]
  have key : loop F Z [0, 1, 5] r135L0 ⟨[(0, .c x), (1, .c (.int .i64 (k + 3 * (0 : Nat)))), (5, .c (.int .i64 (0 : Nat)))], [], [], h⟩ = loop F Z [0, 1, 5] r135L0 ⟨[(0, .c x), (1, .c (.int .i64 (k + 3 * (n : Nat)))), (5, .c (.int .i64 (n : Nat)))], [], [], h⟩ :=
    loop_goesF n (fun i => ⟨[(0, .c x), (1, .c (.int .i64 (k + 3 * (i : Nat)))), (5, .c (.int .i64 (i : Nat)))], [], [], h⟩) fun i hi0 => by
      have hi : i < (Range.marks n k).length := by rw [Range.marks_len]; exact hi0
      have hlt : (i : Int) < n := by omega
      have hms : (Range.marks n k)[i] = Range.mk_ (k + 3 * i) := by simp [Range.marks]
      have hld := w.load hi
      rw [hms] at hld
      rw [loop_run]
      simp (disch := omega) only [r135L0, run0, run1, run2, run3, run4, noSlot, ownS, ownK, memN, RO.dst, lk, drop, forget, number, Nat.reduceBEq, cut?, splice?, builds, List.length_cons, List.length_nil, List.drop_succ_cons, List.drop_zero, List.take_succ_cons, List.take_zero, List.cons_append, List.nil_append, List.append_nil, List.drop_nil, List.take_nil, Nat.reduceAdd, Nat.reduceLeDiff, Nat.zero_add, Nat.add_zero, ↓reduceIte, Bool.not_true, Bool.not_false, decide_true, decide_false, eq_self, bne_self_eq_false, List.getElem?_cons_zero, List.getElem?_cons_succ, decide_eq_true_eq, Bool.false_eq_true, Bool.true_eq_false, reduceCtorEq, Nat.le_refl, hwl, hlt, w.idx hi, hld, wrapI1, wrapU1, Range.enc, Range.mk_, Int.reduceEq]
      rw [show k + 3 * ((i : Nat) : Int) + 1 + 1 + 1 = k + 3 * ((i + 1 : Nat) : Int) from by omega, show ((i : Nat) : Int) + 1 = ((i + 1 : Nat) : Int) from rfl]
  simp only [show ((0 : Nat) : Int) = 0 from rfl, Int.mul_zero, Int.add_zero] at key
  rw [key, loop_run]
  have hlt : ¬ (n : Int) < n := by omega
  simp only [r135L0, run0, run1, run2, run3, run4, noSlot, ownS, ownK, memN, RO.dst, lk, drop, forget, number, Nat.reduceBEq, cut?, splice?, builds, List.length_cons, List.length_nil, List.drop_succ_cons, List.drop_zero, List.take_succ_cons, List.take_zero, List.cons_append, List.nil_append, List.append_nil, List.drop_nil, List.take_nil, Nat.reduceAdd, Nat.reduceLeDiff, Nat.zero_add, Nat.add_zero, ↓reduceIte, Bool.not_true, Bool.not_false, decide_true, decide_false, eq_self, bne_self_eq_false, List.getElem?_cons_zero, List.getElem?_cons_succ, decide_eq_true_eq, Bool.false_eq_true, Bool.true_eq_false, reduceCtorEq, Nat.le_refl, hwl, hlt]
end
end Go.Proofs.Ytlbagejkjkfkjaa.A
/- The compact code of some functions: laws.szChart, laws.toChart, laws.eqChart, laws.markChart, laws.heldChart, laws.sameChart. -/
namespace Go.Proofs.Ytlbagejkjkfkjaa.A
open Go
/-- laws.szChart -/
def r67 : RF :=
 ⟨2, [.tmp 4],
 .seq (.reg [⟨none, .locb 2 (.t 0)⟩,
  ⟨none, .mov 4 (.k (.int .i64 0))⟩])
 (.seq (.reg [⟨none, .fad 5 2 1⟩,
  ⟨none, .load 6 5 1 false⟩,
  ⟨none, .mov 7 (.t 1)⟩,
  ⟨none, .call (some 8) 102 [(.t 6), (.t 7)] false⟩,
  ⟨none, .mov 1 (.t 8)⟩])
 (.seq (.seq (.reg [⟨none, .mov 9 (.t 1)⟩,
   ⟨none, .bin 10 .lss (.t 9) (.k (.int .i64 0))⟩])
  (.cond (.t 10)
  (.seq (.reg [⟨none, .mov 4 (.k (.int .i64 (-1)))⟩])
   (.ret))
  (.skip)))
 (.seq (.reg [⟨none, .mov 11 (.t 1)⟩,
  ⟨none, .mov 4 (.t 11)⟩])
 (.ret))))⟩
/-- laws.toChart -/
def r68 : RF :=
 ⟨1, [.cell 2 5 true],
 .seq (.reg [⟨none, .locb 1 (.t 0)⟩,
  ⟨none, .loc 2 [.int .i64 0, .nil, .bool false, .int .u64 0, .int .i64 0]⟩])
 (.seq (.reg [⟨none, .loc 3 [.int .i64 0, .nil, .bool false, .int .u64 0, .int .i64 0]⟩])
 (.seq (.reg [⟨none, .fad 4 1 0⟩,
  ⟨none, .load 5 4 1 false⟩,
  ⟨none, .fad 6 3 0⟩,
  ⟨none, .store 6 1 (.t 5)⟩])
 (.seq (.reg [⟨none, .fad 7 1 1⟩,
  ⟨none, .load 8 7 1 false⟩,
  ⟨none, .call (some 9) 105 [(.t 8)] false⟩,
  ⟨none, .fad 10 3 1⟩,
  ⟨none, .store 10 1 (.t 9)⟩])
 (.seq (.reg [⟨none, .fad 11 1 2⟩,
  ⟨none, .load 12 11 1 false⟩,
  ⟨none, .fad 13 3 2⟩,
  ⟨none, .store 13 1 (.t 12)⟩])
 (.seq (.reg [⟨none, .fad 14 1 3⟩,
  ⟨none, .load 15 14 1 false⟩,
  ⟨none, .fad 16 3 3⟩,
  ⟨none, .store 16 1 (.t 15)⟩])
 (.seq (.reg [⟨none, .fad 17 1 4⟩,
  ⟨none, .load 18 17 1 false⟩,
  ⟨none, .fad 19 3 4⟩,
  ⟨none, .store 19 1 (.t 18)⟩])
 (.seq (.reg [⟨none, .load 20 3 5 true⟩,
  ⟨none, .store 2 5 (.t 20)⟩])
 (.ret))))))))⟩
/-- laws.eqChart -/
def r71 : RF :=
 ⟨2, [.tmp 4],
 .seq (.reg [⟨none, .locb 2 (.t 0)⟩,
  ⟨none, .locb 3 (.t 1)⟩,
  ⟨none, .mov 4 (.k (.bool false))⟩])
 (.seq (.seq (.reg [⟨none, .fad 5 2 0⟩,
   ⟨none, .load 6 5 1 false⟩,
   ⟨none, .fad 7 3 0⟩,
   ⟨none, .load 8 7 1 false⟩,
   ⟨none, .bin 9 .neq (.t 6) (.t 8)⟩])
  (.cond (.t 9)
  (.seq (.reg [⟨none, .mov 4 (.k (.bool false))⟩])
   (.ret))
  (.skip)))
 (.seq (.seq (.reg [⟨none, .fad 10 2 1⟩,
   ⟨none, .load 11 10 1 false⟩,
   ⟨none, .fad 12 3 1⟩,
   ⟨none, .load 13 12 1 false⟩,
   ⟨none, .call (some 14) 108 [(.t 11), (.t 13)] false⟩,
   ⟨none, .not 15 (.t 14)⟩])
  (.cond (.t 15)
  (.seq (.reg [⟨none, .mov 4 (.k (.bool false))⟩])
   (.ret))
  (.skip)))
 (.seq (.seq (.reg [⟨none, .fad 16 2 2⟩,
   ⟨none, .load 17 16 1 false⟩,
   ⟨none, .fad 18 3 2⟩,
   ⟨none, .load 19 18 1 false⟩,
   ⟨none, .beq 20 true (.t 17) (.t 19)⟩])
  (.cond (.t 20)
  (.seq (.reg [⟨none, .mov 4 (.k (.bool false))⟩])
   (.ret))
  (.skip)))
 (.seq (.seq (.reg [⟨none, .fad 21 2 3⟩,
   ⟨none, .load 22 21 1 false⟩,
   ⟨none, .fad 23 3 3⟩,
   ⟨none, .load 24 23 1 false⟩,
   ⟨none, .bin 25 .neq (.t 22) (.t 24)⟩])
  (.cond (.t 25)
  (.seq (.reg [⟨none, .mov 4 (.k (.bool false))⟩])
   (.ret))
  (.skip)))
 (.seq (.seq (.reg [⟨none, .fad 26 2 4⟩,
   ⟨none, .load 27 26 1 false⟩,
   ⟨none, .fad 28 3 4⟩,
   ⟨none, .load 29 28 1 false⟩,
   ⟨none, .bin 30 .neq (.t 27) (.t 29)⟩])
  (.cond (.t 30)
  (.seq (.reg [⟨none, .mov 4 (.k (.bool false))⟩])
   (.ret))
  (.skip)))
 (.seq (.reg [⟨none, .mov 4 (.k (.bool true))⟩])
 (.ret)))))))⟩
/-- laws.markChart -/
def r94 : RF :=
 ⟨2, [.tmp 4],
 .seq (.reg [⟨none, .locb 2 (.t 0)⟩,
  ⟨none, .mov 4 (.k (.int .i64 0))⟩])
 (.seq (.reg [⟨none, .fad 5 2 1⟩,
  ⟨none, .load 6 5 1 false⟩,
  ⟨none, .mov 7 (.t 1)⟩,
  ⟨none, .call (some 8) 117 [(.t 6), (.t 7)] false⟩,
  ⟨none, .mov 1 (.t 8)⟩])
 (.seq (.reg [⟨none, .mov 9 (.t 1)⟩,
  ⟨none, .mov 4 (.t 9)⟩])
 (.ret)))⟩
/-- laws.heldChart -/
def r118 : RF :=
 ⟨2, [.tmp 4],
 .seq (.reg [⟨none, .locb 2 (.t 0)⟩,
  ⟨none, .mov 4 (.k (.int .i64 0))⟩])
 (.seq (.reg [⟨none, .fad 5 2 1⟩,
  ⟨none, .load 6 5 1 false⟩,
  ⟨none, .mov 7 (.t 1)⟩,
  ⟨none, .call (some 8) 135 [(.t 6), (.t 7)] false⟩,
  ⟨none, .mov 1 (.t 8)⟩])
 (.seq (.seq (.reg [⟨none, .mov 9 (.t 1)⟩,
   ⟨none, .bin 10 .lss (.t 9) (.k (.int .i64 0))⟩])
  (.cond (.t 10)
  (.seq (.reg [⟨none, .mov 4 (.k (.int .i64 (-1)))⟩])
   (.ret))
  (.skip)))
 (.seq (.reg [⟨none, .mov 11 (.t 1)⟩,
  ⟨none, .mov 4 (.t 11)⟩])
 (.ret))))⟩
/-- laws.sameChart -/
def r186 : RF :=
 ⟨2, [.tmp 4],
 .seq (.reg [⟨none, .locb 2 (.t 0)⟩,
  ⟨none, .locb 3 (.t 1)⟩,
  ⟨none, .mov 4 (.k (.bool false))⟩])
 (.seq (.reg [⟨none, .fad 5 2 0⟩,
  ⟨none, .load 6 5 1 false⟩,
  ⟨none, .fad 7 3 0⟩,
  ⟨none, .load 8 7 1 false⟩,
  ⟨none, .bin 9 .eql (.t 6) (.t 8)⟩,
  ⟨none, .mov 10 (.t 9)⟩,
  ⟨some (10, true), .fad 11 2 2⟩,
  ⟨some (10, true), .load 12 11 1 false⟩,
  ⟨some (10, true), .fad 13 3 2⟩,
  ⟨some (10, true), .load 14 13 1 false⟩,
  ⟨some (10, true), .beq 15 false (.t 12) (.t 14)⟩,
  ⟨none, .pick 16 (.t 10) (.t 15) (.k (.bool false))⟩,
  ⟨none, .mov 17 (.t 16)⟩,
  ⟨some (17, true), .fad 18 2 3⟩,
  ⟨some (17, true), .load 19 18 1 false⟩,
  ⟨some (17, true), .fad 20 3 3⟩,
  ⟨some (17, true), .load 21 20 1 false⟩,
  ⟨some (17, true), .bin 22 .eql (.t 19) (.t 21)⟩,
  ⟨none, .pick 23 (.t 17) (.t 22) (.k (.bool false))⟩,
  ⟨none, .mov 24 (.t 23)⟩,
  ⟨some (24, true), .fad 25 2 4⟩,
  ⟨some (24, true), .load 26 25 1 false⟩,
  ⟨some (24, true), .fad 27 3 4⟩,
  ⟨some (24, true), .load 28 27 1 false⟩,
  ⟨some (24, true), .bin 29 .eql (.t 26) (.t 28)⟩,
  ⟨none, .pick 30 (.t 24) (.t 29) (.k (.bool false))⟩,
  ⟨none, .mov 31 (.t 30)⟩,
  ⟨some (31, true), .fad 32 2 1⟩,
  ⟨some (31, true), .load 33 32 1 false⟩,
  ⟨some (31, true), .fad 34 3 1⟩,
  ⟨some (31, true), .load 35 34 1 false⟩,
  ⟨some (31, true), .call (some 36) 227 [(.t 33), (.t 35)] false⟩,
  ⟨none, .pick 37 (.t 31) (.t 36) (.k (.bool false))⟩,
  ⟨none, .mov 4 (.t 37)⟩])
 (.ret))⟩
/-- The functions of this text, with their numbers. -/
def tLChart : List (Nat × RF) := [(67, r67), (68, r68), (71, r71), (94, r94), (118, r118), (186, r186)]
end Go.Proofs.Ytlbagejkjkfkjaa.A
/- The data of a Chart with its memory, and what its converters compute. -/
namespace Go.Proofs.Ytlbagejkjkfkjaa.A
open Go
set_option linter.unusedSimpArgs false
set_option linter.unusedVariables false
structure Chart where
  epoch : Int
  ranges : List Range
  moving : Bool
  lo : Int
  to : Int
  deriving DecidableEq
def Chart.RL : Rel Chart := fun h cs t fp => ∃ x1 p1, cs = [.int .i64 t.epoch, x1, .bool t.moving, .int .u64 t.lo, .int .i64 t.to] ∧ fp = p1 ∧ SlR 8 (Fl Range.enc) h x1 t.ranges p1
theorem Chart.okL : RelOk Chart.RL where
  lt := by
    rintro h cs t fp ⟨x1, p1, rfl, rfl, w1⟩ id hid
    exact w1.lt (Fl.ok _) id hid
  mv := by
    rintro h h' cs t fp ⟨x1, p1, rfl, rfl, w1⟩ hn hg
    exact ⟨x1, _, rfl, rfl, w1.mv (Fl.ok _) hn hg⟩
def Chart.RI : Rel Chart := fun h cs t fp => ∃ x1 p1, cs = [.int .i64 t.epoch, x1, .bool t.moving, .int .u64 t.lo, .int .i64 t.to] ∧ fp = p1 ∧ SlR 7 (Fl Range.enc) h x1 t.ranges p1
theorem Chart.okI : RelOk Chart.RI where
  lt := by
    rintro h cs t fp ⟨x1, p1, rfl, rfl, w1⟩ id hid
    exact w1.lt (Fl.ok _) id hid
  mv := by
    rintro h h' cs t fp ⟨x1, p1, rfl, rfl, w1⟩ hn hg
    exact ⟨x1, _, rfl, rfl, w1.mv (Fl.ok _) hn hg⟩
theorem Chart.lenL {h : Heap} {cs : List Cell} {t : Chart} {fp : List Nat} (v : Chart.RL h cs t fp) : cs.length = 5 ∧ cs.take 5 = cs ∧ cs.drop 5 = [] := by
  obtain ⟨x1, p1, rfl, _⟩ := v
  exact ⟨rfl, rfl, rfl⟩
theorem Chart.lenI {h : Heap} {cs : List Cell} {t : Chart} {fp : List Nat} (v : Chart.RI h cs t fp) : cs.length = 5 ∧ cs.take 5 = cs ∧ cs.drop 5 = [] := by
  obtain ⟨x1, p1, rfl, _⟩ := v
  exact ⟨rfl, rfl, rfl⟩
namespace Chart
/-- The numbers are those of the machine. -/
structure Ok (t : Chart) : Prop where
  epoch : -9223372036854775808 ≤ t.epoch ∧ t.epoch ≤ 9223372036854775807
  ranges : ∀ a, a ∈ t.ranges → a.Ok
  lo : 0 ≤ t.lo ∧ t.lo ≤ 18446744073709551615
  to : -9223372036854775808 ≤ t.to ∧ t.to ≤ 9223372036854775807
def Small (t : Chart) : Prop := t.ranges.length ≤ 1048576
def wt (t : Chart) : Int := 3 * ((t.ranges.length : Nat) : Int)
def marked (t : Chart) (k : Int) : Chart := { t with ranges := Range.marks t.ranges.length (k) }
theorem wt_nn (t : Chart) : 0 ≤ t.wt := by
  simp only [wt]; omega
theorem wt_le {t : Chart} (sm : t.Small) : t.wt ≤ 3145728 := by
  unfold Small at sm
  simp only [wt]; omega
end Chart
theorem Wf.isChart {h : Heap} {n : Nat} {cs : List Cell} (w : Wf h (n + 4) shChart cs) : ∃ t fp, Chart.RL h cs t fp ∧ t.Ok := by
  obtain ⟨_, _, rfl, _, ⟨i1, rfl, j1⟩, _, _, rfl, _, m2, _, _, rfl, _, ⟨b3, rfl⟩, _, _, rfl, _, ⟨i4, rfl, j4⟩, _, _, rfl, _, ⟨i5, rfl, j5⟩, rfl⟩ := w
  obtain ⟨x1, l1, p1, rfl, w1, o1⟩ := Wf.isRangeS' m2
  exact ⟨⟨i1, l1, b3, i4, i5⟩, _, ⟨x1, _, rfl, rfl, w1⟩, ⟨wfI j1, o1, wfU j4, wfI j5⟩⟩
section
variable {F : Nat → Option RF} {Z : CallF} {h : Heap} {cs cs' : List Cell} {t u : Chart} {fp fq : List Nat}
theorem szChart_c (hLChart : Has F tLChart) (hLRange : Has F tLRange) (v : Chart.RL h cs t fp) (left : Int) (h1 : 0 ≤ left) (h2 : left ≤ 1048576) : ∃ r, call F Z 67 [.agg cs, .c (.int .i64 left)] h = some (.c (.int .i64 r), h) ∧ r ≤ left ∧ (0 ≤ r → t.Small) := by
  obtain ⟨x1, p1, rfl, rfl, w1⟩ := v
  rw [call_run F Z (hLChart.lk (g := 67) rfl) _ _ rfl]
  simp only [run0, run1, run2, run3, run4, noSlot, ownS, ownK, memN, RO.dst, lk, drop, forget, number, Nat.reduceBEq, cut?, splice?, builds, List.length_cons, List.length_nil, List.drop_succ_cons, List.drop_zero, List.take_succ_cons, List.take_zero, List.cons_append, List.nil_append, List.append_nil, List.drop_nil, List.take_nil, Nat.reduceAdd, Nat.reduceLeDiff, Nat.zero_add, Nat.add_zero, ↓reduceIte, Bool.not_true, Bool.not_false, decide_true, decide_false, eq_self, bne_self_eq_false, List.getElem?_cons_zero, List.getElem?_cons_succ, decide_eq_true_eq, Bool.false_eq_true, Bool.true_eq_false, reduceCtorEq, Nat.le_refl]
  obtain ⟨l0, s0, a0, b0⟩ := szRangeS_c (Z := Z) hLRange w1 left (by omega) (by omega)
  simp only [run0, run1, run2, run3, run4, noSlot, ownS, ownK, memN, RO.dst, lk, drop, forget, number, Nat.reduceBEq, cut?, splice?, builds, List.length_cons, List.length_nil, List.drop_succ_cons, List.drop_zero, List.take_succ_cons, List.take_zero, List.cons_append, List.nil_append, List.append_nil, List.drop_nil, List.take_nil, Nat.reduceAdd, Nat.reduceLeDiff, Nat.zero_add, Nat.add_zero, ↓reduceIte, Bool.not_true, Bool.not_false, decide_true, decide_false, eq_self, bne_self_eq_false, List.getElem?_cons_zero, List.getElem?_cons_succ, decide_eq_true_eq, Bool.false_eq_true, Bool.true_eq_false, reduceCtorEq, Nat.le_refl, s0]
  by_cases n0 : l0 < 0
  · simp only [run0, run1, run2, run3, run4, noSlot, ownS, ownK, memN, RO.dst, lk, drop, forget, number, Nat.reduceBEq, cut?, splice?, builds, List.length_cons, List.length_nil, List.drop_succ_cons, List.drop_zero, List.take_succ_cons, List.take_zero, List.cons_append, List.nil_append, List.append_nil, List.drop_nil, List.take_nil, Nat.reduceAdd, Nat.reduceLeDiff, Nat.zero_add, Nat.add_zero, ↓reduceIte, Bool.not_true, Bool.not_false, decide_true, decide_false, eq_self, bne_self_eq_false, List.getElem?_cons_zero, List.getElem?_cons_succ, decide_eq_true_eq, Bool.false_eq_true, Bool.true_eq_false, reduceCtorEq, Nat.le_refl, n0]
    exact ⟨_, rfl, by omega, by omega⟩
  simp only [run0, run1, run2, run3, run4, noSlot, ownS, ownK, memN, RO.dst, lk, drop, forget, number, Nat.reduceBEq, cut?, splice?, builds, List.length_cons, List.length_nil, List.drop_succ_cons, List.drop_zero, List.take_succ_cons, List.take_zero, List.cons_append, List.nil_append, List.append_nil, List.drop_nil, List.take_nil, Nat.reduceAdd, Nat.reduceLeDiff, Nat.zero_add, Nat.add_zero, ↓reduceIte, Bool.not_true, Bool.not_false, decide_true, decide_false, eq_self, bne_self_eq_false, List.getElem?_cons_zero, List.getElem?_cons_succ, decide_eq_true_eq, Bool.false_eq_true, Bool.true_eq_false, reduceCtorEq, Nat.le_refl, n0]
  exact ⟨_, rfl, by omega, fun _ => b0 (by omega)⟩
theorem toChart_c (hLChart : Has F tLChart) (hLRange : Has F tLRange) (hf : h.floor ≤ h.next) (v : Chart.RL h cs t fp) (sm : t.Small) : ∃ cs' h' fq, call F Z 68 [.agg cs] h = some (.agg cs', h') ∧ On h h' ∧ Chart.RI h' cs' t fq ∧ Fre h fq := by
  obtain ⟨x1, p1, rfl, rfl, w1⟩ := v
  have sm0 := sm
  obtain ⟨y1, g0, q1, e0, o0, u1, r0⟩ := toRangeS_c (Z := Z) hLRange hf w1 sm0
  rw [call_run F Z (hLChart.lk (g := 68) rfl) _ _ rfl]
  simp only [run0, run1, run2, run3, run4, noSlot, ownS, ownK, memN, RO.dst, lk, drop, forget, number, Nat.reduceBEq, cut?, splice?, builds, List.length_cons, List.length_nil, List.drop_succ_cons, List.drop_zero, List.take_succ_cons, List.take_zero, List.cons_append, List.nil_append, List.append_nil, List.drop_nil, List.take_nil, Nat.reduceAdd, Nat.reduceLeDiff, Nat.zero_add, Nat.add_zero, ↓reduceIte, Bool.not_true, Bool.not_false, decide_true, decide_false, eq_self, bne_self_eq_false, List.getElem?_cons_zero, List.getElem?_cons_succ, decide_eq_true_eq, Bool.false_eq_true, Bool.true_eq_false, reduceCtorEq, Nat.le_refl, e0]
  exact ⟨_, _, _, rfl, o0, ⟨y1, _, rfl, rfl, u1⟩, r0⟩
set_option maxHeartbeats 1000000 in
theorem eqChart_r (hLChart : Has F tLChart) (hLRange : Has F tLRange) (v : Chart.RI h cs t fp) (v' : Chart.RI h cs' u fq) : call F Z 71 [.agg cs, .agg cs'] h = some (.c (.bool (decide (t = u))), h) := by
  obtain ⟨x1, p1, rfl, rfl, w1⟩ := v
  obtain ⟨x1', p1', rfl, rfl, w1'⟩ := v'
  obtain ⟨epoch1, ranges1, moving1, lo1, to1⟩ := t
  obtain ⟨epoch2, ranges2, moving2, lo2, to2⟩ := u
  have e0 := eqRangeS_run (Z := Z) hLRange w1 w1'
  clear w1 w1'
  rw [call_run F Z (hLChart.lk (g := 71) rfl) _ _ rfl]
  simp only [run0, run1, run2, run3, run4, noSlot, ownS, ownK, memN, RO.dst, lk, drop, forget, number, Nat.reduceBEq, cut?, splice?, builds, List.length_cons, List.length_nil, List.drop_succ_cons, List.drop_zero, List.take_succ_cons, List.take_zero, List.cons_append, List.nil_append, List.append_nil, List.drop_nil, List.take_nil, Nat.reduceAdd, Nat.reduceLeDiff, Nat.zero_add, Nat.add_zero, ↓reduceIte, Bool.not_true, Bool.not_false, decide_true, decide_false, eq_self, bne_self_eq_false, List.getElem?_cons_zero, List.getElem?_cons_succ, decide_eq_true_eq, Bool.false_eq_true, Bool.true_eq_false, reduceCtorEq, Nat.le_refl, e0]
  (repeat' ((first | (rw [gF_if]; split) | (rw [condC_if]; split) | (rw [pickR_if]; split)) <;> (rename_i hh; (try simp only [Bool.not_eq_true, decide_eq_true_eq] at hh); simp only [hh, run0, run1, run2, run3, run4, noSlot, ownS, ownK, memN, RO.dst, lk, drop, forget, number, Nat.reduceBEq, cut?, splice?, builds, List.length_cons, List.length_nil, List.drop_succ_cons, List.drop_zero, List.take_succ_cons, List.take_zero, List.cons_append, List.nil_append, List.append_nil, List.drop_nil, List.take_nil, Nat.reduceAdd, Nat.reduceLeDiff, Nat.zero_add, Nat.add_zero, ↓reduceIte, Bool.not_true, Bool.not_false, decide_true, decide_false, eq_self, bne_self_eq_false, List.getElem?_cons_zero, List.getElem?_cons_succ, decide_eq_true_eq, Bool.false_eq_true, Bool.true_eq_false, reduceCtorEq, Nat.le_refl, e0]))) <;> clear e0 <;> refine fin_bool ?_ <;> simp_all <;> (try (intros; omega))
theorem markChart_r (hLChart : Has F tLChart) (hLRange : Has F tLRange) (v : Chart.RI h cs t fp) (nd : fp.Nodup) (hlo : ∀ id, id ∈ fp → h.floor ≤ id) (k : Int) (h1 : 0 ≤ k) (h2 : k + t.wt ≤ 9200000000000000000) : ∃ h', call F Z 94 [.agg cs, .c (.int .i64 k)] h = some (.c (.int .i64 (k + t.wt)), h') ∧ Mk h h' fp ∧ Chart.RI h' cs (t.marked k) fp := by
  obtain ⟨x1, p1, rfl, rfl, w1⟩ := v
  simp only [Chart.wt] at h2 ⊢
  obtain ⟨h', e0, m0, u1⟩ := markRangeS_run (Z := Z) hLRange w1 hlo k h1 h2
  rw [call_run F Z (hLChart.lk (g := 94) rfl) _ _ rfl]
  simp only [run0, run1, run2, run3, run4, noSlot, ownS, ownK, memN, RO.dst, lk, drop, forget, number, Nat.reduceBEq, cut?, splice?, builds, List.length_cons, List.length_nil, List.drop_succ_cons, List.drop_zero, List.take_succ_cons, List.take_zero, List.cons_append, List.nil_append, List.append_nil, List.drop_nil, List.take_nil, Nat.reduceAdd, Nat.reduceLeDiff, Nat.zero_add, Nat.add_zero, ↓reduceIte, Bool.not_true, Bool.not_false, decide_true, decide_false, eq_self, bne_self_eq_false, List.getElem?_cons_zero, List.getElem?_cons_succ, decide_eq_true_eq, Bool.false_eq_true, Bool.true_eq_false, reduceCtorEq, Nat.le_refl, e0]
  exact ⟨_, rfl, m0, ⟨x1, _, rfl, rfl, u1⟩⟩
theorem heldChart_r (hLChart : Has F tLChart) (hLRange : Has F tLRange) {k : Int} (v : Chart.RI h cs (t.marked k) fp) (h1 : 0 ≤ k) (h2 : k + t.wt ≤ 9200000000000000000) : call F Z 118 [.agg cs, .c (.int .i64 k)] h = some (.c (.int .i64 (k + t.wt)), h) := by
  obtain ⟨x1, p1, rfl, rfl, w1⟩ := v
  simp only [Chart.wt] at h2 ⊢
  have e0 := heldRangeS_run (Z := Z) hLRange w1 h1 h2
  have n0 : ¬ k + 3 * ((t.ranges.length : Nat) : Int) < 0 := by omega
  rw [call_run F Z (hLChart.lk (g := 118) rfl) _ _ rfl]
  simp only [Chart.marked, run0, run1, run2, run3, run4, noSlot, ownS, ownK, memN, RO.dst, lk, drop, forget, number, Nat.reduceBEq, cut?, splice?, builds, List.length_cons, List.length_nil, List.drop_succ_cons, List.drop_zero, List.take_succ_cons, List.take_zero, List.cons_append, List.nil_append, List.append_nil, List.drop_nil, List.take_nil, Nat.reduceAdd, Nat.reduceLeDiff, Nat.zero_add, Nat.add_zero, ↓reduceIte, Bool.not_true, Bool.not_false, decide_true, decide_false, eq_self, bne_self_eq_false, List.getElem?_cons_zero, List.getElem?_cons_succ, decide_eq_true_eq, Bool.false_eq_true, Bool.true_eq_false, reduceCtorEq, Nat.le_refl] at e0 ⊢
  simp only [run0, run1, run2, run3, run4, noSlot, ownS, ownK, memN, RO.dst, lk, drop, forget, number, Nat.reduceBEq, cut?, splice?, builds, List.length_cons, List.length_nil, List.drop_succ_cons, List.drop_zero, List.take_succ_cons, List.take_zero, List.cons_append, List.nil_append, List.append_nil, List.drop_nil, List.take_nil, Nat.reduceAdd, Nat.reduceLeDiff, Nat.zero_add, Nat.add_zero, ↓reduceIte, Bool.not_true, Bool.not_false, decide_true, decide_false, eq_self, bne_self_eq_false, List.getElem?_cons_zero, List.getElem?_cons_succ, decide_eq_true_eq, Bool.false_eq_true, Bool.true_eq_false, reduceCtorEq, Nat.le_refl, e0, n0]
end
end Go.Proofs.Ytlbagejkjkfkjaa.A
/- What the functions of ranges compute. -/
namespace Go.Proofs.Ytlbagejkjkfkjaa.A
open Go
set_option linter.unusedSimpArgs false
set_option linter.unusedVariables false
def Range.at_ (xs : List Range) (i : Nat) : Range := xs[i]?.getD Range.none_
def Range.fits (xs : List Range) (i : Nat) : Bool := decide ((Range.at_ xs i).lo ≤ (Range.at_ xs i).hi) && (inR (Range.at_ xs i).group 0 99 && (i == 0 || decide ((Range.at_ xs i).lo = (Range.at_ xs (i - 1)).hi + 1)))
/-- Are ranges all ids? -/
def rangesOk (xs : List Range) : Bool := inR xs.length 1 24 && ((Range.at_ xs 0).lo == 0 && ((Range.at_ xs (xs.length - 1)).hi == 18446744073709551615 && (List.range xs.length).all (Range.fits xs)))
section
variable {F : Nat → Option RF} {Z : CallF} {h : Heap} {x : Cell} {xs : List Range} {fp : List Nat}
set_option maxHeartbeats 4000000 in
theorem areRanges_turn (hI11 : Has F tI11) (w : SlR 7 (Fl Range.enc) h x xs fp) (hok : ∀ t, t ∈ xs → t.Ok) (i : Nat) (hi : i < xs.length) :
    Turn (loop F Z [0, 30, 31, 32] r124L0 ⟨[(0, .c x), (30, .c x), (31, .c (.int .i64 (xs.length : Nat))), (32, .c (.int .i64 (i : Nat)))], [], [], h⟩)
      (loop F Z [0, 30, 31, 32] r124L0 ⟨[(0, .c x), (30, .c x), (31, .c (.int .i64 (xs.length : Nat))), (32, .c (.int .i64 ((i + 1 : Nat) : Int)))], [], [], h⟩) (Range.fits xs i) (fun s => lk s.env 2 = some (.c (.bool false)) ∧ s.hp = h) := by
  have hle := w.le2
  have hlt : (i : Int) < xs.length := by omega
  have hws := wrapS i (by omega)
  have o1 := hok _ (List.getElem_mem hi)
  rw [loop_run]
  conv in (codeF _ _ r124L0 _) => unfold r124L0
  cases i with
  | zero =>
    have g0 : ¬ ((0 : Nat) : Int) > 0 := by omega
    simp only [run0, run1, run2, run3, run4, noSlot, ownS, ownK, memN, RO.dst, lk, drop, forget, number, Nat.reduceBEq, cut?, splice?, builds, List.length_cons, List.length_nil, List.drop_succ_cons, List.drop_zero, List.take_succ_cons, List.take_zero, List.cons_append, List.nil_append, List.append_nil, List.drop_nil, List.take_nil, Nat.reduceAdd, Nat.reduceLeDiff, Nat.zero_add, Nat.add_zero, ↓reduceIte, Bool.not_true, Bool.not_false, decide_true, decide_false, eq_self, bne_self_eq_false, List.getElem?_cons_zero, List.getElem?_cons_succ, decide_eq_true_eq, Bool.false_eq_true, Bool.true_eq_false, reduceCtorEq, Nat.le_refl, w.len, hlt, w.idx hi, w.load hi, Range.enc, isGroupId_run hI11, g0]
    have e0 : Range.at_ xs 0 = xs[0] := by simp [Range.at_, List.getElem?_eq_getElem hi]
    have hf : Range.fits xs 0 = (decide (xs[0].lo ≤ xs[0].hi) && (inR xs[0].group 0 99 && true)) := by simp only [Range.fits, e0]; rfl
    rw [hf]
    clear w hle hf e0
    generalize xs[0] = r at *
    obtain ⟨lo, hi_, g⟩ := r
    (repeat' ((first | (rw [gF_if]; split) | (rw [condC_if]; split) | (rw [pickR_if]; split)) <;> (rename_i hh; (try simp only [Bool.not_eq_true, decide_eq_true_eq] at hh); simp only [hh, run0, run1, run2, run3, run4, noSlot, ownS, ownK, memN, RO.dst, lk, drop, forget, number, Nat.reduceBEq, cut?, splice?, builds, List.length_cons, List.length_nil, List.drop_succ_cons, List.drop_zero, List.take_succ_cons, List.take_zero, List.cons_append, List.nil_append, List.append_nil, List.drop_nil, List.take_nil, Nat.reduceAdd, Nat.reduceLeDiff, Nat.zero_add, Nat.add_zero, ↓reduceIte, Bool.not_true, Bool.not_false, decide_true, decide_false, eq_self, bne_self_eq_false, List.getElem?_cons_zero, List.getElem?_cons_succ, decide_eq_true_eq, Bool.false_eq_true, Bool.true_eq_false, reduceCtorEq, Nat.le_refl, hws, isGroupId_run hI11, g0]))) <;> first
      | exact .inl ⟨by simp_all <;> omega, rfl⟩
      | exact .inr ⟨by simp_all <;> omega, _, rfl, rfl, rfl⟩
  | succ j =>
    have hj : j < xs.length := by omega
    have o2 := hok _ (List.getElem_mem hj)
    have g1 : ((j + 1 : Nat) : Int) > 0 := by omega
    have hw1 : IntKind.i64.wrap (((j + 1 : Nat) : Int) - 1) = (j : Int) := by rw [wrapI _ (by omega) (by omega)]; omega
    simp only [run0, run1, run2, run3, run4, noSlot, ownS, ownK, memN, RO.dst, lk, drop, forget, number, Nat.reduceBEq, cut?, splice?, builds, List.length_cons, List.length_nil, List.drop_succ_cons, List.drop_zero, List.take_succ_cons, List.take_zero, List.cons_append, List.nil_append, List.append_nil, List.drop_nil, List.take_nil, Nat.reduceAdd, Nat.reduceLeDiff, Nat.zero_add, Nat.add_zero, ↓reduceIte, Bool.not_true, Bool.not_false, decide_true, decide_false, eq_self, bne_self_eq_false, List.getElem?_cons_zero, List.getElem?_cons_succ, decide_eq_true_eq, Bool.false_eq_true, Bool.true_eq_false, reduceCtorEq, Nat.le_refl, w.len, hlt, w.idx hi, w.load hi, Range.enc, isGroupId_run hI11, g1, hw1, w.idx hj, w.load hj]
    have e1 : Range.at_ xs (j + 1) = xs[j + 1] := by simp [Range.at_, List.getElem?_eq_getElem hi]
    have e2 : Range.at_ xs j = xs[j] := by simp [Range.at_, List.getElem?_eq_getElem hj]
    have hf : Range.fits xs (j + 1) = (decide (xs[j + 1].lo ≤ xs[j + 1].hi) && (inR xs[j + 1].group 0 99 && decide (xs[j + 1].lo = xs[j].hi + 1))) := by
      simp only [Range.fits, e1, Nat.add_sub_cancel, e2]
      rfl
    rw [hf]
    have hx := w.idx hj
    have hl := w.load hj
    clear hf e1 e2 
    generalize hr : xs[j + 1] = r at *
    generalize hq : xs[j] = q at *
    obtain ⟨lo, hi_, g⟩ := r
    obtain ⟨lo', hi', g'⟩ := q
    obtain ⟨a1, a2, a3⟩ := o1
    obtain ⟨b1, b2, b3⟩ := o2
    dsimp only at a1 a2 a3 b1 b2 b3
    have hwl : lo ≠ 0 → IntKind.u64.wrap (lo - 1) = lo - 1 := fun h0 => wrapU _ (by omega) (by omega)
    clear hok hle w
    (repeat' ((first | (rw [gF_if]; split) | (rw [condC_if]; split) | (rw [pickR_if]; split)) <;> (rename_i hh; (try simp only [Bool.not_eq_true, decide_eq_true_eq] at hh); simp only [hh, run0, run1, run2, run3, run4, noSlot, ownS, ownK, memN, RO.dst, lk, drop, forget, number, Nat.reduceBEq, cut?, splice?, builds, List.length_cons, List.length_nil, List.drop_succ_cons, List.drop_zero, List.take_succ_cons, List.take_zero, List.cons_append, List.nil_append, List.append_nil, List.drop_nil, List.take_nil, Nat.reduceAdd, Nat.reduceLeDiff, Nat.zero_add, Nat.add_zero, ↓reduceIte, Bool.not_true, Bool.not_false, decide_true, decide_false, eq_self, bne_self_eq_false, List.getElem?_cons_zero, List.getElem?_cons_succ, decide_eq_true_eq, Bool.false_eq_true, Bool.true_eq_false, reduceCtorEq, Nat.le_refl, hws, isGroupId_run hI11, g1, hw1, hx, hl, Range.enc]))) <;> clear hx hl hr hq <;> first
      | exact .inl ⟨by simp_all <;> omega, rfl⟩
      | exact .inr ⟨by simp_all <;> omega, _, rfl, rfl, rfl⟩
theorem areRanges_run (hI11 : Has F tI11) (w : SlR 7 (Fl Range.enc) h x xs fp) (hok : ∀ t, t ∈ xs → t.Ok) : call F Z 124 [.c x] h = some (.c (.bool (rangesOk xs)), h) := by
  have hle := w.le2
  rw [call_run F Z (hI11.lk (g := 124) rfl) _ _ rfl]
  simp only [run0, run1, run2, run3, run4, noSlot, ownS, ownK, memN, RO.dst, lk, drop, forget, number, Nat.reduceBEq, cut?, splice?, builds, List.length_cons, List.length_nil, List.drop_succ_cons, List.drop_zero, List.take_succ_cons, List.take_zero, List.cons_append, List.nil_append, List.append_nil, List.drop_nil, List.take_nil, Nat.reduceAdd, Nat.reduceLeDiff, Nat.zero_add, Nat.add_zero, ↓reduceIte, Bool.not_true, Bool.not_false, decide_true, decide_false, eq_self, bne_self_eq_false, List.getElem?_cons_zero, List.getElem?_cons_succ, decide_eq_true_eq, Bool.false_eq_true, Bool.true_eq_false, reduceCtorEq, Nat.le_refl, w.len]
  by_cases hn : 1 ≤ xs.length ∧ xs.length ≤ 24
  · have d1 : ¬ (xs.length : Int) < 1 := by omega
    have d2 : ¬ (xs.length : Int) > 24 := by omega
    have h0 : 0 < xs.length := by omega
    have h1 : xs.length - 1 < xs.length := by omega
    have hw1 : IntKind.i64.wrap ((xs.length : Int) - 1) = ((xs.length - 1 : Nat) : Int) := by rw [wrapI _ (by omega) (by omega)]; omega
    have x0 : idxR 7 (some x) (some 0) = some (.ptr x.sid 0 0) := w.idx h0
    have inr : inR (xs.length : Int) 1 24 = true := by simp [inR]; omega
    have l0 : ∀ j n, loadP h x.sid 0 j n = cut? (Range.at_ xs 0).enc j n := w.loadD Range.none_ h0
    have l1 : ∀ j n, loadP h x.sid (xs.length - 1) j n = cut? (Range.at_ xs (xs.length - 1)).enc j n := w.loadD Range.none_ h1
    simp only [run0, run1, run2, run3, run4, noSlot, ownS, ownK, memN, RO.dst, lk, drop, forget, number, Nat.reduceBEq, cut?, splice?, builds, List.length_cons, List.length_nil, List.drop_succ_cons, List.drop_zero, List.take_succ_cons, List.take_zero, List.cons_append, List.nil_append, List.append_nil, List.drop_nil, List.take_nil, Nat.reduceAdd, Nat.reduceLeDiff, Nat.zero_add, Nat.add_zero, ↓reduceIte, Bool.not_true, Bool.not_false, decide_true, decide_false, eq_self, bne_self_eq_false, List.getElem?_cons_zero, List.getElem?_cons_succ, decide_eq_true_eq, Bool.false_eq_true, Bool.true_eq_false, reduceCtorEq, Nat.le_refl, w.len, d1, d2, x0, l0, hw1, w.idx h1, l1, Range.enc]
    have key := loop_allN (F := F) (Z := Z) (live := [0, 30, 31, 32]) (b := r124L0) xs.length (fun i => ⟨[(0, .c x), (30, .c x), (31, .c (.int .i64 (xs.length : Nat))), (32, .c (.int .i64 (i : Nat)))], [], [], h⟩) (Range.fits xs) (fun s => lk s.env 2 = some (.c (.bool false)) ∧ s.hp = h) fun i hi => areRanges_turn hI11 w hok i hi
    simp only [show ((0 : Nat) : Int) = 0 from rfl] at key
    have hlt : ¬ (xs.length : Int) < xs.length := by omega
    have hx1 := w.idx h1
    have hwl := w.len
    clear w
    (repeat' ((first | (rw [gF_if]; split) | (rw [condC_if]; split) | (rw [pickR_if]; split)) <;> (rename_i hh; (try simp only [Bool.not_eq_true, decide_eq_true_eq] at hh); simp only [hh, run0, run1, run2, run3, run4, noSlot, ownS, ownK, memN, RO.dst, lk, drop, forget, number, Nat.reduceBEq, cut?, splice?, builds, List.length_cons, List.length_nil, List.drop_succ_cons, List.drop_zero, List.take_succ_cons, List.take_zero, List.cons_append, List.nil_append, List.append_nil, List.drop_nil, List.take_nil, Nat.reduceAdd, Nat.reduceLeDiff, Nat.zero_add, Nat.add_zero, ↓reduceIte, Bool.not_true, Bool.not_false, decide_true, decide_false, eq_self, bne_self_eq_false, List.getElem?_cons_zero, List.getElem?_cons_succ, decide_eq_true_eq, Bool.false_eq_true, Bool.true_eq_false, reduceCtorEq, Nat.le_refl, hw1, hx1, l0, l1, hwl, Range.enc])))
    all_goals first
      | (rcases key with ⟨k1, k2⟩ | ⟨k1, s, k2, k3, k4⟩
         · rw [k2, loop_run]
           conv in (codeF _ _ r124L0 _) => unfold r124L0
           simp only [run0, run1, run2, run3, run4, noSlot, ownS, ownK, memN, RO.dst, lk, drop, forget, number, Nat.reduceBEq, cut?, splice?, builds, List.length_cons, List.length_nil, List.drop_succ_cons, List.drop_zero, List.take_succ_cons, List.take_zero, List.cons_append, List.nil_append, List.append_nil, List.drop_nil, List.take_nil, Nat.reduceAdd, Nat.reduceLeDiff, Nat.zero_add, Nat.add_zero, ↓reduceIte, Bool.not_true, Bool.not_false, decide_true, decide_false, eq_self, bne_self_eq_false, List.getElem?_cons_zero, List.getElem?_cons_succ, decide_eq_true_eq, Bool.false_eq_true, Bool.true_eq_false, reduceCtorEq, Nat.le_refl, hlt]
           simp_all [rangesOk]
         · rw [k2]
           simp only [run0, run1, run2, run3, run4, noSlot, ownS, ownK, memN, RO.dst, lk, drop, forget, number, Nat.reduceBEq, cut?, splice?, builds, List.length_cons, List.length_nil, List.drop_succ_cons, List.drop_zero, List.take_succ_cons, List.take_zero, List.cons_append, List.nil_append, List.append_nil, List.drop_nil, List.take_nil, Nat.reduceAdd, Nat.reduceLeDiff, Nat.zero_add, Nat.add_zero, ↓reduceIte, Bool.not_true, Bool.not_false, decide_true, decide_false, eq_self, bne_self_eq_false, List.getElem?_cons_zero, List.getElem?_cons_succ, decide_eq_true_eq, Bool.false_eq_true, Bool.true_eq_false, reduceCtorEq, Nat.le_refl, k3, k4]
           simp_all [rangesOk])
      | (clear key; simp_all [rangesOk])
  · have inr : inR (xs.length : Int) 1 24 = false := by simp [inR]; omega
    have hr : rangesOk xs = false := by simp [rangesOk, inr]
    rw [hr]
    (repeat' ((first | (rw [gF_if]; split) | (rw [condC_if]; split) | (rw [pickR_if]; split)) <;> (rename_i hh; (try simp only [Bool.not_eq_true, decide_eq_true_eq] at hh); simp only [hh, run0, run1, run2, run3, run4, noSlot, ownS, ownK, memN, RO.dst, lk, drop, forget, number, Nat.reduceBEq, cut?, splice?, builds, List.length_cons, List.length_nil, List.drop_succ_cons, List.drop_zero, List.take_succ_cons, List.take_zero, List.cons_append, List.nil_append, List.append_nil, List.drop_nil, List.take_nil, Nat.reduceAdd, Nat.reduceLeDiff, Nat.zero_add, Nat.add_zero, ↓reduceIte, Bool.not_true, Bool.not_false, decide_true, decide_false, eq_self, bne_self_eq_false, List.getElem?_cons_zero, List.getElem?_cons_succ, decide_eq_true_eq, Bool.false_eq_true, Bool.true_eq_false, reduceCtorEq, Nat.le_refl, w.len])))
    all_goals first | rfl | (exfalso; apply hn; simp_all <;> omega)
set_option maxHeartbeats 4000000 in
theorem sRangesOk_turn (hS : Has F tS01d) (hS11 : Has F tS11) (w : SlR 7 (Fl Range.enc) h x xs fp) (hok : ∀ t, t ∈ xs → t.Ok) (i : Nat) (hi : i < xs.length) :
    Turn (loop F Z [0, 3] r120L0 ⟨[(0, .c x), (3, .c (.int .i64 (i : Nat)))], [], [], h⟩)
      (loop F Z [0, 3] r120L0 ⟨[(0, .c x), (3, .c (.int .i64 ((i + 1 : Nat) : Int)))], [], [], h⟩) (Range.fits xs i) (fun s => lk s.env 2 = some (.c (.bool false)) ∧ s.hp = h) := by
  have hle := w.le2
  have hlt : (i : Int) < xs.length := by omega
  have hws := wrapS i (by omega)
  have o1 := hok _ (List.getElem_mem hi)
  rw [loop_run]
  conv in (codeF _ _ r120L0 _) => unfold r120L0
  cases i with
  | zero =>
    have g0 : ¬ ((0 : Nat) : Int) > 0 := by omega
    simp only [run0, run1, run2, run3, run4, noSlot, ownS, ownK, memN, RO.dst, lk, drop, forget, number, Nat.reduceBEq, cut?, splice?, builds, List.length_cons, List.length_nil, List.drop_succ_cons, List.drop_zero, List.take_succ_cons, List.take_zero, List.cons_append, List.nil_append, List.append_nil, List.drop_nil, List.take_nil, Nat.reduceAdd, Nat.reduceLeDiff, Nat.zero_add, Nat.add_zero, ↓reduceIte, Bool.not_true, Bool.not_false, decide_true, decide_false, eq_self, bne_self_eq_false, List.getElem?_cons_zero, List.getElem?_cons_succ, decide_eq_true_eq, Bool.false_eq_true, Bool.true_eq_false, reduceCtorEq, Nat.le_refl, w.len, hlt, w.idx hi, w.load hi, Range.enc, l01In_run hS, g0]
    have e0 : Range.at_ xs 0 = xs[0] := by simp [Range.at_, List.getElem?_eq_getElem hi]
    have hf : Range.fits xs 0 = (decide (xs[0].lo ≤ xs[0].hi) && (inR xs[0].group 0 99 && true)) := by simp only [Range.fits, e0]; rfl
    rw [hf]
    clear w hle hf e0
    generalize xs[0] = r at *
    obtain ⟨lo, hi_, g⟩ := r
    (repeat' ((first | (rw [gF_if]; split) | (rw [condC_if]; split) | (rw [pickR_if]; split)) <;> (rename_i hh; (try simp only [Bool.not_eq_true, decide_eq_true_eq] at hh); simp only [hh, run0, run1, run2, run3, run4, noSlot, ownS, ownK, memN, RO.dst, lk, drop, forget, number, Nat.reduceBEq, cut?, splice?, builds, List.length_cons, List.length_nil, List.drop_succ_cons, List.drop_zero, List.take_succ_cons, List.take_zero, List.cons_append, List.nil_append, List.append_nil, List.drop_nil, List.take_nil, Nat.reduceAdd, Nat.reduceLeDiff, Nat.zero_add, Nat.add_zero, ↓reduceIte, Bool.not_true, Bool.not_false, decide_true, decide_false, eq_self, bne_self_eq_false, List.getElem?_cons_zero, List.getElem?_cons_succ, decide_eq_true_eq, Bool.false_eq_true, Bool.true_eq_false, reduceCtorEq, Nat.le_refl, hws, l01In_run hS, g0]))) <;> first
      | exact .inl ⟨by simp_all <;> omega, rfl⟩
      | exact .inr ⟨by simp_all <;> omega, _, rfl, rfl, rfl⟩
  | succ j =>
    have hj : j < xs.length := by omega
    have o2 := hok _ (List.getElem_mem hj)
    have g1 : ((j + 1 : Nat) : Int) > 0 := by omega
    have hw1 : IntKind.i64.wrap (((j + 1 : Nat) : Int) - 1) = (j : Int) := by rw [wrapI _ (by omega) (by omega)]; omega
    simp only [run0, run1, run2, run3, run4, noSlot, ownS, ownK, memN, RO.dst, lk, drop, forget, number, Nat.reduceBEq, cut?, splice?, builds, List.length_cons, List.length_nil, List.drop_succ_cons, List.drop_zero, List.take_succ_cons, List.take_zero, List.cons_append, List.nil_append, List.append_nil, List.drop_nil, List.take_nil, Nat.reduceAdd, Nat.reduceLeDiff, Nat.zero_add, Nat.add_zero, ↓reduceIte, Bool.not_true, Bool.not_false, decide_true, decide_false, eq_self, bne_self_eq_false, List.getElem?_cons_zero, List.getElem?_cons_succ, decide_eq_true_eq, Bool.false_eq_true, Bool.true_eq_false, reduceCtorEq, Nat.le_refl, w.len, hlt, w.idx hi, w.load hi, Range.enc, l01In_run hS, g1, hw1, w.idx hj, w.load hj]
    have e1 : Range.at_ xs (j + 1) = xs[j + 1] := by simp [Range.at_, List.getElem?_eq_getElem hi]
    have e2 : Range.at_ xs j = xs[j] := by simp [Range.at_, List.getElem?_eq_getElem hj]
    have hf : Range.fits xs (j + 1) = (decide (xs[j + 1].lo ≤ xs[j + 1].hi) && (inR xs[j + 1].group 0 99 && decide (xs[j + 1].lo = xs[j].hi + 1))) := by
      simp only [Range.fits, e1, Nat.add_sub_cancel, e2]
      rfl
    rw [hf]
    have hx := w.idx hj
    have hl := w.load hj
    clear hf e1 e2 
    generalize hr : xs[j + 1] = r at *
    generalize hq : xs[j] = q at *
    obtain ⟨lo, hi_, g⟩ := r
    obtain ⟨lo', hi', g'⟩ := q
    obtain ⟨a1, a2, a3⟩ := o1
    obtain ⟨b1, b2, b3⟩ := o2
    dsimp only at a1 a2 a3 b1 b2 b3
    have hwl : hi' ≠ 18446744073709551615 → IntKind.u64.wrap (hi' + 1) = hi' + 1 := fun h0 => wrapU _ (by omega) (by omega)
    clear hok hle w
    (repeat' ((first | (rw [gF_if]; split) | (rw [condC_if]; split) | (rw [pickR_if]; split)) <;> (rename_i hh; (try simp only [Bool.not_eq_true, decide_eq_true_eq] at hh); simp only [hh, run0, run1, run2, run3, run4, noSlot, ownS, ownK, memN, RO.dst, lk, drop, forget, number, Nat.reduceBEq, cut?, splice?, builds, List.length_cons, List.length_nil, List.drop_succ_cons, List.drop_zero, List.take_succ_cons, List.take_zero, List.cons_append, List.nil_append, List.append_nil, List.drop_nil, List.take_nil, Nat.reduceAdd, Nat.reduceLeDiff, Nat.zero_add, Nat.add_zero, ↓reduceIte, Bool.not_true, Bool.not_false, decide_true, decide_false, eq_self, bne_self_eq_false, List.getElem?_cons_zero, List.getElem?_cons_succ, decide_eq_true_eq, Bool.false_eq_true, Bool.true_eq_false, reduceCtorEq, Nat.le_refl, hws, l01In_run hS, g1, hw1, hx, hl, Range.enc]))) <;> clear hx hl hr hq <;> first
      | exact .inl ⟨by simp_all <;> omega, rfl⟩
      | exact .inr ⟨by simp_all <;> omega, _, rfl, rfl, rfl⟩
theorem sRangesOk_run (hS : Has F tS01d) (hS11 : Has F tS11) (w : SlR 7 (Fl Range.enc) h x xs fp) (hok : ∀ t, t ∈ xs → t.Ok) : call F Z 120 [.c x] h = some (.c (.bool (rangesOk xs)), h) := by
  have hle := w.le2
  rw [call_run F Z (hS11.lk (g := 120) rfl) _ _ rfl]
  simp only [run0, run1, run2, run3, run4, noSlot, ownS, ownK, memN, RO.dst, lk, drop, forget, number, Nat.reduceBEq, cut?, splice?, builds, List.length_cons, List.length_nil, List.drop_succ_cons, List.drop_zero, List.take_succ_cons, List.take_zero, List.cons_append, List.nil_append, List.append_nil, List.drop_nil, List.take_nil, Nat.reduceAdd, Nat.reduceLeDiff, Nat.zero_add, Nat.add_zero, ↓reduceIte, Bool.not_true, Bool.not_false, decide_true, decide_false, eq_self, bne_self_eq_false, List.getElem?_cons_zero, List.getElem?_cons_succ, decide_eq_true_eq, Bool.false_eq_true, Bool.true_eq_false, reduceCtorEq, Nat.le_refl, w.len, l01In_run hS]
  by_cases hn : 1 ≤ xs.length ∧ xs.length ≤ 24
  · have d1 : ¬ (xs.length : Int) < 1 := by omega
    have d2 : ¬ (xs.length : Int) > 24 := by omega
    have h0 : 0 < xs.length := by omega
    have h1 : xs.length - 1 < xs.length := by omega
    have hw1 : IntKind.i64.wrap ((xs.length : Int) - 1) = ((xs.length - 1 : Nat) : Int) := by rw [wrapI _ (by omega) (by omega)]; omega
    have x0 : idxR 7 (some x) (some 0) = some (.ptr x.sid 0 0) := w.idx h0
    have inr : inR (xs.length : Int) 1 24 = true := by simp [inR]; omega
    have l0 : ∀ j n, loadP h x.sid 0 j n = cut? (Range.at_ xs 0).enc j n := w.loadD Range.none_ h0
    have l1 : ∀ j n, loadP h x.sid (xs.length - 1) j n = cut? (Range.at_ xs (xs.length - 1)).enc j n := w.loadD Range.none_ h1
    simp only [run0, run1, run2, run3, run4, noSlot, ownS, ownK, memN, RO.dst, lk, drop, forget, number, Nat.reduceBEq, cut?, splice?, builds, List.length_cons, List.length_nil, List.drop_succ_cons, List.drop_zero, List.take_succ_cons, List.take_zero, List.cons_append, List.nil_append, List.append_nil, List.drop_nil, List.take_nil, Nat.reduceAdd, Nat.reduceLeDiff, Nat.zero_add, Nat.add_zero, ↓reduceIte, Bool.not_true, Bool.not_false, decide_true, decide_false, eq_self, bne_self_eq_false, List.getElem?_cons_zero, List.getElem?_cons_succ, decide_eq_true_eq, Bool.false_eq_true, Bool.true_eq_false, reduceCtorEq, Nat.le_refl, w.len, inr, x0, l0, hw1, w.idx h1, l1, Range.enc]
    have key := loop_allN (F := F) (Z := Z) (live := [0, 3]) (b := r120L0) xs.length (fun i => ⟨[(0, .c x), (3, .c (.int .i64 (i : Nat)))], [], [], h⟩) (Range.fits xs) (fun s => lk s.env 2 = some (.c (.bool false)) ∧ s.hp = h) fun i hi => sRangesOk_turn hS hS11 w hok i hi
    simp only [show ((0 : Nat) : Int) = 0 from rfl] at key
    have hlt : ¬ (xs.length : Int) < xs.length := by omega
    have hx1 := w.idx h1
    have hwl := w.len
    clear w
    (repeat' ((first | (rw [gF_if]; split) | (rw [condC_if]; split) | (rw [pickR_if]; split)) <;> (rename_i hh; (try simp only [Bool.not_eq_true, decide_eq_true_eq] at hh); simp only [hh, run0, run1, run2, run3, run4, noSlot, ownS, ownK, memN, RO.dst, lk, drop, forget, number, Nat.reduceBEq, cut?, splice?, builds, List.length_cons, List.length_nil, List.drop_succ_cons, List.drop_zero, List.take_succ_cons, List.take_zero, List.cons_append, List.nil_append, List.append_nil, List.drop_nil, List.take_nil, Nat.reduceAdd, Nat.reduceLeDiff, Nat.zero_add, Nat.add_zero, ↓reduceIte, Bool.not_true, Bool.not_false, decide_true, decide_false, eq_self, bne_self_eq_false, List.getElem?_cons_zero, List.getElem?_cons_succ, decide_eq_true_eq, Bool.false_eq_true, Bool.true_eq_false, reduceCtorEq, Nat.le_refl, hw1, hx1, l0, l1, hwl, Range.enc])))
    all_goals first
      | (rcases key with ⟨k1, k2⟩ | ⟨k1, s, k2, k3, k4⟩
         · rw [k2, loop_run]
           conv in (codeF _ _ r120L0 _) => unfold r120L0
           simp only [run0, run1, run2, run3, run4, noSlot, ownS, ownK, memN, RO.dst, lk, drop, forget, number, Nat.reduceBEq, cut?, splice?, builds, List.length_cons, List.length_nil, List.drop_succ_cons, List.drop_zero, List.take_succ_cons, List.take_zero, List.cons_append, List.nil_append, List.append_nil, List.drop_nil, List.take_nil, Nat.reduceAdd, Nat.reduceLeDiff, Nat.zero_add, Nat.add_zero, ↓reduceIte, Bool.not_true, Bool.not_false, decide_true, decide_false, eq_self, bne_self_eq_false, List.getElem?_cons_zero, List.getElem?_cons_succ, decide_eq_true_eq, Bool.false_eq_true, Bool.true_eq_false, reduceCtorEq, Nat.le_refl, hwl, hlt]
           simp_all [rangesOk]
         · rw [k2]
           simp only [run0, run1, run2, run3, run4, noSlot, ownS, ownK, memN, RO.dst, lk, drop, forget, number, Nat.reduceBEq, cut?, splice?, builds, List.length_cons, List.length_nil, List.drop_succ_cons, List.drop_zero, List.take_succ_cons, List.take_zero, List.cons_append, List.nil_append, List.append_nil, List.drop_nil, List.take_nil, Nat.reduceAdd, Nat.reduceLeDiff, Nat.zero_add, Nat.add_zero, ↓reduceIte, Bool.not_true, Bool.not_false, decide_true, decide_false, eq_self, bne_self_eq_false, List.getElem?_cons_zero, List.getElem?_cons_succ, decide_eq_true_eq, Bool.false_eq_true, Bool.true_eq_false, reduceCtorEq, Nat.le_refl, k3, k4]
           simp_all [rangesOk])
      | (clear key; simp_all [rangesOk])
  · have inr : inR (xs.length : Int) 1 24 = false := by simp [inR]; omega
    have hr : rangesOk xs = false := by simp [rangesOk, inr]
    rw [hr]
    simp only [run0, run1, run2, run3, run4, noSlot, ownS, ownK, memN, RO.dst, lk, drop, forget, number, Nat.reduceBEq, cut?, splice?, builds, List.length_cons, List.length_nil, List.drop_succ_cons, List.drop_zero, List.take_succ_cons, List.take_zero, List.cons_append, List.nil_append, List.append_nil, List.drop_nil, List.take_nil, Nat.reduceAdd, Nat.reduceLeDiff, Nat.zero_add, Nat.add_zero, ↓reduceIte, Bool.not_true, Bool.not_false, decide_true, decide_false, eq_self, bne_self_eq_false, List.getElem?_cons_zero, List.getElem?_cons_succ, decide_eq_true_eq, Bool.false_eq_true, Bool.true_eq_false, reduceCtorEq, Nat.le_refl, w.len, inr]
    (repeat' ((first | (rw [gF_if]; split) | (rw [condC_if]; split) | (rw [pickR_if]; split)) <;> (rename_i hh; (try simp only [Bool.not_eq_true, decide_eq_true_eq] at hh); simp only [hh, run0, run1, run2, run3, run4, noSlot, ownS, ownK, memN, RO.dst, lk, drop, forget, number, Nat.reduceBEq, cut?, splice?, builds, List.length_cons, List.length_nil, List.drop_succ_cons, List.drop_zero, List.take_succ_cons, List.take_zero, List.cons_append, List.nil_append, List.append_nil, List.drop_nil, List.take_nil, Nat.reduceAdd, Nat.reduceLeDiff, Nat.zero_add, Nat.add_zero, ↓reduceIte, Bool.not_true, Bool.not_false, decide_true, decide_false, eq_self, bne_self_eq_false, List.getElem?_cons_zero, List.getElem?_cons_succ, decide_eq_true_eq, Bool.false_eq_true, Bool.true_eq_false, reduceCtorEq, Nat.le_refl, w.len])))
    all_goals first | rfl | (exfalso; apply hn; simp_all <;> omega)
end
end Go.Proofs.Ytlbagejkjkfkjaa.A
/- Where an id lies in ranges. -/
namespace Go.Proofs.Ytlbagejkjkfkjaa.A
open Go
set_option linter.unusedSimpArgs false
set_option linter.unusedVariables false
def findHi (xs : List Range) (id : Int) : Int := findI (fun r => decide (id ≤ r.hi)) xs
def findCov (xs : List Range) (id : Int) : Int := findI (fun r => decide (r.lo ≤ id) && decide (id ≤ r.hi)) xs
section
variable {F : Nat → Option RF} {Z : CallF} {h : Heap} {x : Cell} {xs : List Range} {fp : List Nat}
/-- slices.IndexFunc, of a function that leaves the heap alone. -/
theorem indexRange_run (hL : Has F tLibslicesIndexFuncimplRangeimplRange) (w : SlR 7 (Fl Range.enc) h x xs fp) (f : Nat) (ps : List (Nat × Nat × Nat)) (p : Range → Bool)
    (hc : ∀ r : Range, call F Z f (.agg r.enc :: capV ps) h = some (.c (.bool (p r)), h)) : call F Z 126 [.c x, .c (.fn f ps)] h = some (.c (.int .i64 (findI p xs)), h) := by
  have hle := w.le2
  rw [call_run F Z (hL.lk (g := 126) rfl) _ _ rfl]
  simp only [run0, run1, run2, run3, run4, noSlot, ownS, ownK, memN, RO.dst, lk, drop, forget, number, Nat.reduceBEq, cut?, splice?, builds, List.length_cons, List.length_nil, List.drop_succ_cons, List.drop_zero, List.take_succ_cons, List.take_zero, List.cons_append, List.nil_append, List.append_nil, List.drop_nil, List.take_nil, Nat.reduceAdd, Nat.reduceLeDiff, Nat.zero_add, Nat.add_zero, ↓reduceIte, Bool.not_true, Bool.not_false, decide_true, decide_false, eq_self, bne_self_eq_false, List.getElem?_cons_zero, List.getElem?_cons_succ, decide_eq_true_eq, Bool.false_eq_true, Bool.true_eq_false, reduceCtorEq, Nat.le_refl, w.len]
  have key := loop_find (F := F) (Z := Z) (live := [0, 1, 7, 8]) (b := r126L0) xs p (fun i => ⟨[(0, .c x), (1, .c (.fn f ps)), (7, .c (.int .i64 (xs.length : Nat))), (8, .c (.int .i64 (i : Nat)))], [], [], h⟩) (fun i s => lk s.env 4 = some (.c (.int .i64 (i : Nat))) ∧ s.hp = h) fun i hi => by
    have hlt : (i : Int) < xs.length := by omega
    have hws := wrapS i (by omega)
    have hci := hc xs[i]
    rw [loop_run]
    conv in (codeF _ _ r126L0 _) => unfold r126L0
    simp only [run0, run1, run2, run3, run4, noSlot, ownS, ownK, memN, RO.dst, lk, drop, forget, number, Nat.reduceBEq, cut?, splice?, builds, List.length_cons, List.length_nil, List.drop_succ_cons, List.drop_zero, List.take_succ_cons, List.take_zero, List.cons_append, List.nil_append, List.append_nil, List.drop_nil, List.take_nil, Nat.reduceAdd, Nat.reduceLeDiff, Nat.zero_add, Nat.add_zero, ↓reduceIte, Bool.not_true, Bool.not_false, decide_true, decide_false, eq_self, bne_self_eq_false, List.getElem?_cons_zero, List.getElem?_cons_succ, decide_eq_true_eq, Bool.false_eq_true, Bool.true_eq_false, reduceCtorEq, Nat.le_refl, hlt, w.idx hi, w.load hi, Range.len, Range.tak]
    simp only [hci, run0, run1, run2, run3, run4, noSlot, ownS, ownK, memN, RO.dst, lk, drop, forget, number, Nat.reduceBEq, cut?, splice?, builds, List.length_cons, List.length_nil, List.drop_succ_cons, List.drop_zero, List.take_succ_cons, List.take_zero, List.cons_append, List.nil_append, List.append_nil, List.drop_nil, List.take_nil, Nat.reduceAdd, Nat.reduceLeDiff, Nat.zero_add, Nat.add_zero, ↓reduceIte, Bool.not_true, Bool.not_false, decide_true, decide_false, eq_self, bne_self_eq_false, List.getElem?_cons_zero, List.getElem?_cons_succ, decide_eq_true_eq, Bool.false_eq_true, Bool.true_eq_false, reduceCtorEq, Nat.le_refl]
    (repeat' ((first | (rw [gF_if]; split) | (rw [condC_if]; split) | (rw [pickR_if]; split)) <;> (rename_i hh; (try simp only [Bool.not_eq_true, decide_eq_true_eq] at hh); simp only [hh, run0, run1, run2, run3, run4, noSlot, ownS, ownK, memN, RO.dst, lk, drop, forget, number, Nat.reduceBEq, cut?, splice?, builds, List.length_cons, List.length_nil, List.drop_succ_cons, List.drop_zero, List.take_succ_cons, List.take_zero, List.cons_append, List.nil_append, List.append_nil, List.drop_nil, List.take_nil, Nat.reduceAdd, Nat.reduceLeDiff, Nat.zero_add, Nat.add_zero, ↓reduceIte, Bool.not_true, Bool.not_false, decide_true, decide_false, eq_self, bne_self_eq_false, List.getElem?_cons_zero, List.getElem?_cons_succ, decide_eq_true_eq, Bool.false_eq_true, Bool.true_eq_false, reduceCtorEq, Nat.le_refl, hws]))) <;> first
      | exact .inl ⟨by simp_all, rfl⟩
      | exact .inr ⟨by simp_all, _, rfl, rfl, rfl⟩
  have hlt : ¬ (xs.length : Int) < xs.length := by omega
  simp only [show ((0 : Nat) : Int) = 0 from rfl] at key
  rcases key with ⟨k1, k2⟩ | ⟨i, k1, hi, s, k2, k3, k4⟩
  · rw [k2, loop_run]
    conv in (codeF _ _ r126L0 _) => unfold r126L0
    simp only [run0, run1, run2, run3, run4, noSlot, ownS, ownK, memN, RO.dst, lk, drop, forget, number, Nat.reduceBEq, cut?, splice?, builds, List.length_cons, List.length_nil, List.drop_succ_cons, List.drop_zero, List.take_succ_cons, List.take_zero, List.cons_append, List.nil_append, List.append_nil, List.drop_nil, List.take_nil, Nat.reduceAdd, Nat.reduceLeDiff, Nat.zero_add, Nat.add_zero, ↓reduceIte, Bool.not_true, Bool.not_false, decide_true, decide_false, eq_self, bne_self_eq_false, List.getElem?_cons_zero, List.getElem?_cons_succ, decide_eq_true_eq, Bool.false_eq_true, Bool.true_eq_false, reduceCtorEq, Nat.le_refl, hlt, findI, k1]
  · rw [k2]
    simp only [run0, run1, run2, run3, run4, noSlot, ownS, ownK, memN, RO.dst, lk, drop, forget, number, Nat.reduceBEq, cut?, splice?, builds, List.length_cons, List.length_nil, List.drop_succ_cons, List.drop_zero, List.take_succ_cons, List.take_zero, List.cons_append, List.nil_append, List.append_nil, List.drop_nil, List.take_nil, Nat.reduceAdd, Nat.reduceLeDiff, Nat.zero_add, Nat.add_zero, ↓reduceIte, Bool.not_true, Bool.not_false, decide_true, decide_false, eq_self, bne_self_eq_false, List.getElem?_cons_zero, List.getElem?_cons_succ, decide_eq_true_eq, Bool.false_eq_true, Bool.true_eq_false, reduceCtorEq, Nat.le_refl, k3, k4, findI, k1]
theorem findRange_run (hI11 : Has F tI11) (hL : Has F tLibslicesIndexFuncimplRangeimplRange) (w : SlR 7 (Fl Range.enc) h x xs fp) (id : Int) : call F Z 107 [.c x, .c (.int .u64 id)] h = some (.c (.int .i64 (findHi xs id)), h.push [[.int .u64 id]]) := by
  have w' := w.on (Fl.ok _) (On.push h [[.int .u64 id]])
  have hr := indexRange_run (Z := Z) hL w' 125 [(h.next, 0, 0)] (fun r => decide (id ≤ r.hi)) fun r => by
    obtain ⟨lo, hi, g⟩ := r
    have hl : loadP (h.push [[.int .u64 id]]) h.next 0 0 1 = some [.int .u64 id] := by simp [loadP, rowOf, push_get, cut?]
    simp only [Range.enc, run0, run1, run2, run3, run4, noSlot, ownS, ownK, memN, RO.dst, lk, drop, forget, number, Nat.reduceBEq, cut?, splice?, builds, List.length_cons, List.length_nil, List.drop_succ_cons, List.drop_zero, List.take_succ_cons, List.take_zero, List.cons_append, List.nil_append, List.append_nil, List.drop_nil, List.take_nil, Nat.reduceAdd, Nat.reduceLeDiff, Nat.zero_add, Nat.add_zero, ↓reduceIte, Bool.not_true, Bool.not_false, decide_true, decide_false, eq_self, bne_self_eq_false, List.getElem?_cons_zero, List.getElem?_cons_succ, decide_eq_true_eq, Bool.false_eq_true, Bool.true_eq_false, reduceCtorEq, Nat.le_refl, capV_cons]
    rw [call_run F Z (hI11.lk (g := 125) rfl) _ _ rfl]
    simp only [run0, run1, run2, run3, run4, noSlot, ownS, ownK, memN, RO.dst, lk, drop, forget, number, Nat.reduceBEq, cut?, splice?, builds, List.length_cons, List.length_nil, List.drop_succ_cons, List.drop_zero, List.take_succ_cons, List.take_zero, List.cons_append, List.nil_append, List.append_nil, List.drop_nil, List.take_nil, Nat.reduceAdd, Nat.reduceLeDiff, Nat.zero_add, Nat.add_zero, ↓reduceIte, Bool.not_true, Bool.not_false, decide_true, decide_false, eq_self, bne_self_eq_false, List.getElem?_cons_zero, List.getElem?_cons_succ, decide_eq_true_eq, Bool.false_eq_true, Bool.true_eq_false, reduceCtorEq, Nat.le_refl, hl]
  rw [call_run F Z (hI11.lk (g := 107) rfl) _ _ rfl]
  simp only [run0, run1, run2, run3, run4, noSlot, ownS, ownK, memN, RO.dst, lk, drop, forget, number, Nat.reduceBEq, cut?, splice?, builds, List.length_cons, List.length_nil, List.drop_succ_cons, List.drop_zero, List.take_succ_cons, List.take_zero, List.cons_append, List.nil_append, List.append_nil, List.drop_nil, List.take_nil, Nat.reduceAdd, Nat.reduceLeDiff, Nat.zero_add, Nat.add_zero, ↓reduceIte, Bool.not_true, Bool.not_false, decide_true, decide_false, eq_self, bne_self_eq_false, List.getElem?_cons_zero, List.getElem?_cons_succ, decide_eq_true_eq, Bool.false_eq_true, Bool.true_eq_false, reduceCtorEq, Nat.le_refl, hr, evPtrs]
  rfl
theorem Covers_run (hS11 : Has F tS11) (r : Range) (id : Int) (h : Heap) : call F Z 122 [.agg r.enc, .c (.int .u64 id)] h = some (.c (.bool (decide (r.lo ≤ id) && decide (id ≤ r.hi))), h) := by
  obtain ⟨lo, hi, g⟩ := r
  rw [call_run F Z (hS11.lk (g := 122) rfl) _ _ rfl]
  simp only [Range.enc, run0, run1, run2, run3, run4, noSlot, ownS, ownK, memN, RO.dst, lk, drop, forget, number, Nat.reduceBEq, cut?, splice?, builds, List.length_cons, List.length_nil, List.drop_succ_cons, List.drop_zero, List.take_succ_cons, List.take_zero, List.cons_append, List.nil_append, List.append_nil, List.drop_nil, List.take_nil, Nat.reduceAdd, Nat.reduceLeDiff, Nat.zero_add, Nat.add_zero, ↓reduceIte, Bool.not_true, Bool.not_false, decide_true, decide_false, eq_self, bne_self_eq_false, List.getElem?_cons_zero, List.getElem?_cons_succ, decide_eq_true_eq, Bool.false_eq_true, Bool.true_eq_false, reduceCtorEq, Nat.le_refl]
  (repeat' ((first | (rw [gF_if]; split) | (rw [condC_if]; split) | (rw [pickR_if]; split)) <;> (rename_i hh; (try simp only [Bool.not_eq_true, decide_eq_true_eq] at hh); simp only [hh, run0, run1, run2, run3, run4, noSlot, ownS, ownK, memN, RO.dst, lk, drop, forget, number, Nat.reduceBEq, cut?, splice?, builds, List.length_cons, List.length_nil, List.drop_succ_cons, List.drop_zero, List.take_succ_cons, List.take_zero, List.cons_append, List.nil_append, List.append_nil, List.drop_nil, List.take_nil, Nat.reduceAdd, Nat.reduceLeDiff, Nat.zero_add, Nat.add_zero, ↓reduceIte, Bool.not_true, Bool.not_false, decide_true, decide_false, eq_self, bne_self_eq_false, List.getElem?_cons_zero, List.getElem?_cons_succ, decide_eq_true_eq, Bool.false_eq_true, Bool.true_eq_false, reduceCtorEq, Nat.le_refl]))) <;> simp_all
theorem sFindRange_run (hS : Has F tS01d) (hS11 : Has F tS11) (w : SlR 7 (Fl Range.enc) h x xs fp) (hok : ∀ t, t ∈ xs → t.Ok) (id : Int) : call F Z 104 [.c x, .c (.int .u64 id)] h = some (.c (.int .i64 (bif rangesOk xs then findCov xs id else -1)), h) := by
  have hle := w.le2
  have hwl := w.len
  rw [call_run F Z (hS11.lk (g := 104) rfl) _ _ rfl]
  simp only [run0, run1, run2, run3, run4, noSlot, ownS, ownK, memN, RO.dst, lk, drop, forget, number, Nat.reduceBEq, cut?, splice?, builds, List.length_cons, List.length_nil, List.drop_succ_cons, List.drop_zero, List.take_succ_cons, List.take_zero, List.cons_append, List.nil_append, List.append_nil, List.drop_nil, List.take_nil, Nat.reduceAdd, Nat.reduceLeDiff, Nat.zero_add, Nat.add_zero, ↓reduceIte, Bool.not_true, Bool.not_false, decide_true, decide_false, eq_self, bne_self_eq_false, List.getElem?_cons_zero, List.getElem?_cons_succ, decide_eq_true_eq, Bool.false_eq_true, Bool.true_eq_false, reduceCtorEq, Nat.le_refl]
  cases hr : rangesOk xs with
  | false =>
    rw [loop_run]
    conv in (codeF _ _ r104L0 _) => unfold r104L0
    simp only [run0, run1, run2, run3, run4, noSlot, ownS, ownK, memN, RO.dst, lk, drop, forget, number, Nat.reduceBEq, cut?, splice?, builds, List.length_cons, List.length_nil, List.drop_succ_cons, List.drop_zero, List.take_succ_cons, List.take_zero, List.cons_append, List.nil_append, List.append_nil, List.drop_nil, List.take_nil, Nat.reduceAdd, Nat.reduceLeDiff, Nat.zero_add, Nat.add_zero, ↓reduceIte, Bool.not_true, Bool.not_false, decide_true, decide_false, eq_self, bne_self_eq_false, List.getElem?_cons_zero, List.getElem?_cons_succ, decide_eq_true_eq, Bool.false_eq_true, Bool.true_eq_false, reduceCtorEq, Nat.le_refl, hwl, sRangesOk_run hS hS11 w hok, hr]
    (repeat' ((first | (rw [gF_if]; split) | (rw [condC_if]; split) | (rw [pickR_if]; split)) <;> (rename_i hh; (try simp only [Bool.not_eq_true, decide_eq_true_eq] at hh); simp only [hh, run0, run1, run2, run3, run4, noSlot, ownS, ownK, memN, RO.dst, lk, drop, forget, number, Nat.reduceBEq, cut?, splice?, builds, List.length_cons, List.length_nil, List.drop_succ_cons, List.drop_zero, List.take_succ_cons, List.take_zero, List.cons_append, List.nil_append, List.append_nil, List.drop_nil, List.take_nil, Nat.reduceAdd, Nat.reduceLeDiff, Nat.zero_add, Nat.add_zero, ↓reduceIte, Bool.not_true, Bool.not_false, decide_true, decide_false, eq_self, bne_self_eq_false, List.getElem?_cons_zero, List.getElem?_cons_succ, decide_eq_true_eq, Bool.false_eq_true, Bool.true_eq_false, reduceCtorEq, Nat.le_refl, hwl, sRangesOk_run hS hS11 w hok, hr])))
  | true =>
    have key := loop_find (F := F) (Z := Z) (live := [0, 1, 5]) (b := r104L0) xs (fun r => decide (r.lo ≤ id) && decide (id ≤ r.hi)) (fun i => ⟨[(0, .c x), (1, .c (.int .u64 id)), (5, .c (.int .i64 (i : Nat)))], [], [], h⟩) (fun i s => lk s.env 4 = some (.c (.int .i64 (i : Nat))) ∧ s.hp = h) fun i hi => by
      have hlt : (i : Int) < xs.length := by omega
      have hws := wrapS i (by omega)
      rw [loop_run]
      conv in (codeF _ _ r104L0 _) => unfold r104L0
      simp only [run0, run1, run2, run3, run4, noSlot, ownS, ownK, memN, RO.dst, lk, drop, forget, number, Nat.reduceBEq, cut?, splice?, builds, List.length_cons, List.length_nil, List.drop_succ_cons, List.drop_zero, List.take_succ_cons, List.take_zero, List.cons_append, List.nil_append, List.append_nil, List.drop_nil, List.take_nil, Nat.reduceAdd, Nat.reduceLeDiff, Nat.zero_add, Nat.add_zero, ↓reduceIte, Bool.not_true, Bool.not_false, decide_true, decide_false, eq_self, bne_self_eq_false, List.getElem?_cons_zero, List.getElem?_cons_succ, decide_eq_true_eq, Bool.false_eq_true, Bool.true_eq_false, reduceCtorEq, Nat.le_refl, hwl, hlt, sRangesOk_run hS hS11 w hok, hr, w.idx hi, w.load hi, Range.len, Range.tak, Covers_run hS11]
      (repeat' ((first | (rw [gF_if]; split) | (rw [condC_if]; split) | (rw [pickR_if]; split)) <;> (rename_i hh; (try simp only [Bool.not_eq_true, decide_eq_true_eq] at hh); simp only [hh, run0, run1, run2, run3, run4, noSlot, ownS, ownK, memN, RO.dst, lk, drop, forget, number, Nat.reduceBEq, cut?, splice?, builds, List.length_cons, List.length_nil, List.drop_succ_cons, List.drop_zero, List.take_succ_cons, List.take_zero, List.cons_append, List.nil_append, List.append_nil, List.drop_nil, List.take_nil, Nat.reduceAdd, Nat.reduceLeDiff, Nat.zero_add, Nat.add_zero, ↓reduceIte, Bool.not_true, Bool.not_false, decide_true, decide_false, eq_self, bne_self_eq_false, List.getElem?_cons_zero, List.getElem?_cons_succ, decide_eq_true_eq, Bool.false_eq_true, Bool.true_eq_false, reduceCtorEq, Nat.le_refl, hws]))) <;> first
        | exact .inl ⟨by simp_all, rfl⟩
        | exact .inr ⟨by simp_all, _, rfl, rfl, rfl⟩
    have hlt : ¬ (xs.length : Int) < xs.length := by omega
    simp only [show ((0 : Nat) : Int) = 0 from rfl] at key
    rcases key with ⟨k1, k2⟩ | ⟨i, k1, hi, s, k2, k3, k4⟩
    · rw [k2, loop_run]
      conv in (codeF _ _ r104L0 _) => unfold r104L0
      simp only [run0, run1, run2, run3, run4, noSlot, ownS, ownK, memN, RO.dst, lk, drop, forget, number, Nat.reduceBEq, cut?, splice?, builds, List.length_cons, List.length_nil, List.drop_succ_cons, List.drop_zero, List.take_succ_cons, List.take_zero, List.cons_append, List.nil_append, List.append_nil, List.drop_nil, List.take_nil, Nat.reduceAdd, Nat.reduceLeDiff, Nat.zero_add, Nat.add_zero, ↓reduceIte, Bool.not_true, Bool.not_false, decide_true, decide_false, eq_self, bne_self_eq_false, List.getElem?_cons_zero, List.getElem?_cons_succ, decide_eq_true_eq, Bool.false_eq_true, Bool.true_eq_false, reduceCtorEq, Nat.le_refl, hwl, hlt, findCov, findI, k1]
    · rw [k2]
      simp only [run0, run1, run2, run3, run4, noSlot, ownS, ownK, memN, RO.dst, lk, drop, forget, number, Nat.reduceBEq, cut?, splice?, builds, List.length_cons, List.length_nil, List.drop_succ_cons, List.drop_zero, List.take_succ_cons, List.take_zero, List.cons_append, List.nil_append, List.append_nil, List.drop_nil, List.take_nil, Nat.reduceAdd, Nat.reduceLeDiff, Nat.zero_add, Nat.add_zero, ↓reduceIte, Bool.not_true, Bool.not_false, decide_true, decide_false, eq_self, bne_self_eq_false, List.getElem?_cons_zero, List.getElem?_cons_succ, decide_eq_true_eq, Bool.false_eq_true, Bool.true_eq_false, reduceCtorEq, Nat.le_refl, k3, k4, findCov, findI, k1]
end
end Go.Proofs.Ytlbagejkjkfkjaa.A
/- Plain laws of ranges: an id lies in one of them alone. No program here. -/
namespace Go.Proofs.Ytlbagejkjkfkjaa.A
open Go
set_option linter.unusedSimpArgs false
set_option linter.unusedVariables false
structure RangesFit (xs : List Range) : Prop where
  pos : 1 ≤ xs.length
  few : xs.length ≤ 24
  lo0 : (Range.at_ xs 0).lo = 0
  hiN : (Range.at_ xs (xs.length - 1)).hi = 18446744073709551615
  le : ∀ i, i < xs.length → (Range.at_ xs i).lo ≤ (Range.at_ xs i).hi
  grp : ∀ i, i < xs.length → 0 ≤ (Range.at_ xs i).group ∧ (Range.at_ xs i).group ≤ 99
  next : ∀ i, i + 1 < xs.length → (Range.at_ xs (i + 1)).lo = (Range.at_ xs i).hi + 1
theorem rangesOk_fit {xs : List Range} (h : rangesOk xs = true) : RangesFit xs := by
  simp only [rangesOk, Bool.and_eq_true, inR, decide_eq_true_eq, beq_iff_eq, List.all_eq_true, List.mem_range, Range.fits, Bool.or_eq_true] at h
  obtain ⟨⟨h1, h2⟩, h3, h4, h5⟩ := h
  exact ⟨by omega, by omega, h3, h4, fun i hi => (h5 i hi).1, fun i hi => (h5 i hi).2.1, fun i hi => by
    rcases (h5 (i + 1) hi).2.2 with h | h
    · omega
    · simpa using h⟩
theorem at_get {xs : List Range} {i : Nat} (hi : i < xs.length) : Range.at_ xs i = xs[i] := by simp [Range.at_, List.getElem?_eq_getElem hi]
theorem RangesFit.apart {xs : List Range} (w : RangesFit xs) {i : Nat} : ∀ {j : Nat}, i < j → j < xs.length → (Range.at_ xs i).hi < (Range.at_ xs j).lo
  | 0, h, _ => absurd h (Nat.not_lt_zero _)
  | j + 1, h, hj => by
    have hn := w.next j hj
    by_cases he : i = j
    · subst he; omega
    · have := w.apart (i := i) (j := j) (by omega) (by omega)
      have := w.le j (by omega)
      omega
/-- The range of an id. -/
theorem RangesFit.has {xs : List Range} (w : RangesFit xs) {id : Int} (h0 : 0 ≤ id) (h1 : id ≤ 18446744073709551615) :
    ∃ i, i < xs.length ∧ findHi xs id = (i : Int) ∧ findCov xs id = (i : Int) ∧ (Range.at_ xs i).lo ≤ id ∧ id ≤ (Range.at_ xs i).hi := by
  have hp := w.pos
  cases hf : xs.findIdx? (fun r => decide (id ≤ r.hi)) with
  | none =>
    rw [List.findIdx?_eq_none_iff] at hf
    have := hf xs[xs.length - 1] (List.getElem_mem (by omega))
    have hN := w.hiN
    rw [at_get (by omega)] at hN
    simp at this
    omega
  | some i =>
    rw [List.findIdx?_eq_some_iff_getElem] at hf
    obtain ⟨hi, h2, h3⟩ := hf
    have h2' : id ≤ (Range.at_ xs i).hi := by rw [at_get hi]; simpa using h2
    have hlo : (Range.at_ xs i).lo ≤ id := by
      cases i with
      | zero => rw [w.lo0]; exact h0
      | succ i =>
        rw [w.next i hi]
        have := h3 i (by omega)
        rw [at_get (by omega)]
        simp at this
        omega
    refine ⟨i, hi, ?_, ?_, hlo, h2'⟩
    · have : xs.findIdx? (fun r => decide (id ≤ r.hi)) = some i := List.findIdx?_eq_some_iff_getElem.2 ⟨hi, h2, h3⟩
      simp only [findHi, findI, this]
    · have : xs.findIdx? (fun r => decide (r.lo ≤ id) && decide (id ≤ r.hi)) = some i := by
        rw [List.findIdx?_eq_some_iff_getElem]
        rw [at_get hi] at hlo h2'
        refine ⟨hi, by simp [hlo, h2'], fun j hj => ?_⟩
        have := h3 j hj
        simp at this ⊢
        intro _
        exact this
      simp only [findCov, findI, this]
/-- The place of the range that begins with an id. -/
def findLo (xs : List Range) (lo : Int) : Int := findI (fun r => r.lo == lo) xs
theorem RangesFit.begins {xs : List Range} (w : RangesFit xs) {id : Int} {i : Nat} (hi : i < xs.length) (h1 : (Range.at_ xs i).lo ≤ id) (h2 : id ≤ (Range.at_ xs i).hi) :
    findLo xs id = if (Range.at_ xs i).lo = id then (i : Int) else -1 := by
  have huniq : ∀ j, j < xs.length → (Range.at_ xs j).lo = id → j = i := by
    intro j hj he
    have hj2 := w.le j hj
    rcases Nat.lt_trichotomy i j with h | h | h
    · have := w.apart h hj; omega
    · exact h.symm
    · have := w.apart h hi; omega
  split
  · rename_i he
    have : xs.findIdx? (fun r => r.lo == id) = some i := by
      rw [List.findIdx?_eq_some_iff_getElem]
      rw [at_get hi] at he
      refine ⟨hi, by simpa using he, fun j hj hc => ?_⟩
      have := huniq j (by omega) (by rw [at_get (by omega)]; simpa using hc)
      omega
    simp only [findLo, findI, this]
  · rename_i he
    have : xs.findIdx? (fun r => r.lo == id) = none := by
      rw [List.findIdx?_eq_none_iff]
      intro a ha
      obtain ⟨j, hj, rfl⟩ := List.mem_iff_getElem.1 ha
      cases hb : (xs[j].lo == id) with
      | false => rfl
      | true =>
        have hje : (Range.at_ xs j).lo = id := by rw [at_get hj]; simpa using hb
        have := huniq j hj hje
        subst this
        exact absurd hje he
    simp only [findLo, findI, this]
end Go.Proofs.Ytlbagejkjkfkjaa.A
/- What the functions of a chart compute: is it right, and routes. -/
namespace Go.Proofs.Ytlbagejkjkfkjaa.A
open Go
set_option linter.unusedSimpArgs false
set_option linter.unusedVariables false
/-- The range of an id. -/
def Chart.of_ (c : Chart) (id : Int) : Range := Range.at_ c.ranges (findHi c.ranges id).toNat
def Chart.good (c : Chart) : Bool := inR c.epoch 1 1000000 && (rangesOk c.ranges && (bif c.moving then (c.of_ c.lo).lo == c.lo && (inR c.to 0 99 && c.to != (c.of_ c.lo).group) else c.lo == 0 && c.to == 0))
def Chart.route (c : Chart) (id : Int) : Int × Int := bif c.good then ((c.of_ id).group, c.epoch) else (-1, -1)
theorem Chart.good_ranges {c : Chart} (h : c.good = true) : rangesOk c.ranges = true := by
  simp only [Chart.good, Bool.and_eq_true] at h; exact h.2.1
/-- Where an id lies. -/
theorem Chart.has {c : Chart} (hr : rangesOk c.ranges = true) {id : Int} (h0 : 0 ≤ id) (h1 : id ≤ 18446744073709551615) :
    ∃ i, i < c.ranges.length ∧ findHi c.ranges id = (i : Int) ∧ findCov c.ranges id = (i : Int) ∧ c.of_ id = Range.at_ c.ranges i ∧ (Range.at_ c.ranges i).lo ≤ id ∧ id ≤ (Range.at_ c.ranges i).hi := by
  obtain ⟨i, h1, h2, h3, h4, h5⟩ := (rangesOk_fit hr).has h0 h1
  exact ⟨i, h1, h2, h3, by simp [Chart.of_, h2], h4, h5⟩
section
variable {F : Nat → Option RF} {Z : CallF} {h : Heap} {cs cs' : List Cell} {c d : Chart} {fp fq : List Nat}
theorem findRange_q (hI11 : Has F tI11) (hL : Has F tLibslicesIndexFuncimplRangeimplRange) {x : Cell} {xs : List Range} {fp : List Nat} (w : SlR 7 (Fl Range.enc) h x xs fp) (id : Int) :
    ∃ h' g, call F Z 107 [.c x, .c (.int .u64 id)] ⟨h.next, h.next, h.get⟩ = some (.c (.int .i64 (findHi xs id)), h') ∧ Heap.mk h'.next h.floor h'.get = g ∧ On h g :=
  quietly (findRange_run hI11 hL (w.up (Fl.ok _) h.next) id) (On.push _ _)
theorem place_run (hS12 : Has F tS12) {x : Cell} {xs : List Range} {fp : List Nat} (w : SlR 7 (Fl Range.enc) h x xs fp) (lo : Int) : call F Z 121 [.c x, .c (.int .u64 lo)] h = some (.c (.int .i64 (findLo xs lo)), h) := by
  have hle := w.le2
  have hwl := w.len
  rw [call_run F Z (hS12.lk (g := 121) rfl) _ _ rfl]
  simp only [run0, run1, run2, run3, run4, noSlot, ownS, ownK, memN, RO.dst, lk, drop, forget, number, Nat.reduceBEq, cut?, splice?, builds, List.length_cons, List.length_nil, List.drop_succ_cons, List.drop_zero, List.take_succ_cons, List.take_zero, List.cons_append, List.nil_append, List.append_nil, List.drop_nil, List.take_nil, Nat.reduceAdd, Nat.reduceLeDiff, Nat.zero_add, Nat.add_zero, ↓reduceIte, Bool.not_true, Bool.not_false, decide_true, decide_false, eq_self, bne_self_eq_false, List.getElem?_cons_zero, List.getElem?_cons_succ, decide_eq_true_eq, Bool.false_eq_true, Bool.true_eq_false, reduceCtorEq, Nat.le_refl]
  have key := loop_find (F := F) (Z := Z) (live := [0, 1, 5]) (b := r121L0) xs (fun r => r.lo == lo) (fun i => ⟨[(0, .c x), (1, .c (.int .u64 lo)), (5, .c (.int .i64 (i : Nat)))], [], [], h⟩) (fun i s => lk s.env 4 = some (.c (.int .i64 (i : Nat))) ∧ s.hp = h) fun i hi => by
    have hlt : (i : Int) < xs.length := by omega
    have hws := wrapS i (by omega)
    rw [loop_run]
    conv in (codeF _ _ r121L0 _) => unfold r121L0
    simp only [run0, run1, run2, run3, run4, noSlot, ownS, ownK, memN, RO.dst, lk, drop, forget, number, Nat.reduceBEq, cut?, splice?, builds, List.length_cons, List.length_nil, List.drop_succ_cons, List.drop_zero, List.take_succ_cons, List.take_zero, List.cons_append, List.nil_append, List.append_nil, List.drop_nil, List.take_nil, Nat.reduceAdd, Nat.reduceLeDiff, Nat.zero_add, Nat.add_zero, ↓reduceIte, Bool.not_true, Bool.not_false, decide_true, decide_false, eq_self, bne_self_eq_false, List.getElem?_cons_zero, List.getElem?_cons_succ, decide_eq_true_eq, Bool.false_eq_true, Bool.true_eq_false, reduceCtorEq, Nat.le_refl, hwl, hlt, w.idx hi, w.load hi, Range.enc]
    (repeat' ((first | (rw [gF_if]; split) | (rw [condC_if]; split) | (rw [pickR_if]; split)) <;> (rename_i hh; (try simp only [Bool.not_eq_true, decide_eq_true_eq] at hh); simp only [hh, run0, run1, run2, run3, run4, noSlot, ownS, ownK, memN, RO.dst, lk, drop, forget, number, Nat.reduceBEq, cut?, splice?, builds, List.length_cons, List.length_nil, List.drop_succ_cons, List.drop_zero, List.take_succ_cons, List.take_zero, List.cons_append, List.nil_append, List.append_nil, List.drop_nil, List.take_nil, Nat.reduceAdd, Nat.reduceLeDiff, Nat.zero_add, Nat.add_zero, ↓reduceIte, Bool.not_true, Bool.not_false, decide_true, decide_false, eq_self, bne_self_eq_false, List.getElem?_cons_zero, List.getElem?_cons_succ, decide_eq_true_eq, Bool.false_eq_true, Bool.true_eq_false, reduceCtorEq, Nat.le_refl, hws]))) <;> first
      | exact .inl ⟨by simp_all, rfl⟩
      | exact .inr ⟨by simp_all, _, rfl, rfl, rfl⟩
  have hlt : ¬ (xs.length : Int) < xs.length := by omega
  simp only [show ((0 : Nat) : Int) = 0 from rfl] at key
  rcases key with ⟨k1, k2⟩ | ⟨i, k1, hi, s, k2, k3, k4⟩
  · rw [k2, loop_run]
    conv in (codeF _ _ r121L0 _) => unfold r121L0
    simp only [run0, run1, run2, run3, run4, noSlot, ownS, ownK, memN, RO.dst, lk, drop, forget, number, Nat.reduceBEq, cut?, splice?, builds, List.length_cons, List.length_nil, List.drop_succ_cons, List.drop_zero, List.take_succ_cons, List.take_zero, List.cons_append, List.nil_append, List.append_nil, List.drop_nil, List.take_nil, Nat.reduceAdd, Nat.reduceLeDiff, Nat.zero_add, Nat.add_zero, ↓reduceIte, Bool.not_true, Bool.not_false, decide_true, decide_false, eq_self, bne_self_eq_false, List.getElem?_cons_zero, List.getElem?_cons_succ, decide_eq_true_eq, Bool.false_eq_true, Bool.true_eq_false, reduceCtorEq, Nat.le_refl, hwl, hlt, findLo, findI, k1]
  · rw [k2]
    simp only [run0, run1, run2, run3, run4, noSlot, ownS, ownK, memN, RO.dst, lk, drop, forget, number, Nat.reduceBEq, cut?, splice?, builds, List.length_cons, List.length_nil, List.drop_succ_cons, List.drop_zero, List.take_succ_cons, List.take_zero, List.cons_append, List.nil_append, List.append_nil, List.drop_nil, List.take_nil, Nat.reduceAdd, Nat.reduceLeDiff, Nat.zero_add, Nat.add_zero, ↓reduceIte, Bool.not_true, Bool.not_false, decide_true, decide_false, eq_self, bne_self_eq_false, List.getElem?_cons_zero, List.getElem?_cons_succ, decide_eq_true_eq, Bool.false_eq_true, Bool.true_eq_false, reduceCtorEq, Nat.le_refl, k3, k4, findLo, findI, k1]
set_option maxHeartbeats 2000000 in
theorem isChart_run (hI11 : Has F tI11) (hI12 : Has F tI12) (hLi : Has F tLibslicesIndexFuncimplRangeimplRange) (v : Chart.RI h cs c fp) (ok : c.Ok) : ∃ h', call F Z 106 [.agg cs] h = some (.c (.bool c.good), h') ∧ On h h' := by
  obtain ⟨x, p, rfl, rfl, w⟩ := v
  rw [call_run F Z (hI12.lk (g := 106) rfl) _ _ rfl]
  simp only [run0, run1, run2, run3, run4, noSlot, ownS, ownK, memN, RO.dst, lk, drop, forget, number, Nat.reduceBEq, cut?, splice?, builds, List.length_cons, List.length_nil, List.drop_succ_cons, List.drop_zero, List.take_succ_cons, List.take_zero, List.cons_append, List.nil_append, List.append_nil, List.drop_nil, List.take_nil, Nat.reduceAdd, Nat.reduceLeDiff, Nat.zero_add, Nat.add_zero, ↓reduceIte, Bool.not_true, Bool.not_false, decide_true, decide_false, eq_self, bne_self_eq_false, List.getElem?_cons_zero, List.getElem?_cons_succ, decide_eq_true_eq, Bool.false_eq_true, Bool.true_eq_false, reduceCtorEq, Nat.le_refl, areRanges_run hI11 w ok.ranges]
  cases hr : rangesOk c.ranges with
  | false =>
    (repeat' ((first | (rw [gF_if]; split) | (rw [condC_if]; split) | (rw [pickR_if]; split)) <;> (rename_i hh; (try simp only [Bool.not_eq_true, decide_eq_true_eq] at hh); simp only [hh, run0, run1, run2, run3, run4, noSlot, ownS, ownK, memN, RO.dst, lk, drop, forget, number, Nat.reduceBEq, cut?, splice?, builds, List.length_cons, List.length_nil, List.drop_succ_cons, List.drop_zero, List.take_succ_cons, List.take_zero, List.cons_append, List.nil_append, List.append_nil, List.drop_nil, List.take_nil, Nat.reduceAdd, Nat.reduceLeDiff, Nat.zero_add, Nat.add_zero, ↓reduceIte, Bool.not_true, Bool.not_false, decide_true, decide_false, eq_self, bne_self_eq_false, List.getElem?_cons_zero, List.getElem?_cons_succ, decide_eq_true_eq, Bool.false_eq_true, Bool.true_eq_false, reduceCtorEq, Nat.le_refl, areRanges_run hI11 w ok.ranges, hr])))
    all_goals exact ⟨_, by simp_all [Chart.good, inR] <;> (intros; omega), On.refl h⟩
  | true =>
    obtain ⟨i, hi, q1, _, q2, _, _⟩ := Chart.has (c := c) hr ok.lo.1 ok.lo.2
    obtain ⟨hq, g, fr, hgq, on2⟩ := findRange_q (Z := Z) hI11 hLi w c.lo
    rw [q1] at fr
    have hld : ∀ j n, loadP g x.sid i j n = cut? (Range.at_ c.ranges i).enc j n := (w.on (Fl.ok _) on2).loadD Range.none_ hi
    have hix := w.idx hi
    have hA := areRanges_run (Z := Z) hI11 w ok.ranges
    have o0 := On.refl h
    clear w
    (repeat' ((first | (rw [gF_if]; split) | (rw [condC_if]; split) | (rw [pickR_if]; split)) <;> (rename_i hh; (try simp only [Bool.not_eq_true, decide_eq_true_eq] at hh); simp only [hh, run0, run1, run2, run3, run4, noSlot, ownS, ownK, memN, RO.dst, lk, drop, forget, number, Nat.reduceBEq, cut?, splice?, builds, List.length_cons, List.length_nil, List.drop_succ_cons, List.drop_zero, List.take_succ_cons, List.take_zero, List.cons_append, List.nil_append, List.append_nil, List.drop_nil, List.take_nil, Nat.reduceAdd, Nat.reduceLeDiff, Nat.zero_add, Nat.add_zero, ↓reduceIte, Bool.not_true, Bool.not_false, decide_true, decide_false, eq_self, bne_self_eq_false, List.getElem?_cons_zero, List.getElem?_cons_succ, decide_eq_true_eq, Bool.false_eq_true, Bool.true_eq_false, reduceCtorEq, Nat.le_refl, hA, hr, fr, hgq, hld, hix, Range.enc, isGroupId_run hI11])))
    all_goals clear hA fr hld hix hgq
    all_goals first
      | (refine ⟨_, ?_, o0⟩; clear o0 on2; simp_all [Chart.good, inR]; done)
      | (refine ⟨_, ?_, o0⟩; clear o0 on2; simp_all [Chart.good, inR]; intros; omega)
      | (refine ⟨_, ?_, on2⟩; clear o0 on2; simp_all [Chart.good, inR]; done)
      | (refine ⟨_, ?_, on2⟩; clear o0 on2; simp_all [Chart.good, inR]; intros; omega)
set_option maxHeartbeats 2000000 in
theorem sChartOk_run (hS : Has F tS01d) (hS11 : Has F tS11) (hS12 : Has F tS12) (v : Chart.RI h cs c fp) (ok : c.Ok) : call F Z 103 [.agg cs] h = some (.c (.bool c.good), h) := by
  obtain ⟨x, p, rfl, rfl, w⟩ := v
  rw [call_run F Z (hS12.lk (g := 103) rfl) _ _ rfl]
  have hA := sRangesOk_run (Z := Z) hS hS11 w ok.ranges
  simp only [run0, run1, run2, run3, run4, noSlot, ownS, ownK, memN, RO.dst, lk, drop, forget, number, Nat.reduceBEq, cut?, splice?, builds, List.length_cons, List.length_nil, List.drop_succ_cons, List.drop_zero, List.take_succ_cons, List.take_zero, List.cons_append, List.nil_append, List.append_nil, List.drop_nil, List.take_nil, Nat.reduceAdd, Nat.reduceLeDiff, Nat.zero_add, Nat.add_zero, ↓reduceIte, Bool.not_true, Bool.not_false, decide_true, decide_false, eq_self, bne_self_eq_false, List.getElem?_cons_zero, List.getElem?_cons_succ, decide_eq_true_eq, Bool.false_eq_true, Bool.true_eq_false, reduceCtorEq, Nat.le_refl, hA, l01In_run hS]
  cases hr : rangesOk c.ranges with
  | false =>
    (repeat' ((first | (rw [gF_if]; split) | (rw [condC_if]; split) | (rw [pickR_if]; split)) <;> (rename_i hh; (try simp only [Bool.not_eq_true, decide_eq_true_eq] at hh); simp only [hh, run0, run1, run2, run3, run4, noSlot, ownS, ownK, memN, RO.dst, lk, drop, forget, number, Nat.reduceBEq, cut?, splice?, builds, List.length_cons, List.length_nil, List.drop_succ_cons, List.drop_zero, List.take_succ_cons, List.take_zero, List.cons_append, List.nil_append, List.append_nil, List.drop_nil, List.take_nil, Nat.reduceAdd, Nat.reduceLeDiff, Nat.zero_add, Nat.add_zero, ↓reduceIte, Bool.not_true, Bool.not_false, decide_true, decide_false, eq_self, bne_self_eq_false, List.getElem?_cons_zero, List.getElem?_cons_succ, decide_eq_true_eq, Bool.false_eq_true, Bool.true_eq_false, reduceCtorEq, Nat.le_refl, hA, hr, l01In_run hS])))
    all_goals simp_all [Chart.good, inR] <;> (intros; omega)
  | true =>
    obtain ⟨i, hi, q1, _, q2, q3, q4⟩ := Chart.has (c := c) hr ok.lo.1 ok.lo.2
    have hb := (rangesOk_fit hr).begins hi q3 q4
    have pl := place_run (Z := Z) hS12 w c.lo
    have hld : ∀ j n, loadP h x.sid i j n = cut? (Range.at_ c.ranges i).enc j n := w.loadD Range.none_ hi
    have hix := w.idx hi
    rw [hb] at pl
    clear w
    by_cases he : (Range.at_ c.ranges i).lo = c.lo
    · rw [if_pos he] at pl
      have hge : (i : Int) ≥ 0 := by omega
      (repeat' ((first | (rw [gF_if]; split) | (rw [condC_if]; split) | (rw [pickR_if]; split)) <;> (rename_i hh; (try simp only [Bool.not_eq_true, decide_eq_true_eq] at hh); simp only [hh, run0, run1, run2, run3, run4, noSlot, ownS, ownK, memN, RO.dst, lk, drop, forget, number, Nat.reduceBEq, cut?, splice?, builds, List.length_cons, List.length_nil, List.drop_succ_cons, List.drop_zero, List.take_succ_cons, List.take_zero, List.cons_append, List.nil_append, List.append_nil, List.drop_nil, List.take_nil, Nat.reduceAdd, Nat.reduceLeDiff, Nat.zero_add, Nat.add_zero, ↓reduceIte, Bool.not_true, Bool.not_false, decide_true, decide_false, eq_self, bne_self_eq_false, List.getElem?_cons_zero, List.getElem?_cons_succ, decide_eq_true_eq, Bool.false_eq_true, Bool.true_eq_false, reduceCtorEq, Nat.le_refl, hA, hr, pl, hge, hld, hix, Range.enc, l01In_run hS])))
      all_goals first | (simp_all [Chart.good, inR]; done) | (simp_all [Chart.good, inR]; intros; omega) | (simp_all [Chart.good, inR]; exact bne_comm)
    · rw [if_neg he] at pl
      have hge : ¬ (-1 : Int) ≥ 0 := by omega
      (repeat' ((first | (rw [gF_if]; split) | (rw [condC_if]; split) | (rw [pickR_if]; split)) <;> (rename_i hh; (try simp only [Bool.not_eq_true, decide_eq_true_eq] at hh); simp only [hh, run0, run1, run2, run3, run4, noSlot, ownS, ownK, memN, RO.dst, lk, drop, forget, number, Nat.reduceBEq, cut?, splice?, builds, List.length_cons, List.length_nil, List.drop_succ_cons, List.drop_zero, List.take_succ_cons, List.take_zero, List.cons_append, List.nil_append, List.append_nil, List.drop_nil, List.take_nil, Nat.reduceAdd, Nat.reduceLeDiff, Nat.zero_add, Nat.add_zero, ↓reduceIte, Bool.not_true, Bool.not_false, decide_true, decide_false, eq_self, bne_self_eq_false, List.getElem?_cons_zero, List.getElem?_cons_succ, decide_eq_true_eq, Bool.false_eq_true, Bool.true_eq_false, reduceCtorEq, Nat.le_refl, hA, hr, pl, hge, Range.enc, l01In_run hS])))
      all_goals first | (simp_all [Chart.good, inR]; done) | (simp_all [Chart.good, inR]; intros; omega)
end
end Go.Proofs.Ytlbagejkjkfkjaa.A
/- Routes by a chart, and whether an id has moved. -/
namespace Go.Proofs.Ytlbagejkjkfkjaa.A
open Go
set_option linter.unusedSimpArgs false
set_option linter.unusedVariables false
def Chart.moved (c d : Chart) (id : Int) : Bool := c.good && (d.good && (c.of_ id).group != (d.of_ id).group)
section
variable {F : Nat → Option RF} {Z : CallF} {h : Heap} {cs cs' : List Cell} {c d : Chart} {fp fq : List Nat}
theorem isChart_q (hI11 : Has F tI11) (hI12 : Has F tI12) (hLi : Has F tLibslicesIndexFuncimplRangeimplRange) (v : Chart.RI h cs c fp) (ok : c.Ok) :
    ∃ h' g, call F Z 106 [.agg cs] ⟨h.next, h.next, h.get⟩ = some (.c (.bool c.good), h') ∧ Heap.mk h'.next h.floor h'.get = g ∧ On h g := by
  obtain ⟨h1, e1, o1⟩ := isChart_run (Z := Z) hI11 hI12 hLi (Chart.okI.up v h.next) ok
  exact quietly e1 o1
theorem RouteOf_run (hI11 : Has F tI11) (hI12 : Has F tI12) (hLi : Has F tLibslicesIndexFuncimplRangeimplRange) (v : Chart.RI h cs c fp) (ok : c.Ok) {id : Int} (g0 : 0 ≤ id) (g1 : id ≤ 18446744073709551615) :
    ∃ h', call F Z 70 [.agg cs, .c (.int .u64 id)] h = some (.tup [.c (.int .i64 (c.route id).1), .c (.int .i64 (c.route id).2)], h') ∧ On h h' := by
  obtain ⟨h1, e1, o1⟩ := isChart_run (Z := Z) hI11 hI12 hLi v ok
  obtain ⟨x, p, rfl, rfl, w⟩ := v
  rw [call_run F Z (hI12.lk (g := 70) rfl) _ _ rfl]
  cases hg : c.good with
  | false =>
    rw [hg] at e1
    simp only [run0, run1, run2, run3, run4, noSlot, ownS, ownK, memN, RO.dst, lk, drop, forget, number, Nat.reduceBEq, cut?, splice?, builds, List.length_cons, List.length_nil, List.drop_succ_cons, List.drop_zero, List.take_succ_cons, List.take_zero, List.cons_append, List.nil_append, List.append_nil, List.drop_nil, List.take_nil, Nat.reduceAdd, Nat.reduceLeDiff, Nat.zero_add, Nat.add_zero, ↓reduceIte, Bool.not_true, Bool.not_false, decide_true, decide_false, eq_self, bne_self_eq_false, List.getElem?_cons_zero, List.getElem?_cons_succ, decide_eq_true_eq, Bool.false_eq_true, Bool.true_eq_false, reduceCtorEq, Nat.le_refl, e1]
    exact ⟨_, by simp [Chart.route, hg], o1⟩
  | true =>
    rw [hg] at e1
    obtain ⟨i, hi, q1, _, q2, _, _⟩ := Chart.has (c := c) (Chart.good_ranges hg) g0 g1
    have w1 := w.on (Fl.ok _) o1
    obtain ⟨hq, g, fr, hgq, on2⟩ := findRange_q (Z := Z) hI11 hLi w1 id
    rw [q1] at fr
    have hld : ∀ j n, loadP g x.sid i j n = cut? (Range.at_ c.ranges i).enc j n := (w1.on (Fl.ok _) on2).loadD Range.none_ hi
    simp only [run0, run1, run2, run3, run4, noSlot, ownS, ownK, memN, RO.dst, lk, drop, forget, number, Nat.reduceBEq, cut?, splice?, builds, List.length_cons, List.length_nil, List.drop_succ_cons, List.drop_zero, List.take_succ_cons, List.take_zero, List.cons_append, List.nil_append, List.append_nil, List.drop_nil, List.take_nil, Nat.reduceAdd, Nat.reduceLeDiff, Nat.zero_add, Nat.add_zero, ↓reduceIte, Bool.not_true, Bool.not_false, decide_true, decide_false, eq_self, bne_self_eq_false, List.getElem?_cons_zero, List.getElem?_cons_succ, decide_eq_true_eq, Bool.false_eq_true, Bool.true_eq_false, reduceCtorEq, Nat.le_refl, e1, fr, hgq, hld, w.idx hi, Range.enc]
    exact ⟨_, by simp [Chart.route, hg, q2], o1.trans on2⟩
theorem sRouteOf_run (hS : Has F tS01d) (hS11 : Has F tS11) (hS12 : Has F tS12) (v : Chart.RI h cs c fp) (ok : c.Ok) {id : Int} (g0 : 0 ≤ id) (g1 : id ≤ 18446744073709551615) :
    ∃ h', call F Z 69 [.agg cs, .c (.int .u64 id)] h = some (.tup [.c (.int .i64 (c.route id).1), .c (.int .i64 (c.route id).2)], h') ∧ On h h' := by
  have e1 := sChartOk_run (Z := Z) hS hS11 hS12 v ok
  obtain ⟨x, p, rfl, rfl, w⟩ := v
  rw [call_run F Z (hS12.lk (g := 69) rfl) _ _ rfl]
  cases hg : c.good with
  | false =>
    rw [hg] at e1
    simp only [run0, run1, run2, run3, run4, noSlot, ownS, ownK, memN, RO.dst, lk, drop, forget, number, Nat.reduceBEq, cut?, splice?, builds, List.length_cons, List.length_nil, List.drop_succ_cons, List.drop_zero, List.take_succ_cons, List.take_zero, List.cons_append, List.nil_append, List.append_nil, List.drop_nil, List.take_nil, Nat.reduceAdd, Nat.reduceLeDiff, Nat.zero_add, Nat.add_zero, ↓reduceIte, Bool.not_true, Bool.not_false, decide_true, decide_false, eq_self, bne_self_eq_false, List.getElem?_cons_zero, List.getElem?_cons_succ, decide_eq_true_eq, Bool.false_eq_true, Bool.true_eq_false, reduceCtorEq, Nat.le_refl, e1]
    exact ⟨_, by simp [Chart.route, hg], On.refl h⟩
  | true =>
    rw [hg] at e1
    obtain ⟨i, hi, q1, q5, q2, _, _⟩ := Chart.has (c := c) (Chart.good_ranges hg) g0 g1
    obtain ⟨hq, g, fr, hgq, on2⟩ := quietly (sFindRange_run (Z := Z) hS hS11 (w.up (Fl.ok _) h.next) ok.ranges id) (On.refl _)
    rw [Chart.good_ranges hg, q5] at fr
    simp only [cond_true] at fr
    have hld : ∀ j n, loadP g x.sid i j n = cut? (Range.at_ c.ranges i).enc j n := (w.on (Fl.ok _) on2).loadD Range.none_ hi
    simp only [run0, run1, run2, run3, run4, noSlot, ownS, ownK, memN, RO.dst, lk, drop, forget, number, Nat.reduceBEq, cut?, splice?, builds, List.length_cons, List.length_nil, List.drop_succ_cons, List.drop_zero, List.take_succ_cons, List.take_zero, List.cons_append, List.nil_append, List.append_nil, List.drop_nil, List.take_nil, Nat.reduceAdd, Nat.reduceLeDiff, Nat.zero_add, Nat.add_zero, ↓reduceIte, Bool.not_true, Bool.not_false, decide_true, decide_false, eq_self, bne_self_eq_false, List.getElem?_cons_zero, List.getElem?_cons_succ, decide_eq_true_eq, Bool.false_eq_true, Bool.true_eq_false, reduceCtorEq, Nat.le_refl, e1, fr, hgq, hld, w.idx hi, Range.enc]
    exact ⟨_, by simp [Chart.route, hg, q2], on2⟩
theorem sMovedBetween_run (hS : Has F tS01d) (hS11 : Has F tS11) (hS12 : Has F tS12) (v : Chart.RI h cs c fp) (u : Chart.RI h cs' d fq) (ok : c.Ok) (ok' : d.Ok) {id : Int} (g0 : 0 ≤ id) (g1 : id ≤ 18446744073709551615) :
    ∃ h', call F Z 73 [.agg cs, .agg cs', .c (.int .u64 id)] h = some (.c (.bool (c.moved d id)), h') ∧ On h h' := by
  obtain ⟨h1, e1, o1⟩ := sRouteOf_run (Z := Z) hS hS11 hS12 v ok g0 g1
  obtain ⟨h2, e2, o2⟩ := sRouteOf_run (Z := Z) hS hS11 hS12 (Chart.okI.mono u o1.ext) ok' g0 g1
  have r1 : (0 ≤ (c.route id).1) ↔ c.good = true := by
    unfold Chart.route
    cases hg : c.good with
    | false => simp
    | true =>
      obtain ⟨i, hi, q1, _, q2, _, _⟩ := Chart.has (c := c) (Chart.good_ranges hg) g0 g1
      have := ((rangesOk_fit (Chart.good_ranges hg)).grp i hi).1
      simp only [cond_true, q2]
      simp [this]
  have r2 : (0 ≤ (d.route id).1) ↔ d.good = true := by
    unfold Chart.route
    cases hg : d.good with
    | false => simp
    | true =>
      obtain ⟨i, hi, q1, _, q2, _, _⟩ := Chart.has (c := d) (Chart.good_ranges hg) g0 g1
      have := ((rangesOk_fit (Chart.good_ranges hg)).grp i hi).1
      simp only [cond_true, q2]
      simp [this]
  obtain ⟨x, p, rfl, rfl, w⟩ := v
  obtain ⟨x', p', rfl, rfl, w'⟩ := u
  rw [call_run F Z (hS12.lk (g := 73) rfl) _ _ rfl]
  simp only [run0, run1, run2, run3, run4, noSlot, ownS, ownK, memN, RO.dst, lk, drop, forget, number, Nat.reduceBEq, cut?, splice?, builds, List.length_cons, List.length_nil, List.drop_succ_cons, List.drop_zero, List.take_succ_cons, List.take_zero, List.cons_append, List.nil_append, List.append_nil, List.drop_nil, List.take_nil, Nat.reduceAdd, Nat.reduceLeDiff, Nat.zero_add, Nat.add_zero, ↓reduceIte, Bool.not_true, Bool.not_false, decide_true, decide_false, eq_self, bne_self_eq_false, List.getElem?_cons_zero, List.getElem?_cons_succ, decide_eq_true_eq, Bool.false_eq_true, Bool.true_eq_false, reduceCtorEq, Nat.le_refl, e1, e2]
  refine ⟨h2, ?_, o1.trans o2⟩
  clear e1 e2 w w'
  (repeat' ((first | (rw [gF_if]; split) | (rw [condC_if]; split) | (rw [pickR_if]; split)) <;> (rename_i hh; (try simp only [Bool.not_eq_true, decide_eq_true_eq] at hh); simp only [hh, run0, run1, run2, run3, run4, noSlot, ownS, ownK, memN, RO.dst, lk, drop, forget, number, Nat.reduceBEq, cut?, splice?, builds, List.length_cons, List.length_nil, List.drop_succ_cons, List.drop_zero, List.take_succ_cons, List.take_zero, List.cons_append, List.nil_append, List.append_nil, List.drop_nil, List.take_nil, Nat.reduceAdd, Nat.reduceLeDiff, Nat.zero_add, Nat.add_zero, ↓reduceIte, Bool.not_true, Bool.not_false, decide_true, decide_false, eq_self, bne_self_eq_false, List.getElem?_cons_zero, List.getElem?_cons_succ, decide_eq_true_eq, Bool.false_eq_true, Bool.true_eq_false, reduceCtorEq, Nat.le_refl]))) <;> refine fin_bool ?_ <;> simp_all [Chart.moved, Chart.route]
end
end Go.Proofs.Ytlbagejkjkfkjaa.A
/- Small laws of lists and of slices, used in many texts. -/
namespace Go.Proofs.Ytlbagejkjkfkjaa.A
open Go
set_option linter.unusedSimpArgs false
set_option linter.unusedVariables false
theorem findI_lt {α : Type} {p : α → Bool} {xs : List α} : -1 ≤ findI p xs ∧ findI p xs < xs.length := by
  unfold findI
  split
  · rename_i i hi
    rw [List.findIdx?_eq_some_iff_getElem] at hi
    obtain ⟨h, _⟩ := hi
    omega
  · omega
theorem findI_at {α : Type} {p : α → Bool} {xs : List α} (h : 0 ≤ findI p xs) : ∃ i : Nat, findI p xs = (i : Int) ∧ ∃ hi : i < xs.length, p xs[i] = true := by
  unfold findI at h ⊢
  split at h
  · rename_i i hi
    rw [List.findIdx?_eq_some_iff_getElem] at hi
    obtain ⟨h1, h2, _⟩ := hi
    exact ⟨i, rfl, h1, h2⟩
  · omega
theorem findI_no {α : Type} {p : α → Bool} {xs : List α} (h : findI p xs < 0) : findI p xs = -1 := by
  unfold findI at h ⊢
  split at h
  · omega
  · rfl
theorem mix_set {α : Type} (f : α → α) (xs : List α) {i : Nat} (hi : i < xs.length) : ((xs.take i).map f ++ xs.drop i).set i (f xs[i]) = (xs.take (i + 1)).map f ++ xs.drop (i + 1) := by
  rw [List.set_append_right _ _ (by simp; omega), show i - ((xs.take i).map f).length = 0 from by simp; omega, List.drop_eq_getElem_cons hi, List.set_cons_zero,
    show xs.take (i + 1) = xs.take i ++ [xs[i]] from by rw [List.take_add_one, List.getElem?_eq_getElem hi]; rfl, List.map_append, List.append_assoc]
  rfl
theorem mix_at {α : Type} (f : α → α) (xs : List α) {i : Nat} (hi : i < xs.length) (h : i < ((xs.take i).map f ++ xs.drop i).length) : ((xs.take i).map f ++ xs.drop i)[i] = xs[i] := by
  rw [List.getElem_append_right (by simp; omega)]
  simp
  congr 1
  omega
theorem set_same {α : Type} (xs : List α) {i : Nat} (hi : i < xs.length) : xs.set i xs[i] = xs := by
  apply List.ext_getElem?
  intro j
  by_cases e : i = j
  · subst e; rw [List.getElem?_set_self hi, List.getElem?_eq_getElem hi]
  · rw [List.getElem?_set_ne e]
theorem filter_next {α : Type} (p : α → Bool) {xs : List α} {i : Nat} (hi : i < xs.length) : (xs.take (i + 1)).filter p = (xs.take i).filter p ++ if p xs[i] then [xs[i]] else [] := by
  rw [List.take_add_one, List.getElem?_eq_getElem hi, List.filter_append]
  cases h : p xs[i] <;> simp [h]
theorem filter_len {α : Type} (p : α → Bool) (xs : List α) (i : Nat) : ((xs.take i).filter p).length ≤ xs.length := Nat.le_trans (List.length_filter_le _ _) (by rw [List.length_take]; omega)
section
variable {α : Type} {R : Rel α} {tag : Nat} {h0 h g : Heap} {x y : Cell} {xs ys : List α} {fp fq : List Nat}
/-- A slice of one. -/
theorem SlR.lit1 (ok : RelOk R) {cs : List Cell} {t : α} (v : R h cs t fp) (nd : fp.Nodup) : SlR tag R (h.push [cs]) (.sl tag h.next 0 1) [t] (h.next :: fp) ∧ (h.next :: fp).Nodup :=
  ⟨⟨by simp [maxLen], .inr ⟨h.next, [cs], [fp], rfl, by simp [Heap.push], by simp [Heap.push], by simp, ⟨ok.mv v (by simp [Heap.push]) fun id hid => push_ne _ (by have := ok.lt v id hid; omega), trivial⟩⟩⟩, List.nodup_cons.2 ⟨fun hc => by have := ok.lt v _ hc; omega, nd⟩⟩
end
end Go.Proofs.Ytlbagejkjkfkjaa.A
/- slices.Delete and slices.Insert on slices of data with memory. -/
namespace Go.Proofs.Ytlbagejkjkfkjaa.A
open Go
set_option linter.unusedSimpArgs false
set_option linter.unusedVariables false
section
variable {α : Type} {R : Rel α} {tag : Nat} {h0 h g : Heap} {x y : Cell} {xs ys : List α} {fp fq : List Nat}
theorem AllR.take : ∀ {rows : List (List Cell)} {xs : List α} {fps : List (List Nat)}, AllR R h rows xs fps → ∀ (i : Nat), AllR R h (rows.take i) (xs.take i) (fps.take i)
  | [], [], [], _, i => by simp only [List.take_nil]; trivial
  | _ :: _, _ :: _, _ :: _, _, 0 => trivial
  | _ :: _, _ :: _, _ :: _, ⟨w0, w⟩, i + 1 => ⟨w0, AllR.take w i⟩
  | [], [], _ :: _, w, _ => w.elim
  | [], _ :: _, _, w, _ => w.elim
  | _ :: _, [], _, w, _ => w.elim
  | _ :: _, _ :: _, [], w, _ => w.elim
theorem AllR.drop : ∀ {rows : List (List Cell)} {xs : List α} {fps : List (List Nat)}, AllR R h rows xs fps → ∀ (i : Nat), AllR R h (rows.drop i) (xs.drop i) (fps.drop i)
  | [], [], [], _, i => by simp only [List.drop_nil]; trivial
  | _ :: _, _ :: _, _ :: _, w, 0 => w
  | _ :: _, _ :: _, _ :: _, ⟨w0, w⟩, i + 1 => AllR.drop w i
  | [], [], _ :: _, w, _ => w.elim
  | [], _ :: _, _, w, _ => w.elim
  | _ :: _, [], _, w, _ => w.elim
  | _ :: _, _ :: _, [], w, _ => w.elim
theorem flat_parts {fps : List (List Nat)} (i : Nat) : (fps.take i).flatten ++ (fps.drop i).flatten = fps.flatten := by rw [← List.flatten_append, List.take_append_drop]
/-- A heap where rows of one's own have gone, and others come. -/
structure Re (h g : Heap) (fp fq : List Nat) : Prop where
  le : h.next ≤ g.next
  fl : g.floor = h.floor
  get : ∀ id, id < h.next → id ∉ fp → g.get id = h.get id
  nd : fq.Nodup
  of : ∀ id, id ∈ fq → id ∈ fp ∨ h.next ≤ id
theorem Re.on (r : Re h g fp fq) (o : On h0 h) (f : Fre h0 fp) : On h0 g :=
  ⟨⟨Nat.le_trans o.ext.1 r.le, fun id hid => by rw [r.get id (Nat.lt_of_lt_of_le hid o.ext.1) (f.gt id hid)]; exact o.ext.2 id hid⟩, r.fl.trans o.fl⟩
theorem Re.fre (r : Re h g fp fq) (o : On h0 h) (f : Fre h0 fp) : Fre h0 fq :=
  ⟨fun id hid => by rcases r.of id hid with h1 | h1; exact f.lo id h1; exact Nat.le_trans o.ext.1 h1, r.nd⟩
/-- One element is deleted. -/
theorem SlR.del (ok : RelOk R) (w : SlR tag R h x xs fp) (nd : fp.Nodup) (hfl : ∀ id, id ∈ fp → h.floor ≤ id) {i : Nat} (hi : i < xs.length) :
    ∃ y g fq, delF tag [.c x, .c (.int .i64 (i : Nat)), .c (.int .i64 ((i + 1 : Nat) : Int))] h = some (.c y, g) ∧ SlR tag R g y (xs.eraseIdx i) fq ∧ Re h g fp fq := by
  rcases w with ⟨hl, ⟨rfl, rfl, rfl⟩ | ⟨id, rows, fps, rfl, q1, q2, rfl, q3⟩⟩
  · exact absurd hi (Nat.not_lt_zero _)
  have hn := List.nodup_cons.1 nd
  have hrl := q3.len
  have hfid := hfl id (by simp)
  have hlen : (rows.take i ++ rows.drop (i + 1)).length = i + (xs.length - (i + 1)) := by simp only [List.length_append, List.length_take, List.length_drop, hrl]; omega
  have he : xs.eraseIdx i = xs.take i ++ xs.drop (i + 1) := List.eraseIdx_eq_take_drop_succ ..
  have hel : (xs.eraseIdx i).length = i + (xs.length - (i + 1)) := by rw [List.length_eraseIdx_of_lt hi]; omega
  have hflt := q3.lt ok
  have hsub : ∀ j, j ∈ (fps.take i ++ fps.drop (i + 1)).flatten → j ∈ fps.flatten := fun j hj => by
    rw [List.flatten_append, List.mem_append] at hj
    rw [← flat_parts (fps := fps) i, List.mem_append]
    rcases hj with hj | hj
    · exact .inl hj
    · right
      rw [List.mem_flatten] at hj ⊢
      obtain ⟨l, hl1, hl2⟩ := hj
      exact ⟨l, List.mem_of_mem_drop (i := 1) (by rw [List.drop_drop]; exact hl1), hl2⟩
  refine ⟨.sl tag h.next 0 (i + (xs.length - (i + 1))), (h.kill id).push (rows.take i ++ rows.drop (i + 1)), h.next :: (fps.take i ++ fps.drop (i + 1)).flatten, ?_, ?_, ?_⟩
  · simp only [delF, q1, Option.bind_some, Int.toNat_natCast]
    rw [if_pos ⟨trivial, trivial, hfid, by omega, by omega, by omega, hrl⟩]
  · refine ⟨by rw [hel]; omega, .inr ⟨h.next, rows.take i ++ rows.drop (i + 1), fps.take i ++ fps.drop (i + 1), by rw [hel], by simp [Heap.push, Heap.kill], by simp [Heap.push, Heap.kill], rfl, ?_⟩⟩
    rw [he]
    refine ((q3.take i).app (q3.drop (i + 1))).mv ok (by simp [Heap.push, Heap.kill]) fun j hj => ?_
    have hj' := hsub j hj
    have h1 := hflt j hj'
    rw [push_ne _ (by rw [kill_next]; omega), kill_ne (h := h) (k := id) (id := j) fun e => hn.1 (e ▸ hj')]
  · refine ⟨by simp [Heap.push, Heap.kill], rfl, fun j hj hjn => ?_, ?_, ?_⟩
    · rw [push_ne _ (by rw [kill_next]; omega), kill_ne (h := h) (k := id) (id := j) fun e => hjn (by rw [e]; exact List.mem_cons_self)]
    · rw [List.nodup_cons]
      refine ⟨fun hc => ?_, ?_⟩
      · have := hflt _ (hsub _ hc); omega
      · rw [List.flatten_append]
        have := hn.2
        rw [← flat_parts (fps := fps) i] at this
        obtain ⟨n1, n2, n3⟩ := List.nodup_append.1 this
        have hs2 : (fps.drop (i + 1)).flatten.Sublist (fps.drop i).flatten := by
          obtain ⟨_, f, _, e2, _⟩ := q3.at i hi
          rw [List.drop_eq_getElem_cons (List.getElem?_eq_some_iff.1 e2).1, List.flatten_cons]
          exact List.sublist_append_right _ _
        exact List.nodup_append.2 ⟨n1, n2.sublist hs2, fun a ha b hb => n3 a ha b (hs2.subset hb)⟩
    · intro j hj
      rcases List.mem_cons.1 hj with rfl | hj
      · exact .inr (Nat.le_refl _)
      · exact .inl (List.mem_cons_of_mem _ (hsub j hj))
/-- Some elements are put in. -/
theorem SlR.ins (ok : RelOk R) (w : SlR tag R h x xs fp) (nd : fp.Nodup) (hfl : ∀ id, id ∈ fp → h.floor ≤ id) (v : SlR tag R h y ys fq) (nq : fq.Nodup) (hfq : ∀ id, id ∈ fq → h.floor ≤ id) (hd : ∀ id, id ∈ fq → id ∉ fp) (hy : 0 < ys.length)
    {bytes : Nat} (hb : (xs.length + ys.length) * bytes ≤ 140737488355328) (hm : xs.length + ys.length ≤ maxLen) {i : Nat} (hi : i ≤ xs.length) :
    ∃ z g fr, insF tag bytes [.c x, .c (.int .i64 (i : Nat)), .c y] h = some (.c z, g) ∧ SlR tag R g z (xs.take i ++ ys ++ xs.drop i) fr ∧ Re h g (fp ++ fq) fr := by
  rcases v with ⟨hvl, ⟨rfl, rfl, rfl⟩ | ⟨idv, new, fps2, rfl, v1, v2, rfl, v3⟩⟩
  · exact absurd hy (Nat.not_lt_zero _)
  have hnv := List.nodup_cons.1 nq
  have hvrl := v3.len
  have hvlt := v3.lt ok
  have hfv := hfq idv (by simp)
  rcases w with ⟨hl, ⟨rfl, rfl, rfl⟩ | ⟨id, rows, fps, rfl, q1, q2, rfl, q3⟩⟩
  · have hi0 : i = 0 := by simpa using hi
    subst hi0
    simp only [List.length_nil, Nat.zero_add] at hb hm
    refine ⟨.sl tag h.next 0 ys.length, h.push new, h.next :: fps2.flatten, ?_, ?_, ?_⟩
    · simp only [insF]
      rw [if_pos ⟨trivial, trivial, hfv, hy⟩]
      simp only [v1, Option.bind_some]
      rw [if_pos hvrl, if_pos ⟨rfl, hb, hm⟩]
    · refine ⟨by simpa using hm, .inr ⟨h.next, new, fps2, by simp, by simp [Heap.push], by simp [Heap.push], rfl, ?_⟩⟩
      simp only [List.take_nil, List.drop_nil, List.nil_append, List.append_nil]
      exact v3.mv ok (by simp [Heap.push]) fun j hj => push_ne _ (by have := hvlt j hj; omega)
    · refine ⟨by simp [Heap.push], rfl, fun j hj _ => push_ne _ (by omega), List.nodup_cons.2 ⟨fun hc => by have := hvlt _ hc; omega, hnv.2⟩, fun j hj => ?_⟩
      rcases List.mem_cons.1 hj with rfl | hj
      · exact .inr (Nat.le_refl _)
      · exact .inl (by simp [hj])
  · have hn := List.nodup_cons.1 nd
    have hrl := q3.len
    have hflt := q3.lt ok
    have hfid := hfl id (by simp)
    have hne : id ≠ idv := fun e => hd idv (by simp) (by simp [e])
    refine ⟨.sl tag h.next 0 (xs.length + ys.length), (h.kill id).push (rows.take i ++ new ++ rows.drop i), h.next :: (fps.take i ++ fps2 ++ fps.drop i).flatten, ?_, ?_, ?_⟩
    · simp only [insF]
      rw [if_pos ⟨trivial, trivial, hfv, hy⟩]
      simp only [v1, Option.bind_some]
      rw [if_pos hvrl]
      simp only [q1, Option.bind_some, Int.toNat_natCast]
      rw [if_pos ⟨trivial, trivial, hfid, hne, by omega, by omega, hb, hm, hrl⟩]
    · have hlen : (xs.take i ++ ys ++ xs.drop i).length = xs.length + ys.length := by simp only [List.length_append, List.length_take, List.length_drop]; omega
      refine ⟨by rw [hlen]; exact hm, .inr ⟨h.next, rows.take i ++ new ++ rows.drop i, fps.take i ++ fps2 ++ fps.drop i, by rw [hlen], by simp [Heap.push, Heap.kill], by simp [Heap.push, Heap.kill], rfl, ?_⟩⟩
      refine (((q3.take i).app v3).app (q3.drop i)).mv ok (by simp [Heap.push, Heap.kill]) fun j hj => ?_
      have : j ∈ fps.flatten ∨ j ∈ fps2.flatten := by
        rw [List.flatten_append, List.flatten_append, List.mem_append, List.mem_append] at hj
        rw [← flat_parts (fps := fps) i, List.mem_append]
        rcases hj with (hj | hj) | hj
        · exact .inl (.inl hj)
        · exact .inr hj
        · exact .inl (.inr hj)
      rcases this with hj' | hj'
      · have h1 := hflt j hj'
        rw [push_ne _ (by rw [kill_next]; omega), kill_ne (h := h) (k := id) (id := j) fun e => hn.1 (e ▸ hj')]
      · have h1 := hvlt j hj'
        rw [push_ne _ (by rw [kill_next]; omega), kill_ne (h := h) (k := id) (id := j) fun e => hd j (by simp [hj']) (by rw [e]; simp)]
    · refine ⟨by simp [Heap.push, Heap.kill], rfl, fun j hj hjn => ?_, ?_, ?_⟩
      · rw [push_ne _ (by rw [kill_next]; omega), kill_ne (h := h) (k := id) (id := j) fun e => hjn (by rw [e]; simp)]
      · rw [List.nodup_cons]
        have hn2 := hn.2
        rw [← flat_parts (fps := fps) i] at hn2
        obtain ⟨n1, n2, n3⟩ := List.nodup_append.1 hn2
        have hd1 : ∀ a, a ∈ fps2.flatten → a ∉ fps.flatten := fun a ha hb => hd a (by simp [ha]) (by simp [hb])
        have hin1 : ∀ a, a ∈ (fps.take i).flatten → a ∈ fps.flatten := fun a ha => by rw [← flat_parts (fps := fps) i, List.mem_append]; exact .inl ha
        have hin2 : ∀ a, a ∈ (fps.drop i).flatten → a ∈ fps.flatten := fun a ha => by rw [← flat_parts (fps := fps) i, List.mem_append]; exact .inr ha
        rw [List.flatten_append, List.flatten_append]
        refine ⟨fun hc => ?_, ?_⟩
        · rw [List.mem_append, List.mem_append] at hc
          rcases hc with (hc | hc) | hc
          · have := hflt _ (hin1 _ hc); omega
          · have := hvlt _ hc; omega
          · have := hflt _ (hin2 _ hc); omega
        · refine List.nodup_append.2 ⟨List.nodup_append.2 ⟨n1, hnv.2, fun a ha b hb e => hd1 b hb (e ▸ hin1 a ha)⟩, n2, fun a ha b hb e => ?_⟩
          rcases List.mem_append.1 ha with ha | ha
          · exact n3 a ha b hb e
          · exact hd1 a ha (e ▸ hin2 b hb)
      · intro j hj
        rcases List.mem_cons.1 hj with rfl | hj
        · exact .inr (Nat.le_refl _)
        · left
          rw [List.flatten_append, List.flatten_append, List.mem_append, List.mem_append] at hj
          rw [List.mem_append]
          rcases hj with (hj | hj) | hj
          · exact .inl (List.mem_cons_of_mem _ (by rw [← flat_parts (fps := fps) i, List.mem_append]; exact .inl hj))
          · exact .inr (by simp [hj])
          · exact .inl (List.mem_cons_of_mem _ (by rw [← flat_parts (fps := fps) i, List.mem_append]; exact .inr hj))
end
end Go.Proofs.Ytlbagejkjkfkjaa.A
/- Ranges are split and merged, the program's way. -/
namespace Go.Proofs.Ytlbagejkjkfkjaa.A
open Go
set_option linter.unusedSimpArgs false
set_option linter.unusedVariables false
def cutRg (xs : List Range) (k : Nat) (a g : Int) : List Range := xs.take k ++ [⟨(Range.at_ xs k).lo, a - 1, (Range.at_ xs k).group⟩, ⟨a, (Range.at_ xs k).hi, g⟩] ++ xs.drop (k + 1)
def splitRg (xs : List Range) (a g : Int) : List Range × Bool := bif rangesOk xs && (inR g 0 99 && !((xs.length : Int) == 24)) then (bif (Range.at_ xs (findHi xs a).toNat).lo == a then ([], false) else (cutRg xs (findHi xs a).toNat a g, true)) else ([], false)
def joinRg (xs : List Range) (k : Nat) : List Range := (xs.set k ⟨(Range.at_ xs k).lo, (Range.at_ xs (k + 1)).hi, (Range.at_ xs k).group⟩).eraseIdx (k + 1)
def mergeRg (xs : List Range) (k : Int) : List Range × Bool := bif rangesOk xs && (decide (0 ≤ k) && (decide (k < (xs.length : Int) - 1) && ((Range.at_ xs k.toNat).group == (Range.at_ xs (k.toNat + 1)).group))) then (joinRg xs k.toNat, true) else ([], false)
section
variable {xs : List Range} {a g : Int}
theorem split_bad (h : (rangesOk xs && (inR g 0 99 && !((xs.length : Int) == 24))) = false) : splitRg xs a g = ([], false) := by simp [splitRg, h]
theorem split_at (h : (rangesOk xs && (inR g 0 99 && !((xs.length : Int) == 24))) = true) {k : Nat} (h2 : findHi xs a = (k : Int)) : splitRg xs a g = bif (Range.at_ xs k).lo == a then ([], false) else (cutRg xs k a g, true) := by simp [splitRg, h, h2]
theorem cutRg_set {k : Nat} (hk : k < xs.length) (r : Range) (b : Range) : (xs.set k r).take (k + 1) ++ [b] ++ (xs.set k r).drop (k + 1) = xs.take k ++ [r, b] ++ xs.drop (k + 1) := by
  have h1 : (xs.set k r).take (k + 1) = xs.take k ++ [r] := by
    rw [List.take_add_one, List.getElem?_set_self hk, List.take_set_of_le (Nat.le_refl _)]; rfl
  rw [h1, List.drop_set_of_lt (by omega)]
  simp
end
section
variable {F : Nat → Option RF} {Z : CallF} {h hp : Heap} {x : Cell} {xs : List Range} {fp : List Nat}
/-- append([]Range{}, list...) -/
theorem copyR (w : SlR 7 (Fl Range.enc) h x xs fp) (o : On h hp) (hf : h.floor ≤ h.next) (sm : xs.length ≤ 1048576) :
    ∃ y g fq, appF (hp.push []) 7 24 (.sl 7 hp.next 0 0) x = some (y, g) ∧ On h g ∧ SlR 7 (Fl Range.enc) g y xs fq ∧ Fre h fq := by
  have a0 := Acc.lit0 (tag := 7) o
  have w' := w.on (Fl.ok _) (o.trans (On.push hp []))
  have ce := a0.cat_eq (bytes := 24) (y := x) (new := xs.map Range.enc) hf w'.isTag w'.rows (by simp; omega)
  have ac := a0.cat (new := xs.map Range.enc) hf (by simp; omega)
  simp only [List.nil_append] at ac
  obtain ⟨o2, fq, u, f⟩ := ac.flat
  exact ⟨_, _, fq, ce, o2, u, f⟩
set_option maxHeartbeats 2000000 in
theorem splitRange_c (hI11 : Has F tI11) (hL : Has F tLibslicesIndexFuncimplRangeimplRange) (pr : PrimAt F Z 269 (insF 7 24)) (hf : h.floor ≤ h.next) (w : SlR 7 (Fl Range.enc) h x xs fp) (a g : Int) (ha : 0 ≤ a ∧ a ≤ 18446744073709551615) (hok : ∀ t, t ∈ xs → t.Ok) (sm : xs.length ≤ 1048576) :
    ∃ y h' fq, call F Z 255 [.c x, .c (.int .u64 a), .c (.int .i64 g)] h = some (.tup [.c y, .c (.bool (splitRg xs a g).2)], h') ∧ On h h' ∧ SlR 7 (Fl Range.enc) h' y (splitRg xs a g).1 fq ∧ Fre h fq := by
  have e1 := areRanges_run (Z := Z) hI11 w hok
  have e2 := fun h => isGroupId_run (Z := Z) hI11 g h
  have e3 := findRange_run (Z := Z) hI11 hL w a
  have hwl := w.len
  rw [call_run F Z (hI11.lk (g := 255) rfl) _ _ rfl]
  cases hr : rangesOk xs with
  | false =>
    rw [hr] at e1
    rw [split_bad (by simp [hr])]
    simp only [run0, run1, run2, run3, run4, noSlot, ownS, ownK, memN, RO.dst, lk, drop, forget, number, Nat.reduceBEq, cut?, splice?, builds, List.length_cons, List.length_nil, List.drop_succ_cons, List.drop_zero, List.take_succ_cons, List.take_zero, List.cons_append, List.nil_append, List.append_nil, List.drop_nil, List.take_nil, Nat.reduceAdd, Nat.reduceLeDiff, Nat.zero_add, Nat.add_zero, ↓reduceIte, Bool.not_true, Bool.not_false, decide_true, decide_false, eq_self, bne_self_eq_false, List.getElem?_cons_zero, List.getElem?_cons_succ, decide_eq_true_eq, Bool.false_eq_true, Bool.true_eq_false, reduceCtorEq, Nat.le_refl, e1]
    exact ⟨_, _, _, rfl, On.refl h, SlR.nil _ _ _, Fre.nil h⟩
  | true =>
    rw [hr] at e1
    cases hg : inR g 0 99 with
    | false =>
      rw [hg] at e2
      rw [split_bad (by simp [hg])]
      simp only [run0, run1, run2, run3, run4, noSlot, ownS, ownK, memN, RO.dst, lk, drop, forget, number, Nat.reduceBEq, cut?, splice?, builds, List.length_cons, List.length_nil, List.drop_succ_cons, List.drop_zero, List.take_succ_cons, List.take_zero, List.cons_append, List.nil_append, List.append_nil, List.drop_nil, List.take_nil, Nat.reduceAdd, Nat.reduceLeDiff, Nat.zero_add, Nat.add_zero, ↓reduceIte, Bool.not_true, Bool.not_false, decide_true, decide_false, eq_self, bne_self_eq_false, List.getElem?_cons_zero, List.getElem?_cons_succ, decide_eq_true_eq, Bool.false_eq_true, Bool.true_eq_false, reduceCtorEq, Nat.le_refl, e1, e2]
      exact ⟨_, _, _, rfl, On.refl h, SlR.nil _ _ _, Fre.nil h⟩
    | true =>
      rw [hg] at e2
      cases hl : ((xs.length : Int) == 24) with
      | true =>
        rw [split_bad (by simp [hl])]
        simp only [run0, run1, run2, run3, run4, noSlot, ownS, ownK, memN, RO.dst, lk, drop, forget, number, Nat.reduceBEq, cut?, splice?, builds, List.length_cons, List.length_nil, List.drop_succ_cons, List.drop_zero, List.take_succ_cons, List.take_zero, List.cons_append, List.nil_append, List.append_nil, List.drop_nil, List.take_nil, Nat.reduceAdd, Nat.reduceLeDiff, Nat.zero_add, Nat.add_zero, ↓reduceIte, Bool.not_true, Bool.not_false, decide_true, decide_false, eq_self, bne_self_eq_false, List.getElem?_cons_zero, List.getElem?_cons_succ, decide_eq_true_eq, Bool.false_eq_true, Bool.true_eq_false, reduceCtorEq, Nat.le_refl, e1, e2, hwl, hl]
        exact ⟨_, _, _, rfl, On.refl h, SlR.nil _ _ _, Fre.nil h⟩
      | false =>
        have hfit := rangesOk_fit hr
        obtain ⟨k, hk, q1, q2, q3, q4⟩ := hfit.has ha.1 ha.2
        rw [split_at (by simp [hr, hg, hl]) q1]
        rw [q1] at e3
        have o1 := On.push h [[.int .u64 a]]
        have w1 := w.on (Fl.ok _) o1
        have hxi := w.idx hk
        have hld := w1.load hk
        rw [← at_get hk] at hld
        simp only [Range.enc] at hld
        by_cases c1 : (Range.at_ xs k).lo = a
        · have c1' : ((Range.at_ xs k).lo == a) = true := by simpa using c1
          rw [c1']
          simp only [cond_true]
          simp only [run0, run1, run2, run3, run4, noSlot, ownS, ownK, memN, RO.dst, lk, drop, forget, number, Nat.reduceBEq, cut?, splice?, builds, List.length_cons, List.length_nil, List.drop_succ_cons, List.drop_zero, List.take_succ_cons, List.take_zero, List.cons_append, List.nil_append, List.append_nil, List.drop_nil, List.take_nil, Nat.reduceAdd, Nat.reduceLeDiff, Nat.zero_add, Nat.add_zero, ↓reduceIte, Bool.not_true, Bool.not_false, decide_true, decide_false, eq_self, bne_self_eq_false, List.getElem?_cons_zero, List.getElem?_cons_succ, decide_eq_true_eq, Bool.false_eq_true, Bool.true_eq_false, reduceCtorEq, Nat.le_refl, e1, e2, e3, hwl, hl, hxi, hld, c1']
          exact ⟨_, _, _, rfl, o1, SlR.nil _ _ _, Fre.nil h⟩
        · have c1' : ((Range.at_ xs k).lo == a) = false := by simpa using c1
          rw [c1']
          simp only [cond_false]
          have hlo := (hok _ (List.getElem_mem hk)).lo
          rw [← at_get hk] at hlo
          have hwa : IntKind.u64.wrap (a - 1) = a - 1 := wrapU _ (by omega) (by omega)
          obtain ⟨y, g2, fq, e4, o2, u, f2⟩ := copyR w o1 hf sm
          have hyi := u.idx hk
          have hle := w.le2
          have hws := wrapS k (by omega)
          obtain ⟨r, f, rows, hR, hs, hld2, hself, hst, hl2, fin⟩ := u.putRow (Fl.ok _) f2.nd (f2.own o2 hf) hk
          obtain ⟨rfl, rfl⟩ := hR
          have hst1 := hst xs[k].enc 1 [.int .u64 (a - 1)]
          rw [hself] at hst1
          obtain ⟨u2, m2⟩ := fin (⟨(Range.at_ xs k).lo, a - 1, (Range.at_ xs k).group⟩ : Range).enc ⟨(Range.at_ xs k).lo, a - 1, (Range.at_ xs k).group⟩ ⟨rfl, rfl⟩
          rw [← at_get hk] at hst1
          simp only [Range.enc] at hst1 u2 m2
          have hst2 : storeP g2 y.sid k 1 [.int .u64 (a - 1)] = some (g2.put y.sid (rows.set k [.int .u64 (Range.at_ xs k).lo, .int .u64 (a - 1), .int .i64 (Range.at_ xs k).group])) := by rw [hst1]; simp [splice?, putM_s]
          generalize hg3 : g2.put y.sid (rows.set k [.int .u64 (Range.at_ xs k).lo, .int .u64 (a - 1), .int .i64 (Range.at_ xs k).group]) = g3 at *
          have o3 := o2.turned m2 f2
          obtain ⟨L, ndL⟩ := SlR.lit1 (tag := 7) (Fl.ok Range.enc) (h := g3) (cs := (⟨a, (Range.at_ xs k).hi, g⟩ : Range).enc) (t := ⟨a, (Range.at_ xs k).hi, g⟩) (fp := []) ⟨rfl, rfl⟩ List.nodup_nil
          have o4 := On.push g3 [(⟨a, (Range.at_ xs k).hi, g⟩ : Range).enc]
          have u4 := SlR.on u2 (Fl.ok _) o4
          have hlt : ∀ j, j ∈ fq → j < g3.next := u2.lt (Fl.ok _)
          have o34 := o3.trans o4
          have hl24 : xs.length ≤ 24 := by
            simp only [rangesOk, inR, Bool.and_eq_true, decide_eq_true_eq] at hr; omega
          obtain ⟨z, g5, fr, e5, w5, re⟩ := u4.ins (Fl.ok _) f2.nd (f2.own o34 hf) L ndL (fun j hj => by simp only [List.mem_singleton] at hj; subst hj; rw [o4.fl]; exact o3.le hf) (fun j h2 h3 => by simp only [List.mem_singleton] at h2; have := hlt j h3; omega) (by simp) (bytes := 24) (by simp; omega) (by simp [maxLen]; omega) (i := k + 1) (by simp; omega)
          have fA : Fre h (fq ++ [g3.next]) := ⟨fun j hj => by
            rcases List.mem_append.1 hj with h2 | h2
            · exact f2.lo j h2
            · simp only [List.mem_singleton] at h2; subst h2; exact o3.ext.1, List.nodup_append.2 ⟨f2.nd, by simp, fun p hp q hq e => by simp only [List.mem_singleton] at hq; have := hlt p hp; omega⟩⟩
          rw [cutRg_set hk] at w5
          simp only [Range.enc] at e5
          simp only [run0, run1, run2, run3, run4, noSlot, ownS, ownK, memN, RO.dst, lk, drop, forget, number, Nat.reduceBEq, cut?, splice?, builds, List.length_cons, List.length_nil, List.drop_succ_cons, List.drop_zero, List.take_succ_cons, List.take_zero, List.cons_append, List.nil_append, List.append_nil, List.drop_nil, List.take_nil, Nat.reduceAdd, Nat.reduceLeDiff, Nat.zero_add, Nat.add_zero, ↓reduceIte, Bool.not_true, Bool.not_false, decide_true, decide_false, eq_self, bne_self_eq_false, List.getElem?_cons_zero, List.getElem?_cons_succ, decide_eq_true_eq, Bool.false_eq_true, Bool.true_eq_false, reduceCtorEq, Nat.le_refl, e1, e2, e3, hwl, hl, hxi, hld, c1', List.replicate_succ, List.replicate_zero, fills, and_self, Nat.zero_lt_one, List.set_cons_zero, e4, hyi, hwa, hst2, hws, pr _ _, e5]
          exact ⟨_, _, _, rfl, re.on o34 fA, w5, re.fre o34 fA⟩
end
end Go.Proofs.Ytlbagejkjkfkjaa.A
/- Neighbours of one group are merged, the program's way. -/
namespace Go.Proofs.Ytlbagejkjkfkjaa.A
open Go
set_option linter.unusedSimpArgs false
set_option linter.unusedVariables false
section
variable {xs : List Range} {k : Int}
theorem merge_bad (h : (rangesOk xs && (decide (0 ≤ k) && (decide (k < (xs.length : Int) - 1) && ((Range.at_ xs k.toNat).group == (Range.at_ xs (k.toNat + 1)).group)))) = false) : mergeRg xs k = ([], false) := by simp [mergeRg, h]
theorem merge_yes (h0 : rangesOk xs = true) {i : Nat} (h2 : k = (i : Int)) (h3 : k < (xs.length : Int) - 1) (h4 : (Range.at_ xs i).group = (Range.at_ xs (i + 1)).group) : mergeRg xs k = (joinRg xs i, true) := by subst h2; simp [mergeRg, h0, h3, h4]
end
section
variable {F : Nat → Option RF} {Z : CallF} {h hp : Heap} {x : Cell} {xs : List Range} {fp : List Nat}
set_option maxHeartbeats 2000000 in
theorem mergeRange_c (hI11 : Has F tI11) (pr : PrimAt F Z 270 (delF 7)) (hf : h.floor ≤ h.next) (w : SlR 7 (Fl Range.enc) h x xs fp) (k : Int) (hok : ∀ t, t ∈ xs → t.Ok) (sm : xs.length ≤ 1048576) :
    ∃ y h' fq, call F Z 256 [.c x, .c (.int .i64 k)] h = some (.tup [.c y, .c (.bool (mergeRg xs k).2)], h') ∧ On h h' ∧ SlR 7 (Fl Range.enc) h' y (mergeRg xs k).1 fq ∧ Fre h fq := by
  have e1 := areRanges_run (Z := Z) hI11 (w.up (Fl.ok _) h.next) hok
  have hwl := w.len
  rw [call_run F Z (hI11.lk (g := 256) rfl) _ _ rfl]
  cases hr : rangesOk xs with
  | false =>
    rw [hr] at e1
    rw [merge_bad (by simp [hr])]
    simp only [run0, run1, run2, run3, run4, noSlot, ownS, ownK, memN, RO.dst, lk, drop, forget, number, Nat.reduceBEq, cut?, splice?, builds, List.length_cons, List.length_nil, List.drop_succ_cons, List.drop_zero, List.take_succ_cons, List.take_zero, List.cons_append, List.nil_append, List.append_nil, List.drop_nil, List.take_nil, Nat.reduceAdd, Nat.reduceLeDiff, Nat.zero_add, Nat.add_zero, ↓reduceIte, Bool.not_true, Bool.not_false, decide_true, decide_false, eq_self, bne_self_eq_false, List.getElem?_cons_zero, List.getElem?_cons_succ, decide_eq_true_eq, Bool.false_eq_true, Bool.true_eq_false, reduceCtorEq, Nat.le_refl, e1]
    exact ⟨_, _, _, rfl, On.refl h, SlR.nil _ _ _, Fre.nil h⟩
  | true =>
    rw [hr] at e1
    have hle := w.le2
    have hl1 : 1 ≤ xs.length := (rangesOk_fit hr).pos
    have hwn : IntKind.i64.wrap ((xs.length : Int) - 1) = (xs.length : Int) - 1 := wrapI _ (by omega) (by omega)
    by_cases c1 : k < 0
    · have c1' : ¬ 0 ≤ k := by omega
      rw [merge_bad (by simp [c1'])]
      simp only [run0, run1, run2, run3, run4, noSlot, ownS, ownK, memN, RO.dst, lk, drop, forget, number, Nat.reduceBEq, cut?, splice?, builds, List.length_cons, List.length_nil, List.drop_succ_cons, List.drop_zero, List.take_succ_cons, List.take_zero, List.cons_append, List.nil_append, List.append_nil, List.drop_nil, List.take_nil, Nat.reduceAdd, Nat.reduceLeDiff, Nat.zero_add, Nat.add_zero, ↓reduceIte, Bool.not_true, Bool.not_false, decide_true, decide_false, eq_self, bne_self_eq_false, List.getElem?_cons_zero, List.getElem?_cons_succ, decide_eq_true_eq, Bool.false_eq_true, Bool.true_eq_false, reduceCtorEq, Nat.le_refl, e1, c1]
      exact ⟨_, _, _, rfl, On.refl h, SlR.nil _ _ _, Fre.nil h⟩
    by_cases c2 : k ≥ (xs.length : Int) - 1
    · have c2' : ¬ k < (xs.length : Int) - 1 := by omega
      rw [merge_bad (by simp [c2'])]
      simp only [run0, run1, run2, run3, run4, noSlot, ownS, ownK, memN, RO.dst, lk, drop, forget, number, Nat.reduceBEq, cut?, splice?, builds, List.length_cons, List.length_nil, List.drop_succ_cons, List.drop_zero, List.take_succ_cons, List.take_zero, List.cons_append, List.nil_append, List.append_nil, List.drop_nil, List.take_nil, Nat.reduceAdd, Nat.reduceLeDiff, Nat.zero_add, Nat.add_zero, ↓reduceIte, Bool.not_true, Bool.not_false, decide_true, decide_false, eq_self, bne_self_eq_false, List.getElem?_cons_zero, List.getElem?_cons_succ, decide_eq_true_eq, Bool.false_eq_true, Bool.true_eq_false, reduceCtorEq, Nat.le_refl, e1, c1, hwl, hwn, c2]
      exact ⟨_, _, _, rfl, On.refl h, SlR.nil _ _ _, Fre.nil h⟩
    obtain ⟨i, hi⟩ : ∃ i : Nat, k = (i : Int) := ⟨k.toNat, by omega⟩
    have hk : i < xs.length := by omega
    have hk1 : i + 1 < xs.length := by omega
    have hxi := w.idx hk
    have hxj := w.idx hk1
    have hli := w.load hk
    have hlj := w.load hk1
    rw [← at_get hk] at hli
    rw [← at_get hk1] at hlj
    simp only [Range.enc] at hli hlj
    have hw1 : IntKind.i64.wrap (k + 1) = ((i + 1 : Nat) : Int) := by rw [hi]; exact wrapS i (by omega)
    have hw2 : IntKind.i64.wrap (k + 2) = ((i + 1 + 1 : Nat) : Int) := by rw [wrapI _ (by omega) (by omega)]; omega
    by_cases c3 : (Range.at_ xs i).group = (Range.at_ xs (i + 1)).group
    case neg =>
      have c3n : ((Range.at_ xs i).group != (Range.at_ xs (i + 1)).group) = true := by simpa using c3
      have c3' : ((Range.at_ xs i).group == (Range.at_ xs (i + 1)).group) = false := by simpa using c3
      rw [merge_bad (by rw [hi]; simp [c3'])]
      subst hi
      simp only [run0, run1, run2, run3, run4, noSlot, ownS, ownK, memN, RO.dst, lk, drop, forget, number, Nat.reduceBEq, cut?, splice?, builds, List.length_cons, List.length_nil, List.drop_succ_cons, List.drop_zero, List.take_succ_cons, List.take_zero, List.cons_append, List.nil_append, List.append_nil, List.drop_nil, List.take_nil, Nat.reduceAdd, Nat.reduceLeDiff, Nat.zero_add, Nat.add_zero, ↓reduceIte, Bool.not_true, Bool.not_false, decide_true, decide_false, eq_self, bne_self_eq_false, List.getElem?_cons_zero, List.getElem?_cons_succ, decide_eq_true_eq, Bool.false_eq_true, Bool.true_eq_false, reduceCtorEq, Nat.le_refl, e1, c1, hwl, hwn, c2, hxi, hw1, hxj, hli, hlj, c3n]
      exact ⟨_, _, _, rfl, On.refl h, SlR.nil _ _ _, Fre.nil h⟩
    have c3n : ((Range.at_ xs i).group != (Range.at_ xs (i + 1)).group) = false := by simpa using c3
    rw [merge_yes hr hi (by omega) c3]
    obtain ⟨y, g2, fq, e4, o2, u, f2⟩ := copyR w (On.refl h) hf sm
    have w2 := w.on (Fl.ok _) o2
    have hlj2 := w2.load hk1
    rw [← at_get hk1] at hlj2
    simp only [Range.enc] at hlj2
    have hyi := u.idx hk
    obtain ⟨r, f, rows, hR, hs, hld2, hself, hst, hl2, fin⟩ := u.putRow (Fl.ok _) f2.nd (f2.own o2 hf) hk
    obtain ⟨rfl, rfl⟩ := hR
    have hst1 := hst xs[i].enc 1 [.int .u64 (Range.at_ xs (i + 1)).hi]
    rw [hself] at hst1
    obtain ⟨u2, m2⟩ := fin (⟨(Range.at_ xs i).lo, (Range.at_ xs (i + 1)).hi, (Range.at_ xs i).group⟩ : Range).enc ⟨(Range.at_ xs i).lo, (Range.at_ xs (i + 1)).hi, (Range.at_ xs i).group⟩ ⟨rfl, rfl⟩
    rw [← at_get hk] at hst1
    simp only [Range.enc] at hst1 u2 m2
    have hst2 : storeP g2 y.sid i 1 [.int .u64 (Range.at_ xs (i + 1)).hi] = some (g2.put y.sid (rows.set i [.int .u64 (Range.at_ xs i).lo, .int .u64 (Range.at_ xs (i + 1)).hi, .int .i64 (Range.at_ xs i).group])) := by rw [hst1]; simp [splice?, putM_s]
    generalize hg3 : g2.put y.sid (rows.set i [.int .u64 (Range.at_ xs i).lo, .int .u64 (Range.at_ xs (i + 1)).hi, .int .i64 (Range.at_ xs i).group]) = g3 at *
    have o3 := o2.turned m2 f2
    obtain ⟨z, g5, fr, e5, w5, re⟩ := SlR.del (Fl.ok _) u2 f2.nd (fun id hid => by rw [m2.fl]; exact f2.own o2 hf id hid) (i := i + 1) (by rw [List.length_set]; exact hk1)
    subst hi
    simp only [run0, run1, run2, run3, run4, noSlot, ownS, ownK, memN, RO.dst, lk, drop, forget, number, Nat.reduceBEq, cut?, splice?, builds, List.length_cons, List.length_nil, List.drop_succ_cons, List.drop_zero, List.take_succ_cons, List.take_zero, List.cons_append, List.nil_append, List.append_nil, List.drop_nil, List.take_nil, Nat.reduceAdd, Nat.reduceLeDiff, Nat.zero_add, Nat.add_zero, ↓reduceIte, Bool.not_true, Bool.not_false, decide_true, decide_false, eq_self, bne_self_eq_false, List.getElem?_cons_zero, List.getElem?_cons_succ, decide_eq_true_eq, Bool.false_eq_true, Bool.true_eq_false, reduceCtorEq, Nat.le_refl, e1, c1, hwl, hwn, c2, hxi, hw1, hxj, hli, hlj, c3n, List.replicate_zero, fills, e4, hlj2, hyi, hst2, hw2, pr _ _, e5]
    exact ⟨_, _, _, rfl, re.on o3 f2, w5, re.fre o3 f2⟩
end
end Go.Proofs.Ytlbagejkjkfkjaa.A
/- Ranges are split and moved, the reference's way. -/
namespace Go.Proofs.Ytlbagejkjkfkjaa.A
open Go
set_option linter.unusedSimpArgs false
set_option linter.unusedVariables false
/-- A cut in the course of a loop. -/
def lcut {α : Type} (zs : List α) (p q : α) (k i : Nat) : List α := if k < i then zs.take k ++ [p, q] ++ (zs.take i).drop (k + 1) else zs.take i
section
variable {α : Type} {zs : List α} {p q : α}
theorem lcut_next {k i : Nat} (hi : i < zs.length) (h : i ≠ k) : lcut zs p q k (i + 1) = lcut zs p q k i ++ [zs[i]] := by
  simp only [lcut]
  rcases Nat.lt_or_gt_of_ne h with h | h
  · rw [if_neg (by omega), if_neg (by omega), List.take_add_one, List.getElem?_eq_getElem hi]; rfl
  · rw [if_pos (by omega), if_pos h, List.take_add_one, List.getElem?_eq_getElem hi, List.drop_append_of_le_length (by rw [List.length_take]; omega), ← List.append_assoc]; rfl
theorem lcut_at {i : Nat} (hi : i < zs.length) : lcut zs p q i (i + 1) = lcut zs p q i i ++ [p] ++ [q] := by
  simp only [lcut]
  rw [if_pos (by omega), if_neg (by omega), List.drop_eq_nil_of_le (by rw [List.length_take]; omega)]
  simp
theorem lcut_end {k : Nat} (h : k < zs.length) : lcut zs p q k zs.length = zs.take k ++ [p, q] ++ zs.drop (k + 1) := by
  simp only [lcut]; rw [if_pos h, List.take_length]
theorem lcut_len (zs : List α) (p q : α) (k i : Nat) : (lcut zs p q k i).length ≤ zs.length + 2 := by
  simp only [lcut]
  split <;> simp only [List.length_append, List.length_take, List.length_drop, List.length_cons, List.length_nil] <;> omega
end
section
variable {F : Nat → Option RF} {Z : CallF} {h hp : Heap} {x : Cell} {xs : List Range} {fp : List Nat}
set_option maxHeartbeats 2000000 in
theorem sSplitRange_c (hS : Has F tS01d) (hS11 : Has F tS11) (hf : h.floor ≤ h.next) (w : SlR 7 (Fl Range.enc) h x xs fp) (a g : Int) (ha : 0 ≤ a ∧ a ≤ 18446744073709551615) (hok : ∀ t, t ∈ xs → t.Ok) (sm : xs.length ≤ 1048576) :
    ∃ y h' fq, call F Z 221 [.c x, .c (.int .u64 a), .c (.int .i64 g)] h = some (.tup [.c y, .c (.bool (splitRg xs a g).2)], h') ∧ On h h' ∧ SlR 7 (Fl Range.enc) h' y (splitRg xs a g).1 fq ∧ Fre h fq := by
  have e1 := sFindRange_run (Z := Z) hS hS11 w hok a
  have e2 := fun h => l01In_run (Z := Z) hS g 0 99 h
  have hwl := w.len
  have hle := w.le2
  rw [call_run F Z (hS11.lk (g := 221) rfl) _ _ rfl]
  cases hr : rangesOk xs with
  | false =>
    rw [hr, cond_false] at e1
    rw [split_bad (by simp [hr])]
    simp only [run0, run1, run2, run3, run4, noSlot, ownS, ownK, memN, RO.dst, lk, drop, forget, number, Nat.reduceBEq, cut?, splice?, builds, List.length_cons, List.length_nil, List.drop_succ_cons, List.drop_zero, List.take_succ_cons, List.take_zero, List.cons_append, List.nil_append, List.append_nil, List.drop_nil, List.take_nil, Nat.reduceAdd, Nat.reduceLeDiff, Nat.zero_add, Nat.add_zero, ↓reduceIte, Bool.not_true, Bool.not_false, decide_true, decide_false, eq_self, bne_self_eq_false, List.getElem?_cons_zero, List.getElem?_cons_succ, decide_eq_true_eq, Bool.false_eq_true, Bool.true_eq_false, reduceCtorEq, Nat.le_refl, e1, Int.reduceLT, Int.reduceNeg]
    exact ⟨_, _, _, rfl, On.refl h, SlR.nil _ _ _, Fre.nil h⟩
  | true =>
    obtain ⟨k, hk, q1, q2, q3, q4⟩ := (rangesOk_fit hr).has ha.1 ha.2
    rw [hr, cond_true, q2] at e1
    have g0 : ¬ (k : Int) < 0 := by omega
    have hxk := w.idx hk
    have hlk := w.load hk
    rw [← at_get hk] at hlk
    simp only [Range.enc] at hlk
    by_cases c1 : (Range.at_ xs k).lo = a
    · have c1' : ((Range.at_ xs k).lo == a) = true := by simpa using c1
      have hd : splitRg xs a g = ([], false) := by
        cases hb : (rangesOk xs && (inR g 0 99 && !((xs.length : Int) == 24))) with
        | false => exact split_bad hb
        | true => rw [split_at hb q1, c1']; rfl
      rw [hd]
      simp only [run0, run1, run2, run3, run4, noSlot, ownS, ownK, memN, RO.dst, lk, drop, forget, number, Nat.reduceBEq, cut?, splice?, builds, List.length_cons, List.length_nil, List.drop_succ_cons, List.drop_zero, List.take_succ_cons, List.take_zero, List.cons_append, List.nil_append, List.append_nil, List.drop_nil, List.take_nil, Nat.reduceAdd, Nat.reduceLeDiff, Nat.zero_add, Nat.add_zero, ↓reduceIte, Bool.not_true, Bool.not_false, decide_true, decide_false, eq_self, bne_self_eq_false, List.getElem?_cons_zero, List.getElem?_cons_succ, decide_eq_true_eq, Bool.false_eq_true, Bool.true_eq_false, reduceCtorEq, Nat.le_refl, e1, g0, hxk, hlk, c1']
      exact ⟨_, _, _, rfl, On.refl h, SlR.nil _ _ _, Fre.nil h⟩
    have c1' : ((Range.at_ xs k).lo == a) = false := by simpa using c1
    cases hg : inR g 0 99 with
    | false =>
      rw [hg] at e2
      rw [split_bad (by simp [hg])]
      simp only [run0, run1, run2, run3, run4, noSlot, ownS, ownK, memN, RO.dst, lk, drop, forget, number, Nat.reduceBEq, cut?, splice?, builds, List.length_cons, List.length_nil, List.drop_succ_cons, List.drop_zero, List.take_succ_cons, List.take_zero, List.cons_append, List.nil_append, List.append_nil, List.drop_nil, List.take_nil, Nat.reduceAdd, Nat.reduceLeDiff, Nat.zero_add, Nat.add_zero, ↓reduceIte, Bool.not_true, Bool.not_false, decide_true, decide_false, eq_self, bne_self_eq_false, List.getElem?_cons_zero, List.getElem?_cons_succ, decide_eq_true_eq, Bool.false_eq_true, Bool.true_eq_false, reduceCtorEq, Nat.le_refl, e1, e2, g0, hxk, hlk, c1']
      exact ⟨_, _, _, rfl, On.refl h, SlR.nil _ _ _, Fre.nil h⟩
    | true =>
      rw [hg] at e2
      cases hl : ((xs.length : Int) == 24) with
      | true =>
        rw [split_bad (by simp [hl])]
        simp only [run0, run1, run2, run3, run4, noSlot, ownS, ownK, memN, RO.dst, lk, drop, forget, number, Nat.reduceBEq, cut?, splice?, builds, List.length_cons, List.length_nil, List.drop_succ_cons, List.drop_zero, List.take_succ_cons, List.take_zero, List.cons_append, List.nil_append, List.append_nil, List.drop_nil, List.take_nil, Nat.reduceAdd, Nat.reduceLeDiff, Nat.zero_add, Nat.add_zero, ↓reduceIte, Bool.not_true, Bool.not_false, decide_true, decide_false, eq_self, bne_self_eq_false, List.getElem?_cons_zero, List.getElem?_cons_succ, decide_eq_true_eq, Bool.false_eq_true, Bool.true_eq_false, reduceCtorEq, Nat.le_refl, e1, e2, g0, hxk, hlk, c1', hwl, hl]
        exact ⟨_, _, _, rfl, On.refl h, SlR.nil _ _ _, Fre.nil h⟩
      | false =>
        rw [split_at (by simp [hr, hg, hl]) q1, c1']
        simp only [cond_false]
        have hlo := (hok _ (List.getElem_mem hk)).lo
        rw [← at_get hk] at hlo
        have hwa : IntKind.u64.wrap (a - 1) = a - 1 := wrapU _ (by omega) (by omega)
        have hl24 : xs.length ≤ 24 := by
          simp only [rangesOk, inR, Bool.and_eq_true, decide_eq_true_eq] at hr; omega
        simp only [run0, run1, run2, run3, run4, noSlot, ownS, ownK, memN, RO.dst, lk, drop, forget, number, Nat.reduceBEq, cut?, splice?, builds, List.length_cons, List.length_nil, List.drop_succ_cons, List.drop_zero, List.take_succ_cons, List.take_zero, List.cons_append, List.nil_append, List.append_nil, List.drop_nil, List.take_nil, Nat.reduceAdd, Nat.reduceLeDiff, Nat.zero_add, Nat.add_zero, ↓reduceIte, Bool.not_true, Bool.not_false, decide_true, decide_false, eq_self, bne_self_eq_false, List.getElem?_cons_zero, List.getElem?_cons_succ, decide_eq_true_eq, Bool.false_eq_true, Bool.true_eq_false, reduceCtorEq, Nat.le_refl, e1, e2, g0, hxk, hlk, c1', hwl, hl, List.replicate_zero, fills]
        obtain ⟨s', ⟨y, gH, hs, ac⟩, lp⟩ := loop_goes (F := F) (Z := Z) (live := [0, 1, 2, 8, 9, 10]) (b := r221L0) xs.length (fun i st => ∃ y gH, st = ⟨[(0, .c x), (1, .c (.int .u64 a)), (2, .c (.int .i64 g)), (8, .c (.int .i64 (k : Nat))), (9, .c y), (10, .c (.int .i64 (i : Nat)))], [], [], gH⟩ ∧ Acc 7 h gH y ((lcut xs ⟨(Range.at_ xs k).lo, a - 1, (Range.at_ xs k).group⟩ ⟨a, (Range.at_ xs k).hi, g⟩ k i).map Range.enc)) (fun i st hi ⟨y, gH, hs, ac⟩ => by
          subst hs
          have hlt : (i : Int) < xs.length := by omega
          have hws := wrapS i (by omega)
          have hxi := w.idx hi
          have hpl := lcut_len xs ⟨(Range.at_ xs k).lo, a - 1, (Range.at_ xs k).group⟩ ⟨a, (Range.at_ xs k).hi, g⟩ k i
          have hld := (w.on (Fl.ok _) ac.on).load hi
          rw [loop_run]
          conv in (codeF _ _ r221L0 _) => unfold r221L0
          by_cases hik : i = k
          · subst hik
            have hself : ((i : Int) != (i : Int)) = false := by simp
            rw [← at_get hk] at hld
            have e3 := ac.one_eq hf (bytes := 24) (by rw [List.length_map]; omega) (⟨(Range.at_ xs i).lo, a - 1, (Range.at_ xs i).group⟩ : Range).enc
            have a2 := ac.one hf (by rw [List.length_map]; omega) (⟨(Range.at_ xs i).lo, a - 1, (Range.at_ xs i).group⟩ : Range).enc
            have hld2 := (w.on (Fl.ok _) a2.on).load hi
            rw [← at_get hk] at hld2
            have e4 := a2.one_eq hf (bytes := 24) (by simp; omega) (⟨a, (Range.at_ xs i).hi, g⟩ : Range).enc
            have a3 := a2.one hf (by simp; omega) (⟨a, (Range.at_ xs i).hi, g⟩ : Range).enc
            rw [show (lcut xs ⟨(Range.at_ xs i).lo, a - 1, (Range.at_ xs i).group⟩ ⟨a, (Range.at_ xs i).hi, g⟩ i i).map Range.enc ++ [(⟨(Range.at_ xs i).lo, a - 1, (Range.at_ xs i).group⟩ : Range).enc] ++ [(⟨a, (Range.at_ xs i).hi, g⟩ : Range).enc] = (lcut xs ⟨(Range.at_ xs i).lo, a - 1, (Range.at_ xs i).group⟩ ⟨a, (Range.at_ xs i).hi, g⟩ i (i + 1)).map Range.enc from by rw [lcut_at hi]; simp] at a3
            simp only [Range.enc] at hld hld2 e3 e4 a3
            simp only [run0, run1, run2, run3, run4, noSlot, ownS, ownK, memN, RO.dst, lk, drop, forget, number, Nat.reduceBEq, cut?, splice?, builds, List.length_cons, List.length_nil, List.drop_succ_cons, List.drop_zero, List.take_succ_cons, List.take_zero, List.cons_append, List.nil_append, List.append_nil, List.drop_nil, List.take_nil, Nat.reduceAdd, Nat.reduceLeDiff, Nat.zero_add, Nat.add_zero, ↓reduceIte, Bool.not_true, Bool.not_false, decide_true, decide_false, eq_self, bne_self_eq_false, List.getElem?_cons_zero, List.getElem?_cons_succ, decide_eq_true_eq, Bool.false_eq_true, Bool.true_eq_false, reduceCtorEq, Nat.le_refl, hwl, hlt, hxi, hself, hld, hwa, List.replicate_succ, List.replicate_zero, fills, and_self, Nat.zero_lt_one, List.set_cons_zero, e3, hld2, e4, hws, Range.enc]
            exact ⟨_, ⟨_, _, rfl, a3⟩, rfl⟩
          · have hne0 : ¬ (i : Int) = (k : Int) := by omega
            have hne : ((i : Int) != (k : Int)) = true := by simpa using hne0
            have e3 := ac.one_eq hf (bytes := 24) (by rw [List.length_map]; omega) xs[i].enc
            have a2 := ac.one hf (by rw [List.length_map]; omega) xs[i].enc
            rw [show (lcut xs ⟨(Range.at_ xs k).lo, a - 1, (Range.at_ xs k).group⟩ ⟨a, (Range.at_ xs k).hi, g⟩ k i).map Range.enc ++ [xs[i].enc] = (lcut xs ⟨(Range.at_ xs k).lo, a - 1, (Range.at_ xs k).group⟩ ⟨a, (Range.at_ xs k).hi, g⟩ k (i + 1)).map Range.enc from by rw [lcut_next hi hik]; simp] at a2
            simp only [Range.enc] at hld e3 a2
            simp only [run0, run1, run2, run3, run4, noSlot, ownS, ownK, memN, RO.dst, lk, drop, forget, number, Nat.reduceBEq, cut?, splice?, builds, List.length_cons, List.length_nil, List.drop_succ_cons, List.drop_zero, List.take_succ_cons, List.take_zero, List.cons_append, List.nil_append, List.append_nil, List.drop_nil, List.take_nil, Nat.reduceAdd, Nat.reduceLeDiff, Nat.zero_add, Nat.add_zero, ↓reduceIte, Bool.not_true, Bool.not_false, decide_true, decide_false, eq_self, bne_self_eq_false, List.getElem?_cons_zero, List.getElem?_cons_succ, decide_eq_true_eq, Bool.false_eq_true, Bool.true_eq_false, reduceCtorEq, Nat.le_refl, hwl, hlt, hxi, hne, hld, List.replicate_succ, List.replicate_zero, fills, and_self, Nat.zero_lt_one, List.set_cons_zero, e3, hws, Range.enc]
            exact ⟨_, ⟨_, _, rfl, a2⟩, rfl⟩) (s := ⟨[(0, .c x), (1, .c (.int .u64 a)), (2, .c (.int .i64 g)), (8, .c (.int .i64 (k : Nat))), (9, .c (.sl 7 h.next 0 0)), (10, .c (.int .i64 (0 : Nat)))], [], [], h.push []⟩) ⟨_, _, rfl, by simpa [lcut] using Acc.lit0 (tag := 7) (On.refl h)⟩
        subst hs
        rw [lcut_end hk] at ac
        obtain ⟨o3, fr, w3, f3⟩ := ac.flat (enc := Range.enc)
        simp only [show ((0 : Nat) : Int) = 0 from rfl] at lp
        have hlt : ¬ (xs.length : Int) < xs.length := by omega
        rw [lp, loop_run]
        conv in (codeF _ _ r221L0 _) => unfold r221L0
        simp only [run0, run1, run2, run3, run4, noSlot, ownS, ownK, memN, RO.dst, lk, drop, forget, number, Nat.reduceBEq, cut?, splice?, builds, List.length_cons, List.length_nil, List.drop_succ_cons, List.drop_zero, List.take_succ_cons, List.take_zero, List.cons_append, List.nil_append, List.append_nil, List.drop_nil, List.take_nil, Nat.reduceAdd, Nat.reduceLeDiff, Nat.zero_add, Nat.add_zero, ↓reduceIte, Bool.not_true, Bool.not_false, decide_true, decide_false, eq_self, bne_self_eq_false, List.getElem?_cons_zero, List.getElem?_cons_succ, decide_eq_true_eq, Bool.false_eq_true, Bool.true_eq_false, reduceCtorEq, Nat.le_refl, hwl, hlt]
        exact ⟨_, _, _, rfl, o3, w3, f3⟩
end
end Go.Proofs.Ytlbagejkjkfkjaa.A
/- Ranges are merged and moved, the reference's way. -/
namespace Go.Proofs.Ytlbagejkjkfkjaa.A
open Go
set_option linter.unusedSimpArgs false
set_option linter.unusedVariables false
def moveRg (xs : List Range) (k g : Int) : List Range × Bool := bif rangesOk xs && (inR k 0 ((xs.length : Int) - 1) && inR g 0 99) then (xs.set k.toNat ⟨(Range.at_ xs k.toNat).lo, (Range.at_ xs k.toNat).hi, g⟩, true) else ([], false)
theorem move_bad_ {xs : List Range} {k g : Int} (h : (rangesOk xs && (inR k 0 ((xs.length : Int) - 1) && inR g 0 99)) = false) : moveRg xs k g = ([], false) := by simp [moveRg, h]
theorem move_yes_ {xs : List Range} {k g : Int} (h : (rangesOk xs && (inR k 0 ((xs.length : Int) - 1) && inR g 0 99)) = true) : moveRg xs k g = (xs.set k.toNat ⟨(Range.at_ xs k.toNat).lo, (Range.at_ xs k.toNat).hi, g⟩, true) := by simp [moveRg, h]
def mpart (xs : List Range) (r : Range) (k i : Nat) : List Range := if i ≤ k + 1 then xs.take i else (xs.set k r).take (k + 1) ++ (xs.take i).drop (k + 2)
section
variable {xs : List Range} {r : Range}
theorem mpart_lo {k i : Nat} (hi : i < xs.length) (h : i ≤ k) : mpart xs r k (i + 1) = mpart xs r k i ++ [xs[i]] := by
  simp only [mpart]
  rw [if_pos (by omega), if_pos (by omega), List.take_add_one, List.getElem?_eq_getElem hi]; rfl
theorem mpart_at {k : Nat} (hk : k + 1 < xs.length) : mpart xs r k (k + 1 + 1) = (mpart xs r k (k + 1)).set k r := by
  simp only [mpart]
  rw [if_neg (by omega), if_pos (Nat.le_refl _), List.drop_eq_nil_of_le (by rw [List.length_take]; omega), List.append_nil, List.take_set]
theorem mpart_hi {k i : Nat} (hi : i < xs.length) (h : k + 1 < i) : mpart xs r k (i + 1) = mpart xs r k i ++ [xs[i]] := by
  simp only [mpart]
  have ht : xs.take (i + 1) = xs.take i ++ [xs[i]] := by rw [List.take_add_one, List.getElem?_eq_getElem hi]; rfl
  rw [if_neg (by omega), if_neg (by omega), ht, List.drop_append_of_le_length (by rw [List.length_take]; omega), ← List.append_assoc]
theorem mpart_end {k : Nat} (hk : k + 1 < xs.length) : mpart xs r k xs.length = (xs.set k r).eraseIdx (k + 1) := by
  simp only [mpart]
  split
  · omega
  · rw [List.take_length, List.eraseIdx_eq_take_drop_succ, List.drop_set_of_lt (by omega)]
theorem mpart_len (k i : Nat) : (mpart xs r k i).length ≤ xs.length + 1 := by
  simp only [mpart]
  split <;> simp only [List.length_append, List.length_take, List.length_drop, List.length_set] <;> omega
end
section
variable {F : Nat → Option RF} {Z : CallF} {h hp : Heap} {x : Cell} {xs : List Range} {fp : List Nat}
/-- A store into what was gathered. -/
theorem Acc.putRow {g : Heap} {y : Cell} {rows : List (List Cell)} (a : Acc 7 h g y rows) (hf : h.floor ≤ h.next) {k : Nat} (hk : k < rows.length) :
    (∀ j n, loadP g y.sid k j n = cut? rows[k] j n) ∧ idxR 7 (some y) (some (k : Int)) = some (.ptr y.sid k 0) ∧ ∀ j new r', splice? rows[k] j new = some r' → ∃ g', storeP g y.sid k j new = some g' ∧ Acc 7 h g' y (rows.set k r') := by
  obtain ⟨o, fp, w, f⟩ := a
  obtain ⟨r, f2, rws, hR, hs, hld, hself, hst, hl2, fin⟩ := w.putRow (Fl.ok _) f.nd (f.own o hf) hk
  obtain ⟨rfl, rfl⟩ := hR
  refine ⟨hld, w.idx hk, fun j new r' hs => ?_⟩
  have h1 := hst rows[k] j new
  rw [hself, hs] at h1
  obtain ⟨u, m⟩ := fin r' r' ⟨rfl, rfl⟩
  exact ⟨_, h1, o.turned m f, fp, u, f⟩
set_option maxHeartbeats 2000000 in
theorem sMergeRange_c (hS : Has F tS01d) (hS11 : Has F tS11) (hf : h.floor ≤ h.next) (w : SlR 7 (Fl Range.enc) h x xs fp) (k : Int) (hok : ∀ t, t ∈ xs → t.Ok) (sm : xs.length ≤ 1048576) :
    ∃ y h' fq, call F Z 222 [.c x, .c (.int .i64 k)] h = some (.tup [.c y, .c (.bool (mergeRg xs k).2)], h') ∧ On h h' ∧ SlR 7 (Fl Range.enc) h' y (mergeRg xs k).1 fq ∧ Fre h fq := by
  have e1 := sRangesOk_run (Z := Z) hS hS11 (w.up (Fl.ok _) h.next) hok
  have e2 := fun h => l01In_run (Z := Z) hS k 0 ((xs.length : Int) - 2) h
  have hwl := w.len
  have hle := w.le2
  rw [call_run F Z (hS11.lk (g := 222) rfl) _ _ rfl]
  cases hr : rangesOk xs with
  | false =>
    rw [hr] at e1
    rw [merge_bad (by simp [hr])]
    simp only [run0, run1, run2, run3, run4, noSlot, ownS, ownK, memN, RO.dst, lk, drop, forget, number, Nat.reduceBEq, cut?, splice?, builds, List.length_cons, List.length_nil, List.drop_succ_cons, List.drop_zero, List.take_succ_cons, List.take_zero, List.cons_append, List.nil_append, List.append_nil, List.drop_nil, List.take_nil, Nat.reduceAdd, Nat.reduceLeDiff, Nat.zero_add, Nat.add_zero, ↓reduceIte, Bool.not_true, Bool.not_false, decide_true, decide_false, eq_self, bne_self_eq_false, List.getElem?_cons_zero, List.getElem?_cons_succ, decide_eq_true_eq, Bool.false_eq_true, Bool.true_eq_false, reduceCtorEq, Nat.le_refl, e1]
    exact ⟨_, _, _, rfl, On.refl h, SlR.nil _ _ _, Fre.nil h⟩
  | true =>
    rw [hr] at e1
    have hl1 : 1 ≤ xs.length := (rangesOk_fit hr).pos
    have hwn : IntKind.i64.wrap ((xs.length : Int) - 2) = (xs.length : Int) - 2 := wrapI _ (by omega) (by omega)
    cases hin : inR k 0 ((xs.length : Int) - 2) with
    | false =>
      rw [hin] at e2
      have hd : mergeRg xs k = ([], false) := by
        have hn : ¬ (0 ≤ k ∧ k ≤ (xs.length : Int) - 2) := fun hc => by simp [inR, hc.1, hc.2] at hin
        apply merge_bad
        by_cases h0 : 0 ≤ k
        · have : ¬ k < (xs.length : Int) - 1 := by omega
          simp [this]
        · simp [h0]
      rw [hd]
      simp only [run0, run1, run2, run3, run4, noSlot, ownS, ownK, memN, RO.dst, lk, drop, forget, number, Nat.reduceBEq, cut?, splice?, builds, List.length_cons, List.length_nil, List.drop_succ_cons, List.drop_zero, List.take_succ_cons, List.take_zero, List.cons_append, List.nil_append, List.append_nil, List.drop_nil, List.take_nil, Nat.reduceAdd, Nat.reduceLeDiff, Nat.zero_add, Nat.add_zero, ↓reduceIte, Bool.not_true, Bool.not_false, decide_true, decide_false, eq_self, bne_self_eq_false, List.getElem?_cons_zero, List.getElem?_cons_succ, decide_eq_true_eq, Bool.false_eq_true, Bool.true_eq_false, reduceCtorEq, Nat.le_refl, e1, hwl, hwn, e2]
      exact ⟨_, _, _, rfl, On.refl h, SlR.nil _ _ _, Fre.nil h⟩
    | true =>
      rw [hin] at e2
      simp only [inR, Bool.and_eq_true, decide_eq_true_eq] at hin
      obtain ⟨i, hi⟩ : ∃ i : Nat, k = (i : Int) := ⟨k.toNat, by omega⟩
      have hk : i < xs.length := by omega
      have hk1 : i + 1 < xs.length := by omega
      have hxi := w.idx hk
      have hxj := w.idx hk1
      have hli := w.load hk
      have hlj := w.load hk1
      rw [← at_get hk] at hli
      rw [← at_get hk1] at hlj
      simp only [Range.enc] at hli hlj
      have hw1 : IntKind.i64.wrap (k + 1) = ((i + 1 : Nat) : Int) := by rw [hi]; exact wrapS i (by omega)
      by_cases c3 : (Range.at_ xs i).group = (Range.at_ xs (i + 1)).group
      case neg =>
        have c3n : ((Range.at_ xs i).group != (Range.at_ xs (i + 1)).group) = true := by simpa using c3
        have c3' : ((Range.at_ xs i).group == (Range.at_ xs (i + 1)).group) = false := by simpa using c3
        rw [merge_bad (by rw [hi]; simp [c3'])]
        subst hi
        simp only [run0, run1, run2, run3, run4, noSlot, ownS, ownK, memN, RO.dst, lk, drop, forget, number, Nat.reduceBEq, cut?, splice?, builds, List.length_cons, List.length_nil, List.drop_succ_cons, List.drop_zero, List.take_succ_cons, List.take_zero, List.cons_append, List.nil_append, List.append_nil, List.drop_nil, List.take_nil, Nat.reduceAdd, Nat.reduceLeDiff, Nat.zero_add, Nat.add_zero, ↓reduceIte, Bool.not_true, Bool.not_false, decide_true, decide_false, eq_self, bne_self_eq_false, List.getElem?_cons_zero, List.getElem?_cons_succ, decide_eq_true_eq, Bool.false_eq_true, Bool.true_eq_false, reduceCtorEq, Nat.le_refl, e1, hwl, hwn, e2, hxi, hw1, hxj, hli, hlj, c3n]
        exact ⟨_, _, _, rfl, On.refl h, SlR.nil _ _ _, Fre.nil h⟩
      have c3n : ((Range.at_ xs i).group != (Range.at_ xs (i + 1)).group) = false := by simpa using c3
      rw [merge_yes hr hi (by omega) c3]
      have hl24 : xs.length ≤ 24 := by
        simp only [rangesOk, inR, Bool.and_eq_true, decide_eq_true_eq] at hr; omega
      subst hi
      simp only [run0, run1, run2, run3, run4, noSlot, ownS, ownK, memN, RO.dst, lk, drop, forget, number, Nat.reduceBEq, cut?, splice?, builds, List.length_cons, List.length_nil, List.drop_succ_cons, List.drop_zero, List.take_succ_cons, List.take_zero, List.cons_append, List.nil_append, List.append_nil, List.drop_nil, List.take_nil, Nat.reduceAdd, Nat.reduceLeDiff, Nat.zero_add, Nat.add_zero, ↓reduceIte, Bool.not_true, Bool.not_false, decide_true, decide_false, eq_self, bne_self_eq_false, List.getElem?_cons_zero, List.getElem?_cons_succ, decide_eq_true_eq, Bool.false_eq_true, Bool.true_eq_false, reduceCtorEq, Nat.le_refl, e1, hwl, hwn, e2, hxi, hw1, hxj, hli, hlj, c3n, List.replicate_zero, fills]
      obtain ⟨s', ⟨y, gH, hs, ac⟩, lp⟩ := loop_goes (F := F) (Z := Z) (live := [0, 1, 6, 7]) (b := r222L0) xs.length (fun j st => ∃ y gH, st = ⟨[(0, .c x), (1, .c (.int .i64 (i : Nat))), (6, .c y), (7, .c (.int .i64 (j : Nat)))], [], [], gH⟩ ∧ Acc 7 h gH y ((mpart xs ⟨(Range.at_ xs i).lo, (Range.at_ xs (i + 1)).hi, (Range.at_ xs i).group⟩ i j).map Range.enc)) (fun j st hj ⟨y, gH, hs, ac⟩ => by
        subst hs
        have hlt : (j : Int) < xs.length := by omega
        have hws := wrapS j (by omega)
        have hxj := w.idx hj
        have hpl := mpart_len (xs := xs) (r := ⟨(Range.at_ xs i).lo, (Range.at_ xs (i + 1)).hi, (Range.at_ xs i).group⟩) i j
        have hld := (w.on (Fl.ok _) ac.on).load hj
        rw [loop_run]
        conv in (codeF _ _ r222L0 _) => unfold r222L0
        by_cases hjk : j = i + 1
        · subst hjk
          have hself : (((i + 1 : Nat) : Int) == ((i + 1 : Nat) : Int)) = true := by simp
          rw [← at_get hk1] at hld
          have hmi : mpart xs ⟨(Range.at_ xs i).lo, (Range.at_ xs (i + 1)).hi, (Range.at_ xs i).group⟩ i (i + 1) = xs.take (i + 1) := by simp [mpart]
          have hlm : i < ((mpart xs ⟨(Range.at_ xs i).lo, (Range.at_ xs (i + 1)).hi, (Range.at_ xs i).group⟩ i (i + 1)).map Range.enc).length := by rw [hmi, List.length_map, List.length_take]; omega
          have hrow : ((mpart xs ⟨(Range.at_ xs i).lo, (Range.at_ xs (i + 1)).hi, (Range.at_ xs i).group⟩ i (i + 1)).map Range.enc)[i] = (Range.at_ xs i).enc := by
            simp only [List.getElem_map, hmi, List.getElem_take]
            exact congrArg Range.enc (at_get hk).symm
          obtain ⟨a1, a2, a3⟩ := ac.putRow hf hlm
          rw [hrow] at a3
          obtain ⟨g', a4, a5⟩ := a3 1 [.int .u64 (Range.at_ xs (i + 1)).hi] (⟨(Range.at_ xs i).lo, (Range.at_ xs (i + 1)).hi, (Range.at_ xs i).group⟩ : Range).enc rfl
          rw [show ((mpart xs ⟨(Range.at_ xs i).lo, (Range.at_ xs (i + 1)).hi, (Range.at_ xs i).group⟩ i (i + 1)).map Range.enc).set i (⟨(Range.at_ xs i).lo, (Range.at_ xs (i + 1)).hi, (Range.at_ xs i).group⟩ : Range).enc = (mpart xs ⟨(Range.at_ xs i).lo, (Range.at_ xs (i + 1)).hi, (Range.at_ xs i).group⟩ i (i + 1 + 1)).map Range.enc from by rw [mpart_at hk1, List.map_set]] at a5
          simp only [Range.enc] at hld
          simp only [run0, run1, run2, run3, run4, noSlot, ownS, ownK, memN, RO.dst, lk, drop, forget, number, Nat.reduceBEq, cut?, splice?, builds, List.length_cons, List.length_nil, List.drop_succ_cons, List.drop_zero, List.take_succ_cons, List.take_zero, List.cons_append, List.nil_append, List.append_nil, List.drop_nil, List.take_nil, Nat.reduceAdd, Nat.reduceLeDiff, Nat.zero_add, Nat.add_zero, ↓reduceIte, Bool.not_true, Bool.not_false, decide_true, decide_false, eq_self, bne_self_eq_false, List.getElem?_cons_zero, List.getElem?_cons_succ, decide_eq_true_eq, Bool.false_eq_true, Bool.true_eq_false, reduceCtorEq, Nat.le_refl, hwl, hlt, hxj, hw1, hself, hld, a2, a4, hws]
          exact ⟨_, ⟨_, _, rfl, a5⟩, rfl⟩
        · have hne0 : ¬ (j : Int) = ((i + 1 : Nat) : Int) := by omega
          have hne : ((j : Int) == ((i + 1 : Nat) : Int)) = false := by simpa using hne0
          have e3 := ac.one_eq hf (bytes := 24) (by rw [List.length_map]; omega) xs[j].enc
          have a2 := ac.one hf (by rw [List.length_map]; omega) xs[j].enc
          rw [show (mpart xs ⟨(Range.at_ xs i).lo, (Range.at_ xs (i + 1)).hi, (Range.at_ xs i).group⟩ i j).map Range.enc ++ [xs[j].enc] = (mpart xs ⟨(Range.at_ xs i).lo, (Range.at_ xs (i + 1)).hi, (Range.at_ xs i).group⟩ i (j + 1)).map Range.enc from by
            rcases Nat.lt_or_ge i j with hij | hij
            · rw [mpart_hi hj (by omega)]; simp
            · rw [mpart_lo hj hij]; simp] at a2
          simp only [Range.enc] at hld e3 a2
          simp only [run0, run1, run2, run3, run4, noSlot, ownS, ownK, memN, RO.dst, lk, drop, forget, number, Nat.reduceBEq, cut?, splice?, builds, List.length_cons, List.length_nil, List.drop_succ_cons, List.drop_zero, List.take_succ_cons, List.take_zero, List.cons_append, List.nil_append, List.append_nil, List.drop_nil, List.take_nil, Nat.reduceAdd, Nat.reduceLeDiff, Nat.zero_add, Nat.add_zero, ↓reduceIte, Bool.not_true, Bool.not_false, decide_true, decide_false, eq_self, bne_self_eq_false, List.getElem?_cons_zero, List.getElem?_cons_succ, decide_eq_true_eq, Bool.false_eq_true, Bool.true_eq_false, reduceCtorEq, Nat.le_refl, hwl, hlt, hxj, hw1, hne, hld, List.replicate_succ, List.replicate_zero, fills, and_self, Nat.zero_lt_one, List.set_cons_zero, e3, hws, Range.enc]
          exact ⟨_, ⟨_, _, rfl, a2⟩, rfl⟩) (s := ⟨[(0, .c x), (1, .c (.int .i64 (i : Nat))), (6, .c (.sl 7 h.next 0 0)), (7, .c (.int .i64 (0 : Nat)))], [], [], h.push []⟩) ⟨_, _, rfl, by simpa [mpart] using Acc.lit0 (tag := 7) (On.refl h)⟩
      subst hs
      rw [mpart_end hk1] at ac
      obtain ⟨o3, fr, w3, f3⟩ := ac.flat (enc := Range.enc)
      simp only [show ((0 : Nat) : Int) = 0 from rfl] at lp
      have hlt : ¬ (xs.length : Int) < xs.length := by omega
      rw [lp, loop_run]
      conv in (codeF _ _ r222L0 _) => unfold r222L0
      simp only [run0, run1, run2, run3, run4, noSlot, ownS, ownK, memN, RO.dst, lk, drop, forget, number, Nat.reduceBEq, cut?, splice?, builds, List.length_cons, List.length_nil, List.drop_succ_cons, List.drop_zero, List.take_succ_cons, List.take_zero, List.cons_append, List.nil_append, List.append_nil, List.drop_nil, List.take_nil, Nat.reduceAdd, Nat.reduceLeDiff, Nat.zero_add, Nat.add_zero, ↓reduceIte, Bool.not_true, Bool.not_false, decide_true, decide_false, eq_self, bne_self_eq_false, List.getElem?_cons_zero, List.getElem?_cons_succ, decide_eq_true_eq, Bool.false_eq_true, Bool.true_eq_false, reduceCtorEq, Nat.le_refl, hwl, hlt]
      exact ⟨_, _, _, rfl, o3, w3, f3⟩
set_option maxHeartbeats 2000000 in
theorem sMoveRange_c (hS : Has F tS01d) (hS11 : Has F tS11) (hf : h.floor ≤ h.next) (w : SlR 7 (Fl Range.enc) h x xs fp) (k g : Int) (hok : ∀ t, t ∈ xs → t.Ok) (sm : xs.length ≤ 1048576) :
    ∃ y h' fq, call F Z 223 [.c x, .c (.int .i64 k), .c (.int .i64 g)] h = some (.tup [.c y, .c (.bool (moveRg xs k g).2)], h') ∧ On h h' ∧ SlR 7 (Fl Range.enc) h' y (moveRg xs k g).1 fq ∧ Fre h fq := by
  have e1 := sRangesOk_run (Z := Z) hS hS11 w hok
  have e2 := fun h => l01In_run (Z := Z) hS k 0 ((xs.length : Int) - 1) h
  have e3 := fun h => l01In_run (Z := Z) hS g 0 99 h
  have hwl := w.len
  have hle := w.le2
  rw [call_run F Z (hS11.lk (g := 223) rfl) _ _ rfl]
  cases hr : rangesOk xs with
  | false =>
    rw [hr] at e1
    rw [move_bad_ (by simp [hr])]
    simp only [run0, run1, run2, run3, run4, noSlot, ownS, ownK, memN, RO.dst, lk, drop, forget, number, Nat.reduceBEq, cut?, splice?, builds, List.length_cons, List.length_nil, List.drop_succ_cons, List.drop_zero, List.take_succ_cons, List.take_zero, List.cons_append, List.nil_append, List.append_nil, List.drop_nil, List.take_nil, Nat.reduceAdd, Nat.reduceLeDiff, Nat.zero_add, Nat.add_zero, ↓reduceIte, Bool.not_true, Bool.not_false, decide_true, decide_false, eq_self, bne_self_eq_false, List.getElem?_cons_zero, List.getElem?_cons_succ, decide_eq_true_eq, Bool.false_eq_true, Bool.true_eq_false, reduceCtorEq, Nat.le_refl, e1]
    exact ⟨_, _, _, rfl, On.refl h, SlR.nil _ _ _, Fre.nil h⟩
  | true =>
    rw [hr] at e1
    have hl1 : 1 ≤ xs.length := (rangesOk_fit hr).pos
    have hwn : IntKind.i64.wrap ((xs.length : Int) - 1) = (xs.length : Int) - 1 := wrapI _ (by omega) (by omega)
    cases hin : inR k 0 ((xs.length : Int) - 1) with
    | false =>
      rw [hin] at e2
      rw [move_bad_ (by simp [hin])]
      simp only [run0, run1, run2, run3, run4, noSlot, ownS, ownK, memN, RO.dst, lk, drop, forget, number, Nat.reduceBEq, cut?, splice?, builds, List.length_cons, List.length_nil, List.drop_succ_cons, List.drop_zero, List.take_succ_cons, List.take_zero, List.cons_append, List.nil_append, List.append_nil, List.drop_nil, List.take_nil, Nat.reduceAdd, Nat.reduceLeDiff, Nat.zero_add, Nat.add_zero, ↓reduceIte, Bool.not_true, Bool.not_false, decide_true, decide_false, eq_self, bne_self_eq_false, List.getElem?_cons_zero, List.getElem?_cons_succ, decide_eq_true_eq, Bool.false_eq_true, Bool.true_eq_false, reduceCtorEq, Nat.le_refl, e1, hwl, hwn, e2]
      exact ⟨_, _, _, rfl, On.refl h, SlR.nil _ _ _, Fre.nil h⟩
    | true =>
      rw [hin] at e2
      cases hg : inR g 0 99 with
      | false =>
        rw [hg] at e3
        rw [move_bad_ (by simp [hg])]
        simp only [run0, run1, run2, run3, run4, noSlot, ownS, ownK, memN, RO.dst, lk, drop, forget, number, Nat.reduceBEq, cut?, splice?, builds, List.length_cons, List.length_nil, List.drop_succ_cons, List.drop_zero, List.take_succ_cons, List.take_zero, List.cons_append, List.nil_append, List.append_nil, List.drop_nil, List.take_nil, Nat.reduceAdd, Nat.reduceLeDiff, Nat.zero_add, Nat.add_zero, ↓reduceIte, Bool.not_true, Bool.not_false, decide_true, decide_false, eq_self, bne_self_eq_false, List.getElem?_cons_zero, List.getElem?_cons_succ, decide_eq_true_eq, Bool.false_eq_true, Bool.true_eq_false, reduceCtorEq, Nat.le_refl, e1, hwl, hwn, e2, e3]
        exact ⟨_, _, _, rfl, On.refl h, SlR.nil _ _ _, Fre.nil h⟩
      | true =>
        rw [hg] at e3
        rw [move_yes_ (by simp [hr, hin, hg])]
        simp only [inR, Bool.and_eq_true, decide_eq_true_eq] at hin
        obtain ⟨i, hi⟩ : ∃ i : Nat, k = (i : Int) := ⟨k.toNat, by omega⟩
        subst hi
        simp only [Int.toNat_natCast]
        have hk : i < xs.length := by omega
        have hl24 : xs.length ≤ 24 := by
          simp only [rangesOk, inR, Bool.and_eq_true, decide_eq_true_eq] at hr; omega
        simp only [run0, run1, run2, run3, run4, noSlot, ownS, ownK, memN, RO.dst, lk, drop, forget, number, Nat.reduceBEq, cut?, splice?, builds, List.length_cons, List.length_nil, List.drop_succ_cons, List.drop_zero, List.take_succ_cons, List.take_zero, List.cons_append, List.nil_append, List.append_nil, List.drop_nil, List.take_nil, Nat.reduceAdd, Nat.reduceLeDiff, Nat.zero_add, Nat.add_zero, ↓reduceIte, Bool.not_true, Bool.not_false, decide_true, decide_false, eq_self, bne_self_eq_false, List.getElem?_cons_zero, List.getElem?_cons_succ, decide_eq_true_eq, Bool.false_eq_true, Bool.true_eq_false, reduceCtorEq, Nat.le_refl, e1, hwl, hwn, e2, e3, List.replicate_zero, fills]
        obtain ⟨s', ⟨y, gH, hs, ac⟩, lp⟩ := loop_goes (F := F) (Z := Z) (live := [0, 1, 2, 8, 9]) (b := r223L0) xs.length (fun j st => ∃ y gH, st = ⟨[(0, .c x), (1, .c (.int .i64 (i : Nat))), (2, .c (.int .i64 g)), (8, .c y), (9, .c (.int .i64 (j : Nat)))], [], [], gH⟩ ∧ Acc 7 h gH y (((xs.set i ⟨(Range.at_ xs i).lo, (Range.at_ xs i).hi, g⟩).take j).map Range.enc)) (fun j st hj ⟨y, gH, hs, ac⟩ => by
          subst hs
          have hlt : (j : Int) < xs.length := by omega
          have hws := wrapS j (by omega)
          have hxj := w.idx hj
          have hld := (w.on (Fl.ok _) ac.on).load hj
          have hj' : j < (xs.set i ⟨(Range.at_ xs i).lo, (Range.at_ xs i).hi, g⟩).length := by rw [List.length_set]; exact hj
          have hpl : ((xs.set i ⟨(Range.at_ xs i).lo, (Range.at_ xs i).hi, g⟩).take j).length ≤ xs.length := by rw [List.length_take, List.length_set]; omega
          have htk : (xs.set i ⟨(Range.at_ xs i).lo, (Range.at_ xs i).hi, g⟩).take (j + 1) = (xs.set i ⟨(Range.at_ xs i).lo, (Range.at_ xs i).hi, g⟩).take j ++ [(xs.set i ⟨(Range.at_ xs i).lo, (Range.at_ xs i).hi, g⟩)[j]] := by rw [List.take_add_one, List.getElem?_eq_getElem hj']; rfl
          rw [loop_run]
          conv in (codeF _ _ r223L0 _) => unfold r223L0
          by_cases hji : j = i
          · subst hji
            have hself : ((j : Int) == (j : Int)) = true := by simp
            rw [List.getElem_set_self] at htk
            rw [← at_get hk] at hld
            have e5 := ac.one_eq hf (bytes := 24) (by rw [List.length_map]; omega) (⟨(Range.at_ xs j).lo, (Range.at_ xs j).hi, g⟩ : Range).enc
            have a2 := ac.one hf (by rw [List.length_map]; omega) (⟨(Range.at_ xs j).lo, (Range.at_ xs j).hi, g⟩ : Range).enc
            rw [show ((xs.set j ⟨(Range.at_ xs j).lo, (Range.at_ xs j).hi, g⟩).take j).map Range.enc ++ [(⟨(Range.at_ xs j).lo, (Range.at_ xs j).hi, g⟩ : Range).enc] = ((xs.set j ⟨(Range.at_ xs j).lo, (Range.at_ xs j).hi, g⟩).take (j + 1)).map Range.enc from by rw [htk]; simp] at a2
            simp only [Range.enc] at hld e5 a2
            simp only [run0, run1, run2, run3, run4, noSlot, ownS, ownK, memN, RO.dst, lk, drop, forget, number, Nat.reduceBEq, cut?, splice?, builds, List.length_cons, List.length_nil, List.drop_succ_cons, List.drop_zero, List.take_succ_cons, List.take_zero, List.cons_append, List.nil_append, List.append_nil, List.drop_nil, List.take_nil, Nat.reduceAdd, Nat.reduceLeDiff, Nat.zero_add, Nat.add_zero, ↓reduceIte, Bool.not_true, Bool.not_false, decide_true, decide_false, eq_self, bne_self_eq_false, List.getElem?_cons_zero, List.getElem?_cons_succ, decide_eq_true_eq, Bool.false_eq_true, Bool.true_eq_false, reduceCtorEq, Nat.le_refl, hwl, hlt, hxj, hself, hld, List.replicate_succ, List.replicate_zero, fills, and_self, Nat.zero_lt_one, List.set_cons_zero, e5, hws, Range.enc]
            exact ⟨_, ⟨_, _, rfl, a2⟩, rfl⟩
          · have hne0 : ¬ (j : Int) = (i : Int) := by omega
            have hne : ((j : Int) == (i : Int)) = false := by simpa using hne0
            rw [List.getElem_set_ne (Ne.symm hji)] at htk
            have e5 := ac.one_eq hf (bytes := 24) (by rw [List.length_map]; omega) xs[j].enc
            have a2 := ac.one hf (by rw [List.length_map]; omega) xs[j].enc
            rw [show ((xs.set i ⟨(Range.at_ xs i).lo, (Range.at_ xs i).hi, g⟩).take j).map Range.enc ++ [xs[j].enc] = ((xs.set i ⟨(Range.at_ xs i).lo, (Range.at_ xs i).hi, g⟩).take (j + 1)).map Range.enc from by rw [htk]; simp] at a2
            simp only [Range.enc] at hld e5 a2
            simp only [run0, run1, run2, run3, run4, noSlot, ownS, ownK, memN, RO.dst, lk, drop, forget, number, Nat.reduceBEq, cut?, splice?, builds, List.length_cons, List.length_nil, List.drop_succ_cons, List.drop_zero, List.take_succ_cons, List.take_zero, List.cons_append, List.nil_append, List.append_nil, List.drop_nil, List.take_nil, Nat.reduceAdd, Nat.reduceLeDiff, Nat.zero_add, Nat.add_zero, ↓reduceIte, Bool.not_true, Bool.not_false, decide_true, decide_false, eq_self, bne_self_eq_false, List.getElem?_cons_zero, List.getElem?_cons_succ, decide_eq_true_eq, Bool.false_eq_true, Bool.true_eq_false, reduceCtorEq, Nat.le_refl, hwl, hlt, hxj, hne, hld, List.replicate_succ, List.replicate_zero, fills, and_self, Nat.zero_lt_one, List.set_cons_zero, e5, hws, Range.enc]
            exact ⟨_, ⟨_, _, rfl, a2⟩, rfl⟩) (s := ⟨[(0, .c x), (1, .c (.int .i64 (i : Nat))), (2, .c (.int .i64 g)), (8, .c (.sl 7 h.next 0 0)), (9, .c (.int .i64 (0 : Nat)))], [], [], h.push []⟩) ⟨_, _, rfl, by simpa using Acc.lit0 (tag := 7) (On.refl h)⟩
        subst hs
        rw [List.take_of_length_le (by rw [List.length_set]; exact Nat.le_refl _)] at ac
        obtain ⟨o3, fr, w3, f3⟩ := ac.flat (enc := Range.enc)
        simp only [show ((0 : Nat) : Int) = 0 from rfl] at lp
        have hlt : ¬ (xs.length : Int) < xs.length := by omega
        rw [lp, loop_run]
        conv in (codeF _ _ r223L0 _) => unfold r223L0
        simp only [run0, run1, run2, run3, run4, noSlot, ownS, ownK, memN, RO.dst, lk, drop, forget, number, Nat.reduceBEq, cut?, splice?, builds, List.length_cons, List.length_nil, List.drop_succ_cons, List.drop_zero, List.take_succ_cons, List.take_zero, List.cons_append, List.nil_append, List.append_nil, List.drop_nil, List.take_nil, Nat.reduceAdd, Nat.reduceLeDiff, Nat.zero_add, Nat.add_zero, ↓reduceIte, Bool.not_true, Bool.not_false, decide_true, decide_false, eq_self, bne_self_eq_false, List.getElem?_cons_zero, List.getElem?_cons_succ, decide_eq_true_eq, Bool.false_eq_true, Bool.true_eq_false, reduceCtorEq, Nat.le_refl, hwl, hlt]
        exact ⟨_, _, _, rfl, o3, w3, f3⟩
end
end Go.Proofs.Ytlbagejkjkfkjaa.A
/- Whether an id has moved, by the program. -/
namespace Go.Proofs.Ytlbagejkjkfkjaa.A
open Go
set_option linter.unusedSimpArgs false
set_option linter.unusedVariables false
section
variable {F : Nat → Option RF} {Z : CallF} {h : Heap} {cs cs' : List Cell} {c d : Chart} {fp fq : List Nat}
theorem MovedBetween_run (hI11 : Has F tI11) (hI12 : Has F tI12) (hLi : Has F tLibslicesIndexFuncimplRangeimplRange) (v : Chart.RI h cs c fp) (u : Chart.RI h cs' d fq) (ok : c.Ok) (ok' : d.Ok) {id : Int} (g0 : 0 ≤ id) (g1 : id ≤ 18446744073709551615) :
    ∃ h', call F Z 74 [.agg cs, .agg cs', .c (.int .u64 id)] h = some (.c (.bool (c.moved d id)), h') ∧ On h h' := by
  obtain ⟨_, k1, e1, m1, o1⟩ := isChart_q (Z := Z) hI11 hI12 hLi v ok
  obtain ⟨_, k2, e2, m2, o2⟩ := isChart_q (Z := Z) hI11 hI12 hLi (Chart.okI.mono u o1.ext) ok'
  rw [o1.fl] at m2
  obtain ⟨x, p, rfl, rfl, w⟩ := v
  obtain ⟨x', p', rfl, rfl, w'⟩ := u
  rw [call_run F Z (hI12.lk (g := 74) rfl) _ _ rfl]
  have o12 := o1.trans o2
  cases hg : c.good with
  | false =>
    rw [hg] at e1
    simp only [run0, run1, run2, run3, run4, noSlot, ownS, ownK, memN, RO.dst, lk, drop, forget, number, Nat.reduceBEq, cut?, splice?, builds, List.length_cons, List.length_nil, List.drop_succ_cons, List.drop_zero, List.take_succ_cons, List.take_zero, List.cons_append, List.nil_append, List.append_nil, List.drop_nil, List.take_nil, Nat.reduceAdd, Nat.reduceLeDiff, Nat.zero_add, Nat.add_zero, ↓reduceIte, Bool.not_true, Bool.not_false, decide_true, decide_false, eq_self, bne_self_eq_false, List.getElem?_cons_zero, List.getElem?_cons_succ, decide_eq_true_eq, Bool.false_eq_true, Bool.true_eq_false, reduceCtorEq, Nat.le_refl, e1, m1]
    exact ⟨_, by simp [Chart.moved, hg], o1⟩
  | true =>
    rw [hg] at e1
    cases hg' : d.good with
    | false =>
      rw [hg'] at e2
      have f1 := o1.fl
      simp only [run0, run1, run2, run3, run4, noSlot, ownS, ownK, memN, RO.dst, lk, drop, forget, number, Nat.reduceBEq, cut?, splice?, builds, List.length_cons, List.length_nil, List.drop_succ_cons, List.drop_zero, List.take_succ_cons, List.take_zero, List.cons_append, List.nil_append, List.append_nil, List.drop_nil, List.take_nil, Nat.reduceAdd, Nat.reduceLeDiff, Nat.zero_add, Nat.add_zero, ↓reduceIte, Bool.not_true, Bool.not_false, decide_true, decide_false, eq_self, bne_self_eq_false, List.getElem?_cons_zero, List.getElem?_cons_succ, decide_eq_true_eq, Bool.false_eq_true, Bool.true_eq_false, reduceCtorEq, Nat.le_refl, e1, m1, e2, f1, m2]
      exact ⟨_, by simp [Chart.moved, hg, hg'], o12⟩
    | true =>
      rw [hg'] at e2
      obtain ⟨i, hi, q1, _, q2, _, _⟩ := Chart.has (c := c) (Chart.good_ranges hg) g0 g1
      obtain ⟨i', hi', q1', _, q2', _, _⟩ := Chart.has (c := d) (Chart.good_ranges hg') g0 g1
      obtain ⟨_, k3, e3, m3, o3⟩ := findRange_q (Z := Z) hI11 hLi (w.on (Fl.ok _) o12) id
      have o13 := o12.trans o3
      obtain ⟨_, k4, e4, m4, o4⟩ := findRange_q (Z := Z) hI11 hLi (w'.on (Fl.ok _) o13) id
      rw [o12.fl] at m3
      rw [o13.fl] at m4
      rw [q1] at e3
      rw [q1'] at e4
      have f1 := o1.fl
      have f2 := o12.fl
      have f3 := o13.fl
      have l3 : ∀ j n, loadP k3 x.sid i j n = cut? (Range.at_ c.ranges i).enc j n := (w.on (Fl.ok _) o13).loadD Range.none_ hi
      have l4 : ∀ j n, loadP k4 x'.sid i' j n = cut? (Range.at_ d.ranges i').enc j n := (w'.on (Fl.ok _) (o13.trans o4)).loadD Range.none_ hi'
      simp only [run0, run1, run2, run3, run4, noSlot, ownS, ownK, memN, RO.dst, lk, drop, forget, number, Nat.reduceBEq, cut?, splice?, builds, List.length_cons, List.length_nil, List.drop_succ_cons, List.drop_zero, List.take_succ_cons, List.take_zero, List.cons_append, List.nil_append, List.append_nil, List.drop_nil, List.take_nil, Nat.reduceAdd, Nat.reduceLeDiff, Nat.zero_add, Nat.add_zero, ↓reduceIte, Bool.not_true, Bool.not_false, decide_true, decide_false, eq_self, bne_self_eq_false, List.getElem?_cons_zero, List.getElem?_cons_succ, decide_eq_true_eq, Bool.false_eq_true, Bool.true_eq_false, reduceCtorEq, Nat.le_refl, e1, m1, e2, f1, m2, e3, f2, m3, e4, f3, m4, l3, l4, w.idx hi, w'.idx hi', Range.enc]
      exact ⟨_, by simp [Chart.moved, hg, hg', q2, q2'], o13.trans o4⟩
end
end Go.Proofs.Ytlbagejkjkfkjaa.A
/- Routes, as the laws need them. -/
namespace Go.Proofs.Ytlbagejkjkfkjaa.A
open Go
set_option linter.unusedSimpArgs false
set_option linter.unusedVariables false
section
variable {F : Nat → Option RF} {Z : CallF} {h : Heap} {cs cs' : List Cell} {c d : Chart} {fp fq : List Nat}
theorem RouteOf_c (hI11 : Has F tI11) (hI12 : Has F tI12) (hLi : Has F tLibslicesIndexFuncimplRangeimplRange) (hf : h.floor ≤ h.next) (v : Chart.RI h cs c fp) (id : Int) (ok : c.Ok) (g : 0 ≤ id ∧ id ≤ 18446744073709551615) :
    ∃ h', call F Z 70 [.agg cs, .c (.int .u64 id)] h = some (.tup [.c (.int .i64 (c.route id).1), .c (.int .i64 (c.route id).2)], h') ∧ On h h' := RouteOf_run hI11 hI12 hLi v ok g.1 g.2
theorem sRouteOf_c (hS : Has F tS01d) (hS11 : Has F tS11) (hS12 : Has F tS12) (hf : h.floor ≤ h.next) (v : Chart.RI h cs c fp) (id : Int) (ok : c.Ok) (g : 0 ≤ id ∧ id ≤ 18446744073709551615) :
    ∃ h', call F Z 69 [.agg cs, .c (.int .u64 id)] h = some (.tup [.c (.int .i64 (c.route id).1), .c (.int .i64 (c.route id).2)], h') ∧ On h h' := sRouteOf_run hS hS11 hS12 v ok g.1 g.2
theorem MovedBetween_c (hI11 : Has F tI11) (hI12 : Has F tI12) (hLi : Has F tLibslicesIndexFuncimplRangeimplRange) (hf : h.floor ≤ h.next) (v : Chart.RI h cs c fp) (u : Chart.RI h cs' d fq) (id : Int) (ok : c.Ok) (ok' : d.Ok) (g : 0 ≤ id ∧ id ≤ 18446744073709551615) :
    ∃ h', call F Z 74 [.agg cs, .agg cs', .c (.int .u64 id)] h = some (.c (.bool (c.moved d id)), h') ∧ On h h' := MovedBetween_run hI11 hI12 hLi v u ok ok' g.1 g.2
theorem sMovedBetween_c (hS : Has F tS01d) (hS11 : Has F tS11) (hS12 : Has F tS12) (hf : h.floor ≤ h.next) (v : Chart.RI h cs c fp) (u : Chart.RI h cs' d fq) (id : Int) (ok : c.Ok) (ok' : d.Ok) (g : 0 ≤ id ∧ id ≤ 18446744073709551615) :
    ∃ h', call F Z 73 [.agg cs, .agg cs', .c (.int .u64 id)] h = some (.c (.bool (c.moved d id)), h') ∧ On h h' := sMovedBetween_run hS hS11 hS12 v u ok ok' g.1 g.2
end
end Go.Proofs.Ytlbagejkjkfkjaa.A
