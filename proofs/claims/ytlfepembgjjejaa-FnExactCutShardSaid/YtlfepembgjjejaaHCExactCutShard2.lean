/- The functions that the statement reaches, part 2: bodies and what they compute. No condition. -/
import Derived.Test.YtlfepembgjjejaaHCExactCutShard1
import Derived.Test.YtlfepembgjjejaaB5
import Derived.Test.YtlfepembgjjejaaD
/- Slices that show data: relations between cells of a heap and data, with their footprints; loops by their turns. -/
namespace Go.Proofs.Ytlfepembgjjejaa.A
open Go
set_option linter.unusedSimpArgs false
set_option linter.unusedVariables false

/-! ### numbers -/
theorem wrapI (z : Int) (h1 : -9223372036854775808 ≤ z) (h2 : z ≤ 9223372036854775807) : IntKind.i64.wrap z = z := by
  show (if (true && decide (z % 18446744073709551616 ≥ 9223372036854775808)) = true then z % 18446744073709551616 - 18446744073709551616 else z % 18446744073709551616) = z
  simp only [Bool.true_and, decide_eq_true_eq]
  split <;> omega
theorem wrapU (z : Int) (h1 : 0 ≤ z) (h2 : z ≤ 18446744073709551615) : IntKind.u64.wrap z = z := by
  show (if (false && decide (z % 18446744073709551616 ≥ 9223372036854775808)) = true then z % 18446744073709551616 - 18446744073709551616 else z % 18446744073709551616) = z
  rw [if_neg (by simp)]
  omega
theorem wrapS (i : Nat) (h : i < 9223372036854775807) : IntKind.i64.wrap ((i : Int) + 1) = ((i + 1 : Nat) : Int) := by rw [wrapI _ (by omega) (by omega)]; rfl

/-! ### cells that show data -/
/-- Cells of a heap show data; the rows that they lie in. -/
abbrev Rel (α : Type) := Heap → List Cell → α → List Nat → Prop
structure RelOk {α : Type} (R : Rel α) : Prop where
  lt : ∀ {h cs a fp}, R h cs a fp → ∀ id, id ∈ fp → id < h.next
  mv : ∀ {h h' cs a fp}, R h cs a fp → h.next ≤ h'.next → (∀ id, id ∈ fp → h'.get id = h.get id) → R h' cs a fp
def Fl {α : Type} (enc : α → List Cell) : Rel α := fun _ cs a fp => cs = enc a ∧ fp = []
theorem Fl.ok {α : Type} (enc : α → List Cell) : RelOk (Fl enc) where
  lt := by rintro h cs a fp ⟨rfl, rfl⟩ id hid; cases hid
  mv := fun e _ _ => e
def AllR {α : Type} (R : Rel α) (h : Heap) : List (List Cell) → List α → List (List Nat) → Prop
  | [], [], [] => True
  | r :: rs, a :: bs, f :: fs => R h r a f ∧ AllR R h rs bs fs
  | _, _, _ => False
def Cell.sid : Cell → Nat
  | .sl _ id _ _ => id
  | _ => 0
/-- A cell shows a list. -/
def SlR {α : Type} (tag : Nat) (R : Rel α) (h : Heap) (x : Cell) (xs : List α) (fp : List Nat) : Prop :=
  xs.length ≤ maxLen ∧ ((x = .nil ∧ xs = [] ∧ fp = []) ∨ ∃ id rows fps, x = .sl tag id 0 xs.length ∧ h.get id = some rows ∧ id < h.next ∧ fp = id :: fps.flatten ∧ AllR R h rows xs fps)

section
variable {α : Type} {R : Rel α} {h h' : Heap}
theorem AllR.len : ∀ {rows : List (List Cell)} {xs : List α} {fps : List (List Nat)}, AllR R h rows xs fps → rows.length = xs.length
  | [], [], [], _ => rfl
  | _ :: _, _ :: _, _ :: _, ⟨_, w⟩ => by simp only [List.length_cons, AllR.len w]
  | [], [], _ :: _, w => w.elim
  | [], _ :: _, _, w => w.elim
  | _ :: _, [], _, w => w.elim
  | _ :: _, _ :: _, [], w => w.elim
theorem AllR.at : ∀ {rows : List (List Cell)} {xs : List α} {fps : List (List Nat)}, AllR R h rows xs fps → ∀ (i : Nat) (hi : i < xs.length), ∃ r f, rows[i]? = some r ∧ fps[i]? = some f ∧ R h r xs[i] f
  | [], [], [], _ => fun i hi => absurd hi (Nat.not_lt_zero _)
  | r :: _, _ :: _, f :: _, ⟨w1, w⟩ => fun i hi => by
    cases i with
    | zero => exact ⟨r, f, rfl, rfl, w1⟩
    | succ i => exact AllR.at w i (by simpa using hi)
  | [], [], _ :: _, w => w.elim
  | [], _ :: _, _, w => w.elim
  | _ :: _, [], _, w => w.elim
  | _ :: _, _ :: _, [], w => w.elim
theorem AllR.mv (ok : RelOk R) : ∀ {rows : List (List Cell)} {xs : List α} {fps : List (List Nat)}, AllR R h rows xs fps → h.next ≤ h'.next → (∀ id, id ∈ fps.flatten → h'.get id = h.get id) → AllR R h' rows xs fps
  | [], [], [], _ => fun _ _ => trivial
  | _ :: _, _ :: _, _ :: _, ⟨w1, w⟩ => fun hn hg => ⟨ok.mv w1 hn fun id hid => hg id (by simp [hid]), w.mv ok hn fun id hid => hg id (by rw [List.flatten_cons]; exact List.mem_append_right _ hid)⟩
  | [], [], _ :: _, w => w.elim
  | [], _ :: _, _, w => w.elim
  | _ :: _, [], _, w => w.elim
  | _ :: _, _ :: _, [], w => w.elim
theorem AllR.lt (ok : RelOk R) : ∀ {rows : List (List Cell)} {xs : List α} {fps : List (List Nat)}, AllR R h rows xs fps → ∀ id, id ∈ fps.flatten → id < h.next
  | [], [], [], _ => fun id hid => by simp at hid
  | _ :: _, _ :: _, _ :: _, ⟨w1, w⟩ => fun id hid => by
    rw [List.flatten_cons] at hid
    rcases List.mem_append.1 hid with hid | hid
    · exact ok.lt w1 id hid
    · exact w.lt ok id hid
  | [], [], _ :: _, w => w.elim
  | [], _ :: _, _, w => w.elim
  | _ :: _, [], _, w => w.elim
  | _ :: _, _ :: _, [], w => w.elim
theorem AllR.flat {enc : α → List Cell} : ∀ {rows : List (List Cell)} {xs : List α} {fps : List (List Nat)}, AllR (Fl enc) h rows xs fps → rows = xs.map enc ∧ fps.flatten = []
  | [], [], [], _ => ⟨rfl, rfl⟩
  | _ :: _, _ :: _, _ :: _, ⟨⟨rfl, rfl⟩, w⟩ => ⟨by rw [w.flat.1]; rfl, by rw [List.flatten_cons, w.flat.2]; rfl⟩
  | [], [], _ :: _, w => w.elim
  | [], _ :: _, _, w => w.elim
  | _ :: _, [], _, w => w.elim
  | _ :: _, _ :: _, [], w => w.elim
theorem AllR.ofFlat {enc : α → List Cell} : ∀ (xs : List α), AllR (Fl enc) h (xs.map enc) xs (xs.map fun _ => [])
  | [] => trivial
  | _ :: r => ⟨⟨rfl, rfl⟩, AllR.ofFlat r⟩
variable {tag : Nat} {x : Cell} {xs : List α} {fp : List Nat}
theorem SlR.le (w : SlR tag R h x xs fp) : xs.length ≤ maxLen := w.1
theorem SlR.le2 (w : SlR tag R h x xs fp) : xs.length ≤ 9223372036854775807 := by have := w.1; unfold maxLen at this; omega
theorem SlR.lt (ok : RelOk R) (w : SlR tag R h x xs fp) : ∀ id, id ∈ fp → id < h.next := by
  rcases w with ⟨_, ⟨_, _, rfl⟩ | ⟨id, rows, fps, _, _, h1, rfl, h2⟩⟩
  · intro id hid; cases hid
  · intro i hi
    rcases List.mem_cons.1 hi with rfl | hi
    · exact h1
    · exact h2.lt ok i hi
theorem SlR.mv (ok : RelOk R) (w : SlR tag R h x xs fp) (hn : h.next ≤ h'.next) (hg : ∀ id, id ∈ fp → h'.get id = h.get id) : SlR tag R h' x xs fp := by
  rcases w with ⟨hl, ⟨h1, h2, rfl⟩ | ⟨id, rows, fps, h1, h2, h3, rfl, h4⟩⟩
  · exact ⟨hl, .inl ⟨h1, h2, rfl⟩⟩
  · exact ⟨hl, .inr ⟨id, rows, fps, h1, (hg id (by simp)).trans h2, Nat.lt_of_lt_of_le h3 hn, rfl, h4.mv ok hn fun i hi => hg i (by simp [hi])⟩⟩
theorem SlR.mono (ok : RelOk R) (w : SlR tag R h x xs fp) (hx : HExt h h') : SlR tag R h' x xs fp := w.mv ok hx.1 fun id hid => hx.2 id (w.lt ok id hid)
theorem RelOk.mono (ok : RelOk R) {cs : List Cell} {a : α} (w : R h cs a fp) (hx : HExt h h') : R h' cs a fp := ok.mv w hx.1 fun id hid => hx.2 id (ok.lt w id hid)
theorem SlR.len (w : SlR tag R h x xs fp) : lenR (some x) = some (.int .i64 (xs.length : Nat)) := by
  rcases w with ⟨_, ⟨rfl, rfl, _⟩ | ⟨id, rows, fps, rfl, _⟩⟩ <;> rfl
theorem SlR.idx (w : SlR tag R h x xs fp) {i : Nat} (hi : i < xs.length) : idxR tag (some x) (some (i : Int)) = some (.ptr x.sid i 0) := by
  rcases w with ⟨_, ⟨rfl, rfl, _⟩ | ⟨id, rows, fps, rfl, _⟩⟩
  · exact absurd hi (Nat.not_lt_zero _)
  · rw [idxR_s, if_pos (by omega)]; simp [Cell.sid]
theorem SlR.row (w : SlR tag R h x xs fp) {i : Nat} (hi : i < xs.length) : ∃ r f, rowOf h x.sid i = some r ∧ R h r xs[i] f ∧ ∀ id, id ∈ f → id ∈ fp := by
  rcases w with ⟨_, ⟨rfl, rfl, _⟩ | ⟨id, rows, fps, rfl, h1, _, rfl, h2⟩⟩
  · exact absurd hi (Nat.not_lt_zero _)
  · obtain ⟨r, f, q1, q2, q3⟩ := h2.at i hi
    refine ⟨r, f, by simp [rowOf, Cell.sid, h1, q1], q3, fun id hid => List.mem_cons_of_mem _ (List.mem_flatten.2 ⟨f, List.mem_of_getElem? q2, hid⟩)⟩
theorem SlR.flat {enc : α → List Cell} (w : SlR tag (Fl enc) h x xs fp) : (x = .nil ∧ xs = [] ∧ fp = []) ∨ x = .sl tag x.sid 0 xs.length ∧ h.get x.sid = some (xs.map enc) ∧ x.sid < h.next ∧ fp = [x.sid] := by
  rcases w with ⟨_, h0 | ⟨id, rows, fps, rfl, h1, h2, rfl, h3⟩⟩
  · exact .inl h0
  · obtain ⟨rfl, h4⟩ := h3.flat
    exact .inr ⟨rfl, h1, h2, by rw [h4]; rfl⟩
theorem SlR.ofFlat {enc : α → List Cell} (hl : xs.length ≤ maxLen) {id : Nat} (h1 : h.get id = some (xs.map enc)) (h2 : id < h.next) : SlR tag (Fl enc) h (.sl tag id 0 xs.length) xs [id] :=
  ⟨hl, .inr ⟨id, _, _, rfl, h1, h2, by simp, AllR.ofFlat xs⟩⟩
theorem SlR.nil (tag : Nat) (R : Rel α) (h : Heap) : SlR tag R h .nil [] [] := ⟨Nat.zero_le _, .inl ⟨rfl, rfl, rfl⟩⟩
theorem SlR.load {enc : α → List Cell} (w : SlR tag (Fl enc) h x xs fp) {i : Nat} (hi : i < xs.length) (j n : Nat) : loadP h x.sid i j n = cut? (enc xs[i]) j n := by
  obtain ⟨r, f, h1, ⟨rfl, _⟩, _⟩ := w.row hi
  simp [loadP, h1]
theorem SlR.loadD {enc : α → List Cell} (w : SlR tag (Fl enc) h x xs fp) (d : α) {i : Nat} (hi : i < xs.length) (j n : Nat) : loadP h x.sid i j n = cut? (enc (xs[i]?.getD d)) j n := by
  rw [w.load hi, List.getElem?_eq_getElem hi]; rfl
theorem SlR.rows {enc : α → List Cell} (w : SlR tag (Fl enc) h x xs fp) : rowsOf h x = some (xs.map enc) := by
  rcases w.flat with ⟨rfl, rfl, _⟩ | ⟨h1, h2, _⟩
  · rfl
  · rw [h1]; simp only [rowsOf]; rw [h2]; simp [List.take_of_length_le]
theorem SlR.isTag (w : SlR tag R h x xs fp) : A.isTag tag x = true := by
  rcases w with ⟨_, ⟨rfl, rfl, _⟩ | ⟨id, rows, fps, rfl, _⟩⟩ <;> simp [A.isTag]
theorem AllR.ofWf {A : α → Prop} {W : List Cell → Prop} (hr : ∀ r, W r → ∃ a f, R h r a f ∧ A a) : ∀ (rows : List (List Cell)), (∀ r, r ∈ rows → W r) → ∃ xs fps, AllR R h rows xs fps ∧ ∀ a, a ∈ xs → A a
  | [], _ => ⟨[], [], trivial, fun _ h => nomatch h⟩
  | r :: rs, w => by
    obtain ⟨a, f, h1, h2⟩ := hr r (w r (by simp))
    obtain ⟨bs, fs, h3, h4⟩ := AllR.ofWf hr rs fun r hr => w r (by simp [hr])
    exact ⟨a :: bs, f :: fs, ⟨h1, h3⟩, fun b hb => by (rcases List.mem_cons.1 hb with rfl | hb); exact h2; exact h4 b hb⟩
theorem SlR.ofWf {A : α → Prop} {n sz : Nat} {e : Sh} (hr : ∀ r, r.length = sz ∧ Wf h n e r → ∃ a f, R h r a f ∧ A a) (w : Wf h (n + 1) (.slice tag sz e) [x]) : ∃ xs fp, SlR tag R h x xs fp ∧ ∀ a, a ∈ xs → A a := by
  rcases w with w | ⟨id, rows, h1, h2, h3, h4, h5⟩
  · cases w; exact ⟨[], [], SlR.nil _ _ _, fun _ h => nomatch h⟩
  · cases h1
    obtain ⟨xs, fps, q1, q2⟩ := AllR.ofWf hr rows h5
    exact ⟨xs, _, ⟨q1.len ▸ h4, .inr ⟨id, rows, fps, by rw [q1.len], h3, h2, rfl, q1⟩⟩, q2⟩
end

/-! ### the heap -/
theorem push_put (h : Heap) (a b : List (List Cell)) : (h.push a).put h.next b = h.push b := by
  simp only [Heap.push, Heap.put]
  congr 1; funext i; split <;> rfl
theorem push_get (h : Heap) (a : List (List Cell)) : (h.push a).get h.next = some a := by simp [Heap.push]
theorem push_next (h : Heap) (a : List (List Cell)) : (h.push a).next = h.next + 1 := rfl
theorem push_floor (h : Heap) (a : List (List Cell)) : (h.push a).floor = h.floor := rfl
theorem put_put (h : Heap) (id : Nat) (a b : List (List Cell)) : (h.put id a).put id b = h.put id b := by
  simp only [Heap.put]
  congr 1; funext i; split <;> rfl
theorem push_kill (h : Heap) (a : List (List Cell)) : (h.push a).kill h.next = { h with next := h.next + 1, get := fun i => if i = h.next then none else h.get i } := by
  simp only [Heap.push, Heap.kill]
  congr 1; funext i; split <;> rfl

theorem storeP_push {h : Heap} {rows : List (List Cell)} (hf : h.floor ≤ h.next) {i : Nat} {old new : List Cell} (h1 : rows[i]? = some old) (h2 : new.length = old.length) : storeP (h.push rows) h.next i 0 new = some (h.push (rows.set i new)) := by
  simp only [storeP, push_floor, push_get]
  rw [if_pos hf]
  simp only [Option.bind_some, h1, splice?, List.take_zero, List.nil_append, Nat.zero_add]
  rw [if_pos (by omega), h2, List.drop_length]
  simp only [List.append_nil, Option.bind_some, push_put]
/-- A store into a row that may be written. -/
theorem storeP_at {h : Heap} {id : Nat} {rows : List (List Cell)} (hf : h.floor ≤ id) (hr : h.get id = some rows) {i j : Nat} {old new r : List Cell} (h1 : rows[i]? = some old) (h2 : splice? old j new = some r) : storeP h id i j new = some (h.put id (rows.set i r)) := by
  simp only [storeP]
  rw [if_pos hf, hr]
  simp only [Option.bind_some, h1, h2]
theorem HExt.fl {h h' : Heap} (hx : HExt h h') (hf : h'.floor = h.floor) (h0 : h.floor ≤ h.next) : h'.floor ≤ h'.next := by rw [hf]; exact Nat.le_trans h0 hx.1

/-- The heap goes on: what was there is there. -/
structure On (h h' : Heap) : Prop where
  ext : HExt h h'
  fl : h'.floor = h.floor
theorem On.refl (h : Heap) : On h h := ⟨HExt.refl h, rfl⟩
theorem On.trans {a b c : Heap} (p : On a b) (q : On b c) : On a c := ⟨p.ext.trans q.ext, q.fl.trans p.fl⟩
theorem On.push (h : Heap) (rows : List (List Cell)) : On h (h.push rows) := ⟨HExt.push h rows, rfl⟩
theorem On.le {h h' : Heap} (o : On h h') (hf : h.floor ≤ h.next) : h'.floor ≤ h'.next := o.ext.fl o.fl hf
/-- Rows that were made behind h, each named once. -/
structure Fre (h : Heap) (fp : List Nat) : Prop where
  lo : ∀ id, id ∈ fp → h.next ≤ id
  nd : fp.Nodup
theorem Fre.one (h : Heap) : Fre h [h.next] := ⟨fun id hid => by simp at hid; omega, by simp⟩
theorem Fre.nil (h : Heap) : Fre h [] := ⟨fun id hid => (nomatch hid), List.nodup_nil⟩
theorem RelOk.on {α : Type} {R : Rel α} (ok : RelOk R) {h h' : Heap} {cs : List Cell} {a : α} {fp : List Nat} (w : R h cs a fp) (o : On h h') : R h' cs a fp := ok.mono w o.ext
theorem SlR.on {α : Type} {R : Rel α} {tag : Nat} {h h' : Heap} {x : Cell} {xs : List α} {fp : List Nat} (w : SlR tag R h x xs fp) (ok : RelOk R) (o : On h h') : SlR tag R h' x xs fp := w.mono ok o.ext

/-! ### rows that are filled one by one -/
def fillR {α : Type} (f : α → List Cell) (z : List Cell) (xs : List α) (i : Nat) : List (List Cell) := (xs.take i).map f ++ List.replicate (xs.length - i) z
theorem fillR_0 {α : Type} (f : α → List Cell) (z : List Cell) (xs : List α) : fillR f z xs 0 = List.replicate xs.length z := by simp [fillR]
theorem fillR_n {α : Type} (f : α → List Cell) (z : List Cell) (xs : List α) : fillR f z xs xs.length = xs.map f := by simp [fillR]
theorem fillR_get {α : Type} (f : α → List Cell) (z : List Cell) (xs : List α) {i : Nat} (hi : i < xs.length) : (fillR f z xs i)[i]? = some z := by
  simp only [fillR]
  rw [List.getElem?_append_right (by simp; omega)]
  rw [List.getElem?_replicate, if_pos]
  simp only [List.length_map, List.length_take]; omega
theorem fillR_set {α : Type} (f : α → List Cell) (z : List Cell) (xs : List α) {i : Nat} (hi : i < xs.length) : (fillR f z xs i).set i (f xs[i]) = fillR f z xs (i + 1) := by
  simp only [fillR]
  rw [List.set_append_right _ _ (by simp; omega), show i - ((xs.take i).map f).length = 0 from by simp; omega, show xs.length - i = (xs.length - (i + 1)) + 1 from by omega, List.replicate_succ, List.set_cons_zero,
    show xs.take (i + 1) = xs.take i ++ [xs[i]] from by rw [List.take_add_one, List.getElem?_eq_getElem hi]; rfl, List.map_append, List.append_assoc]
  rfl

/-! ### rows that are turned one by one, in place -/
def putM (h : Heap) (id : Nat) (rows : List (List Cell)) (i : Nat) : Option (List Cell) → Option Heap
  | some r => some (h.put id (rows.set i r))
  | none => none
theorem putM_s (h : Heap) (id : Nat) (rows : List (List Cell)) (i : Nat) (r : List Cell) : putM h id rows i (some r) = some (h.put id (rows.set i r)) := rfl
theorem storeP_put {h : Heap} {id : Nat} (hf : h.floor ≤ id) {rows : List (List Cell)} {i : Nat} (hi : i < rows.length) (old new : List Cell) (j : Nat) : storeP (h.put id (rows.set i old)) id i j new = putM h id rows i (splice? old j new) := by
  have hf' : (h.put id (rows.set i old)).floor ≤ id := hf
  have hg : (h.put id (rows.set i old)).get id = some (rows.set i old) := by simp [Heap.put]
  simp only [storeP]
  rw [if_pos hf', hg]
  simp only [Option.bind_some, List.getElem?_set_self hi]
  cases splice? old j new with
  | none => rfl
  | some r => simp only [Option.bind_some, List.set_set, put_put, putM]
theorem put_same {h : Heap} {id : Nat} {rows : List (List Cell)} (hr : h.get id = some rows) : h.put id rows = h := by
  obtain ⟨a, b, g⟩ := h
  simp only [Heap.put]
  congr 1; funext i; split
  · rename_i he; subst he; exact hr.symm
  · rfl
def mixR {α : Type} (f : α → List Cell) (ms xs : List α) (i : Nat) : List (List Cell) := (ms.take i).map f ++ (xs.drop i).map f
theorem mixR_0 {α : Type} (f : α → List Cell) (ms xs : List α) : mixR f ms xs 0 = xs.map f := by simp [mixR]
theorem mixR_n {α : Type} (f : α → List Cell) {ms xs : List α} (hl : ms.length = xs.length) : mixR f ms xs xs.length = ms.map f := by simp [mixR, ← hl]
theorem mixR_len {α : Type} (f : α → List Cell) {ms xs : List α} (hl : ms.length = xs.length) (i : Nat) : (mixR f ms xs i).length = xs.length := by simp [mixR]; omega
theorem mixR_split {α : Type} (f : α → List Cell) {ms xs : List α} (hl : ms.length = xs.length) {i : Nat} (hi : i < xs.length) (c : List Cell) : (mixR f ms xs i).set i c = (ms.take i).map f ++ c :: (xs.drop (i + 1)).map f := by
  simp only [mixR]
  rw [List.set_append_right _ _ (by simp; omega), show i - ((ms.take i).map f).length = 0 from by simp; omega, List.drop_eq_getElem_cons hi, List.map_cons, List.set_cons_zero]
theorem mixR_cur {α : Type} (f : α → List Cell) {ms xs : List α} (hl : ms.length = xs.length) {i : Nat} (hi : i < xs.length) : (mixR f ms xs i).set i (f xs[i]) = mixR f ms xs i := by
  rw [mixR_split f hl hi, mixR, List.drop_eq_getElem_cons hi]; rfl
theorem mixR_set {α : Type} (f : α → List Cell) {ms xs : List α} (hl : ms.length = xs.length) {i : Nat} (hi : i < xs.length) : (mixR f ms xs i).set i (f (ms[i]'(by omega))) = mixR f ms xs (i + 1) := by
  have hi' : i < ms.length := by omega
  rw [mixR_split f hl hi, mixR, show ms.take (i + 1) = ms.take i ++ [ms[i]] from by rw [List.take_add_one, List.getElem?_eq_getElem hi']; rfl, List.map_append, List.append_assoc]
  rfl
/-- Only these rows have turned. -/
structure Mk (h h' : Heap) (fp : List Nat) : Prop where
  next : h'.next = h.next
  fl : h'.floor = h.floor
  get : ∀ id, id ∉ fp → h'.get id = h.get id
theorem Mk.refl (h : Heap) (fp : List Nat) : Mk h h fp := ⟨rfl, rfl, fun _ _ => rfl⟩
theorem Mk.put (h : Heap) (id : Nat) (rows : List (List Cell)) : Mk h (h.put id rows) [id] := ⟨rfl, rfl, fun k hk => by simp only [Heap.put]; rw [if_neg (by simpa using hk)]⟩
theorem RelOk.mk' {α : Type} {R : Rel α} (ok : RelOk R) {h h' : Heap} {cs : List Cell} {a : α} {fp fq : List Nat} (w : R h cs a fp) (m : Mk h h' fq) (hd : ∀ id, id ∈ fp → id ∉ fq) : R h' cs a fp := ok.mv w (by rw [m.next]; exact Nat.le_refl _) fun id hid => m.get id (hd id hid)
theorem Mk.trans {a b c : Heap} {p q : List Nat} (m : Mk a b p) (n : Mk b c q) : Mk a c (p ++ q) := ⟨n.next.trans m.next, n.fl.trans m.fl, fun id hid => by
  rw [List.mem_append, not_or] at hid
  rw [n.get id hid.2, m.get id hid.1]⟩
theorem SlR.mk {α : Type} {R : Rel α} {tag : Nat} {h h' : Heap} {x : Cell} {xs : List α} {fp fq : List Nat} (w : SlR tag R h x xs fp) (ok : RelOk R) (m : Mk h h' fq) (hd : ∀ id, id ∈ fp → id ∉ fq) : SlR tag R h' x xs fp := w.mv ok (by rw [m.next]; exact Nat.le_refl _) fun id hid => m.get id (hd id hid)

/-! ### what integers may be -/
theorem wfU {x : Int} (h : (Lit.int .u64 x).wf = true) : 0 ≤ x ∧ x ≤ 18446744073709551615 := by
  simp only [Lit.wf, Bool.and_eq_true, decide_eq_true_eq] at h; exact h
theorem wfI {x : Int} (h : (Lit.int .i64 x).wf = true) : -9223372036854775808 ≤ x ∧ x ≤ 9223372036854775807 := by
  simp only [Lit.wf, Bool.and_eq_true, decide_eq_true_eq] at h; exact h
theorem wrapI1 (z : Int) (h1 : 0 ≤ z) (h2 : z ≤ 9200000000000000000) : IntKind.i64.wrap (z + 1) = z + 1 := wrapI _ (by omega) (by omega)
theorem wrapU1 (z : Int) (h1 : 0 ≤ z) (h2 : z ≤ 9200000000000000000) : IntKind.u64.wrap z = z := wrapU _ (by omega) (by omega)
theorem wrapII (z : Int) (h1 : 0 ≤ z) (h2 : z ≤ 9200000000000000000) : IntKind.i64.wrap z = z := wrapI _ (by omega) (by omega)
theorem b_rem (k : IntKind) (a b : Int) (h : b ≠ 0) : binF .rem (.int k a) (.int k b) = some (.int k (a.tmod b)) := by simp [binF, h]
theorem b_quo (k : IntKind) (a b : Int) (h : b ≠ 0) : binF .quo (.int k a) (.int k b) = some (.int k (k.wrap (a.tdiv b))) := by simp [binF, h]

/-! ### loops -/
/-- One turn goes on, or returns. -/
def Turn (r next : Option (Ex × St)) (p : Bool) (Q : St → Prop) : Prop := (p = true ∧ r = next) ∨ (p = false ∧ ∃ s, r = some (.ret, s) ∧ Q s)
section
variable {F : Nat → Option RF} {Z : CallF} {live : List Nat} {b : RC}
theorem loop_allN (n : Nat) (st : Nat → St) (P : Nat → Bool) (Q : St → Prop) (hs : ∀ i, i < n → Turn (loop F Z live b (st i)) (loop F Z live b (st (i + 1))) (P i) Q) :
    Turn (loop F Z live b (st 0)) (loop F Z live b (st n)) ((List.range n).all P) Q := by
  induction n with
  | zero => exact .inl ⟨rfl, rfl⟩
  | succ n ih =>
    have hl : (List.range (n + 1)).all P = ((List.range n).all P && P n) := by rw [List.range_succ, List.all_append]; simp
    rcases ih fun i hi => hs i (by omega) with ⟨h1, h2⟩ | ⟨h1, h2⟩
    · rcases hs n (by omega) with ⟨h3, h4⟩ | ⟨h3, s, h4, h5⟩
      · exact .inl ⟨by rw [hl, h1, h3]; rfl, h2.trans h4⟩
      · exact .inr ⟨by rw [hl, h1, h3]; rfl, s, h2.trans h4, h5⟩
    · exact .inr ⟨by rw [hl, h1]; rfl, h2⟩
theorem loop_all {α : Type} (xs : List α) (st : Nat → St) (P : α → Bool) (Q : St → Prop) (hs : ∀ i (hi : i < xs.length), Turn (loop F Z live b (st i)) (loop F Z live b (st (i + 1))) (P xs[i]) Q) :
    Turn (loop F Z live b (st 0)) (loop F Z live b (st xs.length)) (xs.all P) Q := by
  have he : xs.all P = (List.range xs.length).all (fun i => (xs[i]?).all P) := by
    rw [Bool.eq_iff_iff, List.all_eq_true, List.all_eq_true]
    constructor
    · intro h i hi
      have hi' : i < xs.length := by simpa using hi
      rw [List.getElem?_eq_getElem hi']
      exact h _ (List.getElem_mem hi')
    · intro h a ha
      obtain ⟨i, hi, rfl⟩ := List.mem_iff_getElem.1 ha
      have := h i (by simpa using hi)
      rwa [List.getElem?_eq_getElem hi] at this
  rw [he]
  exact loop_allN _ _ _ _ fun i hi => by rw [List.getElem?_eq_getElem hi]; exact hs i hi
theorem all_same {α : Type} [DecidableEq α] {xs ys : List α} (he : xs.length = ys.length) : (List.range xs.length).all (fun i => decide (xs[i]? = ys[i]?)) = decide (xs = ys) := by
  rw [Bool.eq_iff_iff, List.all_eq_true, decide_eq_true_eq]
  constructor
  · intro hall
    apply List.ext_getElem? 
    intro i
    by_cases hi : i < xs.length
    · simpa using hall i (by simpa using hi)
    · rw [List.getElem?_eq_none (by omega), List.getElem?_eq_none (by omega)]
  · rintro rfl i _; simp
/-- A loop of so many turns, none of which leaves. -/
theorem loop_goes (n : Nat) (I : Nat → St → Prop) (hs : ∀ i s, i < n → I i s → ∃ s', I (i + 1) s' ∧ loop F Z live b s = loop F Z live b s') {s : St} (h0 : I 0 s) : ∃ s', I n s' ∧ loop F Z live b s = loop F Z live b s' := by
  induction n with
  | zero => exact ⟨s, h0, rfl⟩
  | succ n ih =>
    obtain ⟨s1, h1, h2⟩ := ih fun i s hi => hs i s (by omega)
    obtain ⟨s2, h3, h4⟩ := hs n s1 (by omega) h1
    exact ⟨s2, h3, h2.trans h4⟩
theorem loop_goesF (n : Nat) (st : Nat → St) (hs : ∀ i, i < n → loop F Z live b (st i) = loop F Z live b (st (i + 1))) : loop F Z live b (st 0) = loop F Z live b (st n) := by
  induction n with
  | zero => rfl
  | succ n ih => exact (ih fun i hi => hs i (by omega)).trans (hs n (by omega))
end
end Go.Proofs.Ytlfepembgjjejaa.A
/- The data of a Fin, and its cells. -/
namespace Go.Proofs.Ytlfepembgjjejaa.A
open Go
set_option linter.unusedSimpArgs false
set_option linter.unusedVariables false
structure Fin where
  tx : Int
  id : Int
  deriving DecidableEq
namespace Fin
def enc (t : Fin) : List Cell := [.int .i64 t.tx, .int .u64 t.id]
theorem len (t : Fin) : t.enc.length = 2 := rfl
theorem tak (t : Fin) : t.enc.take 2 = t.enc := rfl
def none_ : Fin := ⟨0, 0⟩
/-- The numbers are those of the machine. -/
structure Ok (t : Fin) : Prop where
  tx : -9223372036854775808 ≤ t.tx ∧ t.tx ≤ 9223372036854775807
  id : 0 ≤ t.id ∧ t.id ≤ 18446744073709551615
end Fin
theorem Wf.isFin {h : Heap} {n : Nat} {cs : List Cell} (w : Wf h (n + 2) shFin cs) : ∃ t : Fin, cs = t.enc ∧ t.Ok := by
  obtain ⟨_, _, rfl, _, ⟨tx0, rfl, h0⟩, _, _, rfl, _, ⟨id0, rfl, h1⟩, rfl⟩ := w
  exact ⟨⟨tx0, id0⟩, rfl, ⟨wfI h0, wfU h1⟩⟩
theorem Wf.isFinS {h : Heap} {n : Nat} {x : Cell} (w : Wf h (n + 3) shFinS [x]) : ∃ xs fp, SlR 10 (Fl Fin.enc) h x xs fp ∧ ∀ t, t ∈ xs → t.Ok :=
  SlR.ofWf (fun r hr => by obtain ⟨t, rfl, ht⟩ := Wf.isFin hr.2; exact ⟨t, [], ⟨rfl, rfl⟩, ht⟩) w
theorem Wf.isFinS' {h : Heap} {n : Nat} {a : List Cell} (w : Wf h (n + 3) shFinS a) : ∃ x xs fp, a = [x] ∧ SlR 10 (Fl Fin.enc) h x xs fp ∧ ∀ t, t ∈ xs → t.Ok := by
  have hx : ∃ x, a = [x] := by rcases w with w | ⟨_, _, w, _⟩ <;> exact ⟨_, w⟩
  obtain ⟨x, rfl⟩ := hx
  obtain ⟨xs, fp, v, ok⟩ := Wf.isFinS w
  exact ⟨x, xs, fp, rfl, v, ok⟩
end Go.Proofs.Ytlfepembgjjejaa.A
/- What the converters of Fin compute. -/
namespace Go.Proofs.Ytlfepembgjjejaa.A
open Go
set_option linter.unusedSimpArgs false
set_option linter.unusedVariables false
section
variable {F : Nat → Option RF} {Z : CallF} {h : Heap} {x y : Cell} {xs ys : List Fin} {fp fq : List Nat}
def Fin.zero : List Cell := [.int .i64 0, .int .u64 0]
theorem toFin_run (hL : Has F tLFin) (p : Fin) (h : Heap) : call F Z 138 [.agg p.enc] h = some (.agg p.enc, h) := by
  rw [call_run F Z (hL.lk (g := 138) rfl) _ _ rfl]
  simp only [Fin.enc, run0, run1, run2, run3, run4, noSlot, ownS, ownK, memN, RO.dst, lk, drop, forget, number, Nat.reduceBEq, cut?, splice?, builds, List.length_cons, List.length_nil, List.drop_succ_cons, List.drop_zero, List.take_succ_cons, List.take_zero, List.cons_append, List.nil_append, List.append_nil, List.drop_nil, List.take_nil, Nat.reduceAdd, Nat.reduceLeDiff, Nat.zero_add, Nat.add_zero, ↓reduceIte, Bool.not_true, Bool.not_false, decide_true, decide_false, eq_self, bne_self_eq_false, List.getElem?_cons_zero, List.getElem?_cons_succ, decide_eq_true_eq, Bool.false_eq_true, Bool.true_eq_false, reduceCtorEq, Nat.le_refl]
set_option maxHeartbeats 1000000 in
theorem eqFin_run (hL : Has F tLFin) (p q : Fin) (h : Heap) : call F Z 140 [.agg p.enc, .agg q.enc] h = some (.c (.bool (decide (p = q))), h) := by
  rw [call_run F Z (hL.lk (g := 140) rfl) _ _ rfl]
  obtain ⟨tx1, id1⟩ := p
  obtain ⟨tx2, id2⟩ := q
  simp only [Fin.enc, run0, run1, run2, run3, run4, noSlot, ownS, ownK, memN, RO.dst, lk, drop, forget, number, Nat.reduceBEq, cut?, splice?, builds, List.length_cons, List.length_nil, List.drop_succ_cons, List.drop_zero, List.take_succ_cons, List.take_zero, List.cons_append, List.nil_append, List.append_nil, List.drop_nil, List.take_nil, Nat.reduceAdd, Nat.reduceLeDiff, Nat.zero_add, Nat.add_zero, ↓reduceIte, Bool.not_true, Bool.not_false, decide_true, decide_false, eq_self, bne_self_eq_false, List.getElem?_cons_zero, List.getElem?_cons_succ, decide_eq_true_eq, Bool.false_eq_true, Bool.true_eq_false, reduceCtorEq, Nat.le_refl]
  (repeat' ((first | (rw [gF_if]; split) | (rw [condC_if]; split) | (rw [pickR_if]; split)) <;> (rename_i hh; (try simp only [Bool.not_eq_true, decide_eq_true_eq] at hh); simp only [hh, run0, run1, run2, run3, run4, noSlot, ownS, ownK, memN, RO.dst, lk, drop, forget, number, Nat.reduceBEq, cut?, splice?, builds, List.length_cons, List.length_nil, List.drop_succ_cons, List.drop_zero, List.take_succ_cons, List.take_zero, List.cons_append, List.nil_append, List.append_nil, List.drop_nil, List.take_nil, Nat.reduceAdd, Nat.reduceLeDiff, Nat.zero_add, Nat.add_zero, ↓reduceIte, Bool.not_true, Bool.not_false, decide_true, decide_false, eq_self, bne_self_eq_false, List.getElem?_cons_zero, List.getElem?_cons_succ, decide_eq_true_eq, Bool.false_eq_true, Bool.true_eq_false, reduceCtorEq, Nat.le_refl]))) <;> refine fin_bool ?_ <;> simp_all <;> (try (intros; omega))
theorem szFinS_run (hL : Has F tLFin) (w : SlR 10 (Fl Fin.enc) h x xs fp) (left : Int) (h1 : 0 ≤ left) (h2 : left ≤ 1048576) : call F Z 129 [.c x, .c (.int .i64 left)] h = some (.c (.int .i64 (if left - xs.length < 0 then -1 else left - xs.length)), h) := by
  have := w.le2
  rw [call_run F Z (hL.lk (g := 129) rfl) _ _ rfl]
  simp only [run0, run1, run2, run3, run4, noSlot, ownS, ownK, memN, RO.dst, lk, drop, forget, number, Nat.reduceBEq, cut?, splice?, builds, List.length_cons, List.length_nil, List.drop_succ_cons, List.drop_zero, List.take_succ_cons, List.take_zero, List.cons_append, List.nil_append, List.append_nil, List.drop_nil, List.take_nil, Nat.reduceAdd, Nat.reduceLeDiff, Nat.zero_add, Nat.add_zero, ↓reduceIte, Bool.not_true, Bool.not_false, decide_true, decide_false, eq_self, bne_self_eq_false, List.getElem?_cons_zero, List.getElem?_cons_succ, decide_eq_true_eq, Bool.false_eq_true, Bool.true_eq_false, reduceCtorEq, Nat.le_refl, w.len, wrapI (left - xs.length) (by omega) (by omega)]
  (repeat' ((first | (rw [gF_if]; split) | (rw [condC_if]; split) | (rw [pickR_if]; split)) <;> (rename_i hh; (try simp only [Bool.not_eq_true, decide_eq_true_eq] at hh); simp only [hh, run0, run1, run2, run3, run4, noSlot, ownS, ownK, memN, RO.dst, lk, drop, forget, number, Nat.reduceBEq, cut?, splice?, builds, List.length_cons, List.length_nil, List.drop_succ_cons, List.drop_zero, List.take_succ_cons, List.take_zero, List.cons_append, List.nil_append, List.append_nil, List.drop_nil, List.take_nil, Nat.reduceAdd, Nat.reduceLeDiff, Nat.zero_add, Nat.add_zero, ↓reduceIte, Bool.not_true, Bool.not_false, decide_true, decide_false, eq_self, bne_self_eq_false, List.getElem?_cons_zero, List.getElem?_cons_succ, decide_eq_true_eq, Bool.false_eq_true, Bool.true_eq_false, reduceCtorEq, Nat.le_refl]))) <;> simp_all
theorem szFinS_c (hL : Has F tLFin) (w : SlR 10 (Fl Fin.enc) h x xs fp) (left : Int) (h1 : 0 ≤ left) (h2 : left ≤ 1048576) : ∃ r, call F Z 129 [.c x, .c (.int .i64 left)] h = some (.c (.int .i64 r), h) ∧ r ≤ left ∧ (0 ≤ r → xs.length ≤ 1048576) :=
  ⟨_, szFinS_run hL w left h1 h2, by split <;> omega, by split <;> omega⟩
theorem toFin_lit (hL : Has F tLFin) (tx1 id1 : Int) (h : Heap) : call F Z 138 [.agg [.int .i64 tx1, .int .u64 id1]] h = some (.agg [.int .i64 tx1, .int .u64 id1], h) := toFin_run hL ⟨tx1, id1⟩ h
theorem eqFin_lit (hL : Has F tLFin) (tx1 id1 tx2 id2 : Int) (h : Heap) : call F Z 140 [.agg [.int .i64 tx1, .int .u64 id1], .agg [.int .i64 tx2, .int .u64 id2]] h = some (.c (.bool (decide ((⟨tx1, id1⟩ : Fin) = ⟨tx2, id2⟩))), h) := eqFin_run hL ⟨tx1, id1⟩ ⟨tx2, id2⟩ h
theorem toFinS_run (hL : Has F tLFin) (hf : h.floor ≤ h.next) (w : SlR 10 (Fl Fin.enc) h x xs fp) (hn : xs.length ≤ 1048576) : call F Z 131 [.c x] h = some (.c (.sl 9 h.next 0 xs.length), h.push (xs.map Fin.enc)) := by
  rw [call_run F Z (hL.lk (g := 131) rfl) _ _ rfl]
  simp only [run0, run1, run2, run3, run4, noSlot, ownS, ownK, memN, RO.dst, lk, drop, forget, number, Nat.reduceBEq, cut?, splice?, builds, List.length_cons, List.length_nil, List.drop_succ_cons, List.drop_zero, List.take_succ_cons, List.take_zero, List.cons_append, List.nil_append, List.append_nil, List.drop_nil, List.take_nil, Nat.reduceAdd, Nat.reduceLeDiff, Nat.zero_add, Nat.add_zero, ↓reduceIte, Bool.not_true, Bool.not_false, decide_true, decide_false, eq_self, bne_self_eq_false, List.getElem?_cons_zero, List.getElem?_cons_succ, decide_eq_true_eq, Bool.false_eq_true, Bool.true_eq_false, reduceCtorEq, Nat.le_refl, w.len]
  rw [if_pos (by omega)]
  simp only [run0, run1, run2, run3, run4, noSlot, ownS, ownK, memN, RO.dst, lk, drop, forget, number, Nat.reduceBEq, cut?, splice?, builds, List.length_cons, List.length_nil, List.drop_succ_cons, List.drop_zero, List.take_succ_cons, List.take_zero, List.cons_append, List.nil_append, List.append_nil, List.drop_nil, List.take_nil, Nat.reduceAdd, Nat.reduceLeDiff, Nat.zero_add, Nat.add_zero, ↓reduceIte, Bool.not_true, Bool.not_false, decide_true, decide_false, eq_self, bne_self_eq_false, List.getElem?_cons_zero, List.getElem?_cons_succ, decide_eq_true_eq, Bool.false_eq_true, Bool.true_eq_false, reduceCtorEq, Nat.le_refl, Int.toNat_natCast]
  have key : loop F Z [0, 3, 4] r131L0 ⟨[(0, .c x), (3, .c (.sl 9 h.next 0 xs.length)), (4, .c (.int .i64 (0 : Nat)))], [], [], h.push (fillR Fin.enc Fin.zero xs 0)⟩ = loop F Z [0, 3, 4] r131L0 ⟨[(0, .c x), (3, .c (.sl 9 h.next 0 xs.length)), (4, .c (.int .i64 (xs.length : Nat)))], [], [], h.push (fillR Fin.enc Fin.zero xs xs.length)⟩ :=
    loop_goesF xs.length (fun i => ⟨[(0, .c x), (3, .c (.sl 9 h.next 0 xs.length)), (4, .c (.int .i64 (i : Nat)))], [], [], h.push (fillR Fin.enc Fin.zero xs i)⟩) fun i hi => by
      have w' := w.mono (Fl.ok _) (HExt.push h (fillR Fin.enc Fin.zero xs i))
      have hlt : (i : Int) < xs.length := by omega
      have h0 : (0 : Int) ≤ i := by omega
      rw [loop_run]
      simp only [r131L0, run0, run1, run2, run3, run4, noSlot, ownS, ownK, memN, RO.dst, lk, drop, forget, number, Nat.reduceBEq, cut?, splice?, builds, List.length_cons, List.length_nil, List.drop_succ_cons, List.drop_zero, List.take_succ_cons, List.take_zero, List.cons_append, List.nil_append, List.append_nil, List.drop_nil, List.take_nil, Nat.reduceAdd, Nat.reduceLeDiff, Nat.zero_add, Nat.add_zero, ↓reduceIte, Bool.not_true, Bool.not_false, decide_true, decide_false, eq_self, bne_self_eq_false, List.getElem?_cons_zero, List.getElem?_cons_succ, decide_eq_true_eq, Bool.false_eq_true, Bool.true_eq_false, reduceCtorEq, Nat.le_refl, w.len, hlt, w.idx hi, w'.load hi, Fin.len, Fin.tak, toFin_run hL, h0, and_self, Int.toNat_natCast, storeP_push hf (fillR_get Fin.enc Fin.zero xs hi) (Fin.len xs[i]), wrapS i (by omega)]
      rw [← fillR_set Fin.enc Fin.zero xs hi]
  rw [fillR_0] at key
  rw [fillR_n] at key
  rw [show ((0 : Nat) : Int) = 0 from rfl] at key
  simp only [Fin.zero] at key
  rw [key, loop_run]
  have hlt : ¬ (xs.length : Int) < xs.length := by omega
  simp only [r131L0, run0, run1, run2, run3, run4, noSlot, ownS, ownK, memN, RO.dst, lk, drop, forget, number, Nat.reduceBEq, cut?, splice?, builds, List.length_cons, List.length_nil, List.drop_succ_cons, List.drop_zero, List.take_succ_cons, List.take_zero, List.cons_append, List.nil_append, List.append_nil, List.drop_nil, List.take_nil, Nat.reduceAdd, Nat.reduceLeDiff, Nat.zero_add, Nat.add_zero, ↓reduceIte, Bool.not_true, Bool.not_false, decide_true, decide_false, eq_self, bne_self_eq_false, List.getElem?_cons_zero, List.getElem?_cons_succ, decide_eq_true_eq, Bool.false_eq_true, Bool.true_eq_false, reduceCtorEq, Nat.le_refl, w.len, hlt]
theorem toFinS_c (hL : Has F tLFin) (hf : h.floor ≤ h.next) (w : SlR 10 (Fl Fin.enc) h x xs fp) (hn : xs.length ≤ 1048576) : ∃ y h' fq, call F Z 131 [.c x] h = some (.c y, h') ∧ On h h' ∧ SlR 9 (Fl Fin.enc) h' y xs fq ∧ Fre h fq :=
  ⟨_, _, _, toFinS_run hL hf w hn, On.push _ _, SlR.ofFlat w.le (push_get _ _) (by rw [push_next]; omega), Fre.one h⟩
theorem eqFinS_run (hL : Has F tLFin) (w : SlR 9 (Fl Fin.enc) h x xs fp) (v : SlR 9 (Fl Fin.enc) h y ys fq) : call F Z 134 [.c x, .c y] h = some (.c (.bool (decide (xs = ys))), h) := by
  have hw := w.le2
  have hv := v.le2
  rw [call_run F Z (hL.lk (g := 134) rfl) _ _ rfl]
  simp only [run0, run1, run2, run3, run4, noSlot, ownS, ownK, memN, RO.dst, lk, drop, forget, number, Nat.reduceBEq, cut?, splice?, builds, List.length_cons, List.length_nil, List.drop_succ_cons, List.drop_zero, List.take_succ_cons, List.take_zero, List.cons_append, List.nil_append, List.append_nil, List.drop_nil, List.take_nil, Nat.reduceAdd, Nat.reduceLeDiff, Nat.zero_add, Nat.add_zero, ↓reduceIte, Bool.not_true, Bool.not_false, decide_true, decide_false, eq_self, bne_self_eq_false, List.getElem?_cons_zero, List.getElem?_cons_succ, decide_eq_true_eq, Bool.false_eq_true, Bool.true_eq_false, reduceCtorEq, Nat.le_refl, w.len, v.len]
  rw [condC_if]
  split
  · rename_i hne
    have : xs ≠ ys := by rintro rfl; simp at hne
    simp only [run0, run1, run2, run3, run4, noSlot, ownS, ownK, memN, RO.dst, lk, drop, forget, number, Nat.reduceBEq, cut?, splice?, builds, List.length_cons, List.length_nil, List.drop_succ_cons, List.drop_zero, List.take_succ_cons, List.take_zero, List.cons_append, List.nil_append, List.append_nil, List.drop_nil, List.take_nil, Nat.reduceAdd, Nat.reduceLeDiff, Nat.zero_add, Nat.add_zero, ↓reduceIte, Bool.not_true, Bool.not_false, decide_true, decide_false, eq_self, bne_self_eq_false, List.getElem?_cons_zero, List.getElem?_cons_succ, decide_eq_true_eq, Bool.false_eq_true, Bool.true_eq_false, reduceCtorEq, Nat.le_refl, this]
  · rename_i he
    have he : xs.length = ys.length := by simp at he; omega
    simp only [run0, run1, run2, run3, run4, noSlot, ownS, ownK, memN, RO.dst, lk, drop, forget, number, Nat.reduceBEq, cut?, splice?, builds, List.length_cons, List.length_nil, List.drop_succ_cons, List.drop_zero, List.take_succ_cons, List.take_zero, List.cons_append, List.nil_append, List.append_nil, List.drop_nil, List.take_nil, Nat.reduceAdd, Nat.reduceLeDiff, Nat.zero_add, Nat.add_zero, ↓reduceIte, Bool.not_true, Bool.not_false, decide_true, decide_false, eq_self, bne_self_eq_false, List.getElem?_cons_zero, List.getElem?_cons_succ, decide_eq_true_eq, Bool.false_eq_true, Bool.true_eq_false, reduceCtorEq, Nat.le_refl]
    have key := loop_allN (F := F) (Z := Z) (live := [0, 1, 5]) (b := r134L0) xs.length (fun i => ⟨[(0, .c x), (1, .c y), (5, .c (.int .i64 (i : Nat)))], [], [], h⟩) (fun i => decide (xs[i]? = ys[i]?)) (fun s => lk s.env 4 = some (.c (.bool false)) ∧ s.hp = h) fun i hi => by
      have hi' : i < ys.length := by omega
      have hlt : (i : Int) < xs.length := by omega
      rw [loop_run]
      simp only [r134L0, run0, run1, run2, run3, run4, noSlot, ownS, ownK, memN, RO.dst, lk, drop, forget, number, Nat.reduceBEq, cut?, splice?, builds, List.length_cons, List.length_nil, List.drop_succ_cons, List.drop_zero, List.take_succ_cons, List.take_zero, List.cons_append, List.nil_append, List.append_nil, List.drop_nil, List.take_nil, Nat.reduceAdd, Nat.reduceLeDiff, Nat.zero_add, Nat.add_zero, ↓reduceIte, Bool.not_true, Bool.not_false, decide_true, decide_false, eq_self, bne_self_eq_false, List.getElem?_cons_zero, List.getElem?_cons_succ, decide_eq_true_eq, Bool.false_eq_true, Bool.true_eq_false, reduceCtorEq, Nat.le_refl, w.len, hlt, w.idx hi, v.idx hi', w.load hi, v.load hi', Fin.len, Fin.tak, eqFin_run hL, wrapS i (by omega)]
      rw [List.getElem?_eq_getElem hi, List.getElem?_eq_getElem hi']
      (repeat' ((first | (rw [gF_if]; split) | (rw [condC_if]; split) | (rw [pickR_if]; split)) <;> (rename_i hh; (try simp only [Bool.not_eq_true, decide_eq_true_eq] at hh); simp only [hh, run0, run1, run2, run3, run4, noSlot, ownS, ownK, memN, RO.dst, lk, drop, forget, number, Nat.reduceBEq, cut?, splice?, builds, List.length_cons, List.length_nil, List.drop_succ_cons, List.drop_zero, List.take_succ_cons, List.take_zero, List.cons_append, List.nil_append, List.append_nil, List.drop_nil, List.take_nil, Nat.reduceAdd, Nat.reduceLeDiff, Nat.zero_add, Nat.add_zero, ↓reduceIte, Bool.not_true, Bool.not_false, decide_true, decide_false, eq_self, bne_self_eq_false, List.getElem?_cons_zero, List.getElem?_cons_succ, decide_eq_true_eq, Bool.false_eq_true, Bool.true_eq_false, reduceCtorEq, Nat.le_refl, wrapS i (by omega)])))
      · exact .inr ⟨by simp_all, _, rfl, rfl, rfl⟩
      · exact .inl ⟨by simp_all, rfl⟩
    rw [all_same he] at key
    rcases key with ⟨k1, k2⟩ | ⟨k1, s, k2, k3, k4⟩
    · simp only [show ((0 : Nat) : Int) = 0 from rfl] at k2
      rw [k2, loop_run]
      have hlt : ¬ (xs.length : Int) < xs.length := by omega
      simp only [r134L0, run0, run1, run2, run3, run4, noSlot, ownS, ownK, memN, RO.dst, lk, drop, forget, number, Nat.reduceBEq, cut?, splice?, builds, List.length_cons, List.length_nil, List.drop_succ_cons, List.drop_zero, List.take_succ_cons, List.take_zero, List.cons_append, List.nil_append, List.append_nil, List.drop_nil, List.take_nil, Nat.reduceAdd, Nat.reduceLeDiff, Nat.zero_add, Nat.add_zero, ↓reduceIte, Bool.not_true, Bool.not_false, decide_true, decide_false, eq_self, bne_self_eq_false, List.getElem?_cons_zero, List.getElem?_cons_succ, decide_eq_true_eq, Bool.false_eq_true, Bool.true_eq_false, reduceCtorEq, Nat.le_refl, w.len, hlt, k1]
    · simp only [show ((0 : Nat) : Int) = 0 from rfl] at k2
      rw [k2]
      simp only [run0, run1, run2, run3, run4, noSlot, ownS, ownK, memN, RO.dst, lk, drop, forget, number, Nat.reduceBEq, cut?, splice?, builds, List.length_cons, List.length_nil, List.drop_succ_cons, List.drop_zero, List.take_succ_cons, List.take_zero, List.cons_append, List.nil_append, List.append_nil, List.drop_nil, List.take_nil, Nat.reduceAdd, Nat.reduceLeDiff, Nat.zero_add, Nat.add_zero, ↓reduceIte, Bool.not_true, Bool.not_false, decide_true, decide_false, eq_self, bne_self_eq_false, List.getElem?_cons_zero, List.getElem?_cons_succ, decide_eq_true_eq, Bool.false_eq_true, Bool.true_eq_false, reduceCtorEq, Nat.le_refl, k3, k4, k1]
/-- What is written to mark one. -/
def Fin.mk_ (k : Int) : Fin := ⟨k, k + 1⟩
def Fin.marks (n : Nat) (k : Int) : List Fin := (List.range n).map fun i : Nat => Fin.mk_ (k + 2 * (i : Int))
theorem Fin.marks_len (n : Nat) (k : Int) : (Fin.marks n k).length = n := by simp [Fin.marks]
set_option maxHeartbeats 1000000 in
theorem markFinS_run (hL : Has F tLFin) (w : SlR 9 (Fl Fin.enc) h x xs fp) (hlo : ∀ id, id ∈ fp → h.floor ≤ id) (k : Int) (h1 : 0 ≤ k) (h2 : k + 2 * xs.length ≤ 9200000000000000000) :
    ∃ h', call F Z 232 [.c x, .c (.int .i64 k)] h = some (.c (.int .i64 (k + 2 * xs.length)), h') ∧ Mk h h' fp ∧ SlR 9 (Fl Fin.enc) h' x (Fin.marks xs.length k) fp := by
  have hle := w.le2
  have hlm := Fin.marks_len xs.length k
  rw [call_run F Z (hL.lk (g := 232) rfl) _ _ rfl]
  simp only [run0, run1, run2, run3, run4, noSlot, ownS, ownK, memN, RO.dst, lk, drop, forget, number, Nat.reduceBEq, cut?, splice?, builds, List.length_cons, List.length_nil, List.drop_succ_cons, List.drop_zero, List.take_succ_cons, List.take_zero, List.cons_append, List.nil_append, List.append_nil, List.drop_nil, List.take_nil, Nat.reduceAdd, Nat.reduceLeDiff, Nat.zero_add, Nat.add_zero, ↓reduceIte, Bool.not_true, Bool.not_false, decide_true, decide_false, eq_self, bne_self_eq_false, List.getElem?_cons_zero, List.getElem?_cons_succ, decide_eq_true_eq, Bool.false_eq_true, Bool.true_eq_false, reduceCtorEq, Nat.le_refl]
  rcases w.flat with ⟨rfl, rfl, rfl⟩ | ⟨hx, hg, hn, rfl⟩
  · rw [loop_run]
    simp only [r232L0, run0, run1, run2, run3, run4, noSlot, ownS, ownK, memN, RO.dst, lk, drop, forget, number, Nat.reduceBEq, cut?, splice?, builds, List.length_cons, List.length_nil, List.drop_succ_cons, List.drop_zero, List.take_succ_cons, List.take_zero, List.cons_append, List.nil_append, List.append_nil, List.drop_nil, List.take_nil, Nat.reduceAdd, Nat.reduceLeDiff, Nat.zero_add, Nat.add_zero, ↓reduceIte, Bool.not_true, Bool.not_false, decide_true, decide_false, eq_self, bne_self_eq_false, List.getElem?_cons_zero, List.getElem?_cons_succ, decide_eq_true_eq, Bool.false_eq_true, Bool.true_eq_false, reduceCtorEq, Nat.le_refl, show ¬ ((0 : Int) < 0) from by omega]
    exact ⟨h, by simp, Mk.refl _ _, by simpa [Fin.marks] using w⟩
  · have hfl : h.floor ≤ x.sid := hlo _ (by simp)
    have key : loop F Z [0, 1, 5] r232L0 ⟨[(0, .c x), (1, .c (.int .i64 (k + 2 * (0 : Nat)))), (5, .c (.int .i64 (0 : Nat)))], [], [], h.put x.sid (mixR Fin.enc (Fin.marks xs.length k) xs 0)⟩ = loop F Z [0, 1, 5] r232L0 ⟨[(0, .c x), (1, .c (.int .i64 (k + 2 * (xs.length : Nat)))), (5, .c (.int .i64 (xs.length : Nat)))], [], [], h.put x.sid (mixR Fin.enc (Fin.marks xs.length k) xs xs.length)⟩ :=
      loop_goesF xs.length (fun i => ⟨[(0, .c x), (1, .c (.int .i64 (k + 2 * (i : Nat)))), (5, .c (.int .i64 (i : Nat)))], [], [], h.put x.sid (mixR Fin.enc (Fin.marks xs.length k) xs i)⟩) fun i hi => by
        have hlt : (i : Int) < xs.length := by omega
        have hi2 : i < (mixR Fin.enc (Fin.marks xs.length k) xs i).length := by rw [mixR_len _ hlm]; exact hi
        have hms : (Fin.marks xs.length k)[i]'(by omega) = Fin.mk_ (k + 2 * i) := by simp [Fin.marks]
        have hset := mixR_set Fin.enc hlm hi
        rw [hms] at hset
        have hput := storeP_put (h := h) hfl hi2
        rw [← mixR_cur Fin.enc hlm hi, ← hset, loop_run]
        simp (disch := omega) only [r232L0, run0, run1, run2, run3, run4, noSlot, ownS, ownK, memN, RO.dst, lk, drop, forget, number, Nat.reduceBEq, cut?, splice?, builds, List.length_cons, List.length_nil, List.drop_succ_cons, List.drop_zero, List.take_succ_cons, List.take_zero, List.cons_append, List.nil_append, List.append_nil, List.drop_nil, List.take_nil, Nat.reduceAdd, Nat.reduceLeDiff, Nat.zero_add, Nat.add_zero, ↓reduceIte, Bool.not_true, Bool.not_false, decide_true, decide_false, eq_self, bne_self_eq_false, List.getElem?_cons_zero, List.getElem?_cons_succ, decide_eq_true_eq, Bool.false_eq_true, Bool.true_eq_false, reduceCtorEq, Nat.le_refl, w.len, hlt, w.idx hi, hput, putM_s, wrapI1, wrapU1, Fin.enc, Int.reduceEq, Fin.mk_]
        rw [show k + 2 * ((i : Nat) : Int) + 1 + 1 = k + 2 * ((i + 1 : Nat) : Int) from by omega, show ((i : Nat) : Int) + 1 = ((i + 1 : Nat) : Int) from rfl]
    rw [mixR_0, put_same hg, mixR_n _ hlm] at key
    simp only [show ((0 : Nat) : Int) = 0 from rfl, Int.mul_zero, Int.add_zero] at key
    rw [key, loop_run]
    have hlt : ¬ (xs.length : Int) < xs.length := by omega
    simp only [r232L0, run0, run1, run2, run3, run4, noSlot, ownS, ownK, memN, RO.dst, lk, drop, forget, number, Nat.reduceBEq, cut?, splice?, builds, List.length_cons, List.length_nil, List.drop_succ_cons, List.drop_zero, List.take_succ_cons, List.take_zero, List.cons_append, List.nil_append, List.append_nil, List.drop_nil, List.take_nil, Nat.reduceAdd, Nat.reduceLeDiff, Nat.zero_add, Nat.add_zero, ↓reduceIte, Bool.not_true, Bool.not_false, decide_true, decide_false, eq_self, bne_self_eq_false, List.getElem?_cons_zero, List.getElem?_cons_succ, decide_eq_true_eq, Bool.false_eq_true, Bool.true_eq_false, reduceCtorEq, Nat.le_refl, w.len, hlt]
    refine ⟨_, rfl, Mk.put _ _ _, ?_⟩
    have := SlR.ofFlat (tag := 9) (h := h.put x.sid ((Fin.marks xs.length k).map Fin.enc)) (enc := Fin.enc) (xs := Fin.marks xs.length k) (id := x.sid) (by rw [hlm]; exact w.le) (by simp [Heap.put]) hn
    rw [hlm, ← hx] at this
    exact this
set_option maxHeartbeats 1000000 in
theorem heldFinS_run (hL : Has F tLFin) {n : Nat} {k : Int} (w : SlR 9 (Fl Fin.enc) h x (Fin.marks n k) fp) (h1 : 0 ≤ k) (h2 : k + 2 * n ≤ 9200000000000000000) :
    call F Z 234 [.c x, .c (.int .i64 k)] h = some (.c (.int .i64 (k + 2 * n)), h) := by
  have hle := w.le2
  have hwl := w.len
  rw [Fin.marks_len] at hle hwl
  rw [call_run F Z (hL.lk (g := 234) rfl) _ _ rfl]
  simp only [run0, run1, run2, run3, run4, noSlot, ownS, ownK, memN, RO.dst, lk, drop, forget, number, Nat.reduceBEq, cut?, splice?, builds, List.length_cons, List.length_nil, List.drop_succ_cons, List.drop_zero, List.take_succ_cons, List.take_zero, List.cons_append, List.nil_append, List.append_nil, List.drop_nil, List.take_nil, Nat.reduceAdd, Nat.reduceLeDiff, Nat.zero_add, Nat.add_zero, ↓reduceIte, Bool.not_true, Bool.not_false, decide_true, decide_false, eq_self, bne_self_eq_false, List.getElem?_cons_zero, List.getElem?_cons_succ, decide_eq_true_eq, Bool.false_eq_true, Bool.true_eq_false, reduceCtorEq, Nat.le_refl]
  have key : loop F Z [0, 1, 5] r234L0 ⟨[(0, .c x), (1, .c (.int .i64 (k + 2 * (0 : Nat)))), (5, .c (.int .i64 (0 : Nat)))], [], [], h⟩ = loop F Z [0, 1, 5] r234L0 ⟨[(0, .c x), (1, .c (.int .i64 (k + 2 * (n : Nat)))), (5, .c (.int .i64 (n : Nat)))], [], [], h⟩ :=
    loop_goesF n (fun i => ⟨[(0, .c x), (1, .c (.int .i64 (k + 2 * (i : Nat)))), (5, .c (.int .i64 (i : Nat)))], [], [], h⟩) fun i hi0 => by
      have hi : i < (Fin.marks n k).length := by rw [Fin.marks_len]; exact hi0
      have hlt : (i : Int) < n := by omega
      have hms : (Fin.marks n k)[i] = Fin.mk_ (k + 2 * i) := by simp [Fin.marks]
      have hld := w.load hi
      rw [hms] at hld
      rw [loop_run]
      simp (disch := omega) only [r234L0, run0, run1, run2, run3, run4, noSlot, ownS, ownK, memN, RO.dst, lk, drop, forget, number, Nat.reduceBEq, cut?, splice?, builds, List.length_cons, List.length_nil, List.drop_succ_cons, List.drop_zero, List.take_succ_cons, List.take_zero, List.cons_append, List.nil_append, List.append_nil, List.drop_nil, List.take_nil, Nat.reduceAdd, Nat.reduceLeDiff, Nat.zero_add, Nat.add_zero, ↓reduceIte, Bool.not_true, Bool.not_false, decide_true, decide_false, eq_self, bne_self_eq_false, List.getElem?_cons_zero, List.getElem?_cons_succ, decide_eq_true_eq, Bool.false_eq_true, Bool.true_eq_false, reduceCtorEq, Nat.le_refl, hwl, hlt, w.idx hi, hld, wrapI1, wrapU1, Fin.enc, Fin.mk_, Int.reduceEq]
      rw [show k + 2 * ((i : Nat) : Int) + 1 + 1 = k + 2 * ((i + 1 : Nat) : Int) from by omega, show ((i : Nat) : Int) + 1 = ((i + 1 : Nat) : Int) from rfl]
  simp only [show ((0 : Nat) : Int) = 0 from rfl, Int.mul_zero, Int.add_zero] at key
  rw [key, loop_run]
  have hlt : ¬ (n : Int) < n := by omega
  simp only [r234L0, run0, run1, run2, run3, run4, noSlot, ownS, ownK, memN, RO.dst, lk, drop, forget, number, Nat.reduceBEq, cut?, splice?, builds, List.length_cons, List.length_nil, List.drop_succ_cons, List.drop_zero, List.take_succ_cons, List.take_zero, List.cons_append, List.nil_append, List.append_nil, List.drop_nil, List.take_nil, Nat.reduceAdd, Nat.reduceLeDiff, Nat.zero_add, Nat.add_zero, ↓reduceIte, Bool.not_true, Bool.not_false, decide_true, decide_false, eq_self, bne_self_eq_false, List.getElem?_cons_zero, List.getElem?_cons_succ, decide_eq_true_eq, Bool.false_eq_true, Bool.true_eq_false, reduceCtorEq, Nat.le_refl, hwl, hlt]
end
end Go.Proofs.Ytlfepembgjjejaa.A
/- Slices that are built by appending: raw rows, made behind a heap. -/
namespace Go.Proofs.Ytlfepembgjjejaa.A
open Go
set_option linter.unusedSimpArgs false
set_option linter.unusedVariables false

/-- A cell shows rows that were made behind h0. -/
structure Acc (tag : Nat) (h0 h : Heap) (x : Cell) (rows : List (List Cell)) : Prop where
  on : On h0 h
  sh : ∃ fp, SlR tag (Fl fun r => r) h x rows fp ∧ Fre h0 fp
/-- What append answers, and the heap behind it. -/
def catX (tag : Nat) (h : Heap) (x : Cell) (n : Nat) : Cell := match x with
  | .sl _ _ _ m => .sl tag h.next 0 (m + n)
  | _ => if n = 0 then .nil else .sl tag h.next 0 n
def catH (h : Heap) (x : Cell) (new : List (List Cell)) : Heap := match x with
  | .sl _ id _ _ => (h.kill id).push (((h.get id).getD []) ++ new)
  | _ => if new.length = 0 then h else h.push new
theorem Fre.app {h h1 : Heap} {p q : List Nat} (f : Fre h p) (hl : ∀ id, id ∈ p → id < h1.next) (f1 : Fre h1 q) (hn : h.next ≤ h1.next) : Fre h (p ++ q) :=
  ⟨fun id hid => by
    rcases List.mem_append.1 hid with hid | hid
    · exact f.lo id hid
    · have := f1.lo id hid
      omega, List.nodup_append.2 ⟨f.nd, f1.nd, fun a ha b hb => by
        have := hl a ha
        have := f1.lo b hb
        omega⟩⟩
section
variable {tag : Nat} {h0 h : Heap} {x y : Cell} {rows new : List (List Cell)}
theorem Acc.nil (tag : Nat) (h : Heap) : Acc tag h h .nil [] := ⟨On.refl h, [], SlR.nil _ _ _, Fre.nil h⟩
theorem Acc.none (o : On h0 h) : Acc tag h0 h .nil [] := ⟨o, [], SlR.nil _ _ _, Fre.nil h0⟩
theorem Fre.at {h0 h : Heap} (hn : h0.next ≤ h.next) : Fre h0 [h.next] := ⟨fun id hid => by simp at hid; omega, by simp⟩
theorem Acc.lit (o : On h0 h) (rows : List (List Cell)) (hl : rows.length ≤ 140737488355328) : Acc tag h0 (h.push rows) (.sl tag h.next 0 rows.length) rows :=
  ⟨o.trans (On.push h rows), [h.next], SlR.ofFlat (enc := fun r => r) (by unfold maxLen; omega) (by rw [push_get]; simp) (by rw [push_next]; omega), Fre.at o.ext.1⟩
theorem Acc.lit0 (o : On h0 h) : Acc tag h0 (h.push []) (.sl tag h.next 0 0) [] := Acc.lit o [] (by simp)
theorem Acc.push (a : Acc tag h0 h x rows) (r : List (List Cell)) : Acc tag h0 (h.push r) x rows := by
  obtain ⟨o, fp, w, f⟩ := a
  exact ⟨o.trans (On.push h r), fp, w.on (Fl.ok _) (On.push h r), f⟩
theorem Acc.go {h' : Heap} (a : Acc tag h0 h x rows) (o' : On h h') : Acc tag h0 h' x rows := by
  obtain ⟨o, fp, w, f⟩ := a
  exact ⟨o.trans o', fp, w.on (Fl.ok _) o', f⟩
theorem Acc.cat_eq (a : Acc tag h0 h x rows) (hf : h0.floor ≤ h0.next) {bytes : Nat} (hy : A.isTag tag y = true) (hr : rowsOf h y = some new) (hb : (rows.length + new.length) * bytes ≤ 140737488355328) :
    appF h tag bytes x y = some (catX tag h x new.length, catH h x new) := by
  obtain ⟨o, fp, w, f⟩ := a
  rw [appF, if_pos hy, hr]
  simp only [Option.bind_some]
  rcases w.flat with ⟨rfl, rfl, rfl⟩ | ⟨hx, hg, hn, rfl⟩
  · simp only [List.length_nil, Nat.zero_add] at hb
    simp only [catX, catH]
    split
    · rfl
    · simp [hb]
  · have hfl : h.floor ≤ x.sid := by rw [o.fl]; exact Nat.le_trans hf (f.lo _ (by simp))
    rw [hx]
    simp only [Cell.sid, catX, catH] at hg hfl hb ⊢
    simp only [hg, Option.bind_some, List.length_map]
    simp [hfl, hb]
theorem Acc.cat (a : Acc tag h0 h x rows) (hf : h0.floor ≤ h0.next) (hl : rows.length + new.length ≤ 140737488355328) : Acc tag h0 (catH h x new) (catX tag h x new.length) (rows ++ new) := by
  obtain ⟨o, fp, w, f⟩ := a
  rcases w.flat with ⟨rfl, rfl, rfl⟩ | ⟨hx, hg, hn, rfl⟩
  · simp only [catX, catH]
    split
    · rename_i h0'
      have : new = [] := List.eq_nil_of_length_eq_zero h0'
      subst this
      exact Acc.none o
    · simp only [List.nil_append]
      exact Acc.lit o new (by simp at hl; omega)
  · have hlo : h0.next ≤ x.sid := f.lo _ (by simp)
    have o1 : On h0 (h.kill x.sid) := ⟨⟨o.ext.1, fun id hid => by
      simp only [Heap.kill]
      rw [if_neg (by omega)]
      exact o.ext.2 id hid⟩, o.fl⟩
    rw [hx] at o1 ⊢
    simp only [Cell.sid, catX, catH] at hg o1 ⊢
    simp only [hg, Option.getD_some, List.map_id_fun', id]
    have := Acc.lit (tag := tag) o1 (rows ++ new) (by simpa using hl)
    rw [List.length_append] at this
    exact this
/-- One element, laid and appended. -/
theorem Acc.one_eq (a : Acc tag h0 h x rows) (hf : h0.floor ≤ h0.next) {bytes : Nat} (hb : (rows.length + 1) * bytes ≤ 140737488355328) (row : List Cell) :
    appF (h.push [row]) tag bytes x (.sl tag h.next 0 1) = some (catX tag (h.push [row]) x 1, catH (h.push [row]) x [row]) :=
  (a.push [row]).cat_eq (y := .sl tag h.next 0 1) (new := [row]) hf (by simp [A.isTag]) (by simp [rowsOf, push_get]) hb
theorem Acc.one (a : Acc tag h0 h x rows) (hf : h0.floor ≤ h0.next) (hl : rows.length + 1 ≤ 140737488355328) (row : List Cell) : Acc tag h0 (catH (h.push [row]) x [row]) (catX tag (h.push [row]) x 1) (rows ++ [row]) :=
  (a.push [row]).cat hf (new := [row]) hl
theorem SlR.ofRaw {α : Type} {enc : α → List Cell} {xs : List α} {fp : List Nat} (w : SlR tag (Fl fun r => r) h x (xs.map enc) fp) : SlR tag (Fl enc) h x xs fp := by
  have hl := w.le
  rw [List.length_map] at hl
  rcases w.flat with ⟨rfl, h2, rfl⟩ | ⟨hx, hg, hn, rfl⟩
  · have : xs = [] := List.map_eq_nil_iff.1 h2
    subst this
    exact SlR.nil _ _ _
  · rw [List.length_map] at hx
    rw [hx]
    exact SlR.ofFlat hl (by rw [hg]; simp) hn
theorem Acc.flat {α : Type} {enc : α → List Cell} {xs : List α} (a : Acc tag h0 h x (xs.map enc)) : On h0 h ∧ ∃ fp, SlR tag (Fl enc) h x xs fp ∧ Fre h0 fp := by
  obtain ⟨o, fp, w, f⟩ := a
  exact ⟨o, fp, w.ofRaw, f⟩
end
end Go.Proofs.Ytlfepembgjjejaa.A
/- Loops that append. -/
namespace Go.Proofs.Ytlfepembgjjejaa.A
open Go
set_option linter.unusedSimpArgs false
set_option linter.unusedVariables false
theorem flatMap_le {α β : Type} (g : α → List β) (hg : ∀ a, (g a).length ≤ 1) : ∀ xs : List α, (xs.flatMap g).length ≤ xs.length
  | [] => by simp
  | a :: r => by
    rw [List.flatMap_cons, List.length_append, List.length_cons]
    have := hg a
    have := flatMap_le g hg r
    omega
/-- One turn goes on, or returns; the run stands here once. -/
def Step2 (r : Option (Ex × St)) (J Q : St → Prop) (L : St → Option (Ex × St)) : Prop := (∃ s', J s' ∧ r = L s') ∨ ∃ s', r = some (.ret, s') ∧ Q s'
section
variable {F : Nat → Option RF} {Z : CallF} {live : List Nat} {b : RC}
/-- A loop that appends at most one element at each turn. -/
theorem loop_acc {α : Type} (xs : List α) (g : α → List (List Cell)) (tag : Nat) (h0 : Heap) (st : Nat → Cell → Heap → St) (hg : ∀ a, (g a).length ≤ 1)
    (hs : ∀ i (hi : i < xs.length) y h rows, Acc tag h0 h y rows → rows.length ≤ i → ∃ y' h', Acc tag h0 h' y' (rows ++ g xs[i]) ∧ loop F Z live b (st i y h) = loop F Z live b (st (i + 1) y' h')) {y : Cell} {h : Heap} (a0 : Acc tag h0 h y []) :
    ∃ y' h', Acc tag h0 h' y' (xs.flatMap g) ∧ loop F Z live b (st 0 y h) = loop F Z live b (st xs.length y' h') := by
  have key : ∀ n, n ≤ xs.length → ∃ y' h', Acc tag h0 h' y' ((xs.take n).flatMap g) ∧ ((xs.take n).flatMap g).length ≤ n ∧ loop F Z live b (st 0 y h) = loop F Z live b (st n y' h') := by
    intro n
    induction n with
    | zero => intro _; exact ⟨y, h, by simpa using a0, by simp, rfl⟩
    | succ n ih =>
      intro hn
      obtain ⟨y1, h1, a1, l1, e1⟩ := ih (by omega)
      obtain ⟨y2, h2, a2, e2⟩ := hs n (by omega) y1 h1 _ a1 l1
      have ht : (xs.take (n + 1)).flatMap g = (xs.take n).flatMap g ++ g xs[n] := by
        rw [List.take_add_one, List.getElem?_eq_getElem (by omega), List.flatMap_append]; simp
      refine ⟨y2, h2, by rw [ht]; exact a2, ?_, e1.trans e2⟩
      rw [ht, List.length_append]
      have := hg xs[n]
      omega
  obtain ⟨y', h', a', _, e'⟩ := key xs.length (Nat.le_refl _)
  rw [List.take_length] at a'
  exact ⟨y', h', a', e'⟩
/-- A loop that returns at the first element that fits. -/
theorem loop_find {α : Type} (xs : List α) (p : α → Bool) (st : Nat → St) (Q : Nat → St → Prop) (hs : ∀ i (hi : i < xs.length), Turn (loop F Z live b (st i)) (loop F Z live b (st (i + 1))) (!p xs[i]) (Q i)) :
    (xs.findIdx? p = none ∧ loop F Z live b (st 0) = loop F Z live b (st xs.length)) ∨ ∃ i, xs.findIdx? p = some i ∧ i < xs.length ∧ ∃ s, loop F Z live b (st 0) = some (.ret, s) ∧ Q i s := by
  have key : ∀ n, n ≤ xs.length → ((∀ i (hi : i < xs.length), i < n → p xs[i] = false) ∧ loop F Z live b (st 0) = loop F Z live b (st n)) ∨ ∃ i, xs.findIdx? p = some i ∧ i < xs.length ∧ ∃ s, loop F Z live b (st 0) = some (.ret, s) ∧ Q i s := by
    intro n
    induction n with
    | zero => intro _; exact .inl ⟨fun i hi h => absurd h (Nat.not_lt_zero _), rfl⟩
    | succ n ih =>
      intro hn
      rcases ih (by omega) with ⟨h1, h2⟩ | h
      · rcases hs n (by omega) with ⟨h3, h4⟩ | ⟨h3, s, h4, h5⟩
        · refine .inl ⟨fun i hi hl => ?_, h2.trans h4⟩
          by_cases he : i = n
          · subst he; simpa using h3
          · exact h1 i hi (by omega)
        · refine .inr ⟨n, ?_, by omega, s, h2.trans h4, h5⟩
          rw [List.findIdx?_eq_some_iff_getElem]
          refine ⟨by omega, by simpa using h3, fun j hj => ?_⟩
          simpa using h1 j (by omega) (by omega)
      · exact .inr h
  rcases key xs.length (Nat.le_refl _) with ⟨h1, h2⟩ | h
  · refine .inl ⟨?_, h2⟩
    rw [List.findIdx?_eq_none_iff]
    intro a ha
    obtain ⟨i, hi, rfl⟩ := List.mem_iff_getElem.1 ha
    exact h1 i hi hi
  · exact .inr h
/-- A loop of so many turns, some of which return. -/
theorem loop_rel (n : Nat) (I : Nat → St → Prop) (Q : St → Prop) (hs : ∀ i s, i < n → I i s → Step2 (loop F Z live b s) (I (i + 1)) Q (loop F Z live b)) {s : St} (h0 : I 0 s) :
    (∃ s', I n s' ∧ loop F Z live b s = loop F Z live b s') ∨ ∃ s', loop F Z live b s = some (.ret, s') ∧ Q s' := by
  induction n with
  | zero => exact .inl ⟨s, h0, rfl⟩
  | succ n ih =>
    rcases ih fun i s hi => hs i s (by omega) with ⟨s1, i1, e1⟩ | h
    · rcases hs n s1 (by omega) i1 with ⟨s2, i2, e2⟩ | ⟨s2, e2, q2⟩
      · exact .inl ⟨s2, i2, e1.trans e2⟩
      · exact .inr ⟨s2, e1.trans e2, q2⟩
    · exact .inr h
/-- The place of the first that fits, -1 for none. -/
def findI {α : Type} (p : α → Bool) (xs : List α) : Int := match xs.findIdx? p with
  | some i => (i : Int)
  | none => -1
/-- A loop over a list that carries a value on. -/
theorem loop_fold {α σ : Type} (xs : List α) (step : σ → α → σ) (I : Nat → σ → St → Prop) (hs : ∀ i (hi : i < xs.length) a s, I i a s → ∃ s', I (i + 1) (step a xs[i]) s' ∧ loop F Z live b s = loop F Z live b s') {a : σ} {s : St} (h0 : I 0 a s) :
    ∃ s', I xs.length (xs.foldl step a) s' ∧ loop F Z live b s = loop F Z live b s' := by
  have key : ∀ n, n ≤ xs.length → ∃ s', I n ((xs.take n).foldl step a) s' ∧ loop F Z live b s = loop F Z live b s' := by
    intro n
    induction n with
    | zero => intro _; exact ⟨s, by simpa using h0, rfl⟩
    | succ n ih =>
      intro hn
      obtain ⟨s1, i1, e1⟩ := ih (by omega)
      obtain ⟨s2, i2, e2⟩ := hs n (by omega) _ s1 i1
      refine ⟨s2, ?_, e1.trans e2⟩
      rw [List.take_add_one, List.getElem?_eq_getElem (by omega), List.foldl_append]
      exact i2
  obtain ⟨s', i', e'⟩ := key xs.length (Nat.le_refl _)
  rw [List.take_length] at i'
  exact ⟨s', i', e'⟩
end
end Go.Proofs.Ytlfepembgjjejaa.A
/- Calls with the floor raised. -/
namespace Go.Proofs.Ytlfepembgjjejaa.A
open Go
set_option linter.unusedSimpArgs false
set_option linter.unusedVariables false
theorem On.quiet {h h' : Heap} (o : On { h with floor := h.next } h') : On h { h' with floor := h.floor } := ⟨⟨o.ext.1, o.ext.2⟩, rfl⟩
theorem On.up (h : Heap) : On h { h with floor := h.floor } := ⟨⟨Nat.le_refl _, fun _ _ => rfl⟩, rfl⟩
theorem SlR.up {α : Type} {R : Rel α} {tag : Nat} {h : Heap} {x : Cell} {xs : List α} {fp : List Nat} (w : SlR tag R h x xs fp) (ok : RelOk R) (n : Nat) : SlR tag R { h with floor := n } x xs fp := w.mv ok (Nat.le_refl _) fun _ _ => rfl
/-- A call with the floor raised, and the heap behind it as one thing. -/
theorem quietly {F : Nat → Option RF} {Z : CallF} {h h' : Heap} {f : Nat} {vs : List V} {r : V} (e : call F Z f vs ⟨h.next, h.next, h.get⟩ = some (r, h')) (o : On ⟨h.next, h.next, h.get⟩ h') :
    ∃ h' g, call F Z f vs ⟨h.next, h.next, h.get⟩ = some (r, h') ∧ Heap.mk h'.next h.floor h'.get = g ∧ On h g := ⟨h', _, e, rfl, ⟨⟨o.ext.1, o.ext.2⟩, rfl⟩⟩
theorem RelOk.up {α : Type} {R : Rel α} (ok : RelOk R) {h : Heap} {cs : List Cell} {a : α} {fp : List Nat} (w : R h cs a fp) (n : Nat) : R ⟨h.next, n, h.get⟩ cs a fp := ok.mv w (Nat.le_refl _) fun _ _ => rfl
end Go.Proofs.Ytlfepembgjjejaa.A
/- Fins compared and found: what the library's functions compute at them. -/
namespace Go.Proofs.Ytlfepembgjjejaa.A
open Go
set_option linter.unusedSimpArgs false
set_option linter.unusedVariables false
def cmpI (a b : Int) : Int := if a < b then -1 else if b < a then 1 else 0
def orI (a b : Int) : Int := if a = 0 then b else a
def cmpFin (f g : Fin) : Int := orI (cmpI f.tx g.tx) (cmpI f.id g.id)
theorem fin_eqs (a b c d : Int) : eqsR false [.i .i64, .i .u64] (some (.agg [.int .i64 a, .int .u64 b])) (some (.agg [.int .i64 c, .int .u64 d])) = some (.bool (decide ((⟨a, b⟩ : Fin) = ⟨c, d⟩))) := by
  have hc : cellsEq? [.i .i64, .i .u64] [.int .i64 a, .int .u64 b] [.int .i64 c, .int .u64 d] = some (decide ((⟨a, b⟩ : Fin) = ⟨c, d⟩)) := by
    simp only [cellsEq?, eqK, and_self, if_true, Option.bind_some]
    cases h1 : (a == c) <;> cases h2 : (b == d) <;> simp_all
  simp only [eqsR, List.length_cons, List.length_nil, and_self, if_true, hc, Option.bind_some, Bool.false_xor]
section
variable {F : Nat → Option RF} {Z : CallF} {h : Heap} {x : Cell} {xs : List Fin} {fp : List Nat}
theorem Compare_int_run (h1 : Has F tLibcmpCompareint) (h2 : Has F tLibcmpisNaNint) (a b : Int) (h : Heap) : call F Z 273 [.c (.int .i64 a), .c (.int .i64 b)] h = some (.c (.int .i64 (cmpI a b)), h) := by
  have hn : ∀ (a : Int) (h : Heap), call F Z 276 [.c (.int .i64 a)] h = some (.c (.bool false), h) := by
    intro a h
    rw [call_run F Z (h2.lk (g := 276) rfl) _ _ rfl]
    simp only [run0, run1, run2, run3, run4, noSlot, ownS, ownK, memN, RO.dst, lk, drop, forget, number, Nat.reduceBEq, cut?, splice?, builds, List.length_cons, List.length_nil, List.drop_succ_cons, List.drop_zero, List.take_succ_cons, List.take_zero, List.cons_append, List.nil_append, List.append_nil, List.drop_nil, List.take_nil, Nat.reduceAdd, Nat.reduceLeDiff, Nat.zero_add, Nat.add_zero, ↓reduceIte, Bool.not_true, Bool.not_false, decide_true, decide_false, eq_self, bne_self_eq_false, List.getElem?_cons_zero, List.getElem?_cons_succ, decide_eq_true_eq, Bool.false_eq_true, Bool.true_eq_false, reduceCtorEq, Nat.le_refl]
  rw [call_run F Z (h1.lk (g := 273) rfl) _ _ rfl]
  simp only [run0, run1, run2, run3, run4, noSlot, ownS, ownK, memN, RO.dst, lk, drop, forget, number, Nat.reduceBEq, cut?, splice?, builds, List.length_cons, List.length_nil, List.drop_succ_cons, List.drop_zero, List.take_succ_cons, List.take_zero, List.cons_append, List.nil_append, List.append_nil, List.drop_nil, List.take_nil, Nat.reduceAdd, Nat.reduceLeDiff, Nat.zero_add, Nat.add_zero, ↓reduceIte, Bool.not_true, Bool.not_false, decide_true, decide_false, eq_self, bne_self_eq_false, List.getElem?_cons_zero, List.getElem?_cons_succ, decide_eq_true_eq, Bool.false_eq_true, Bool.true_eq_false, reduceCtorEq, Nat.le_refl, hn]
  (repeat' ((first | (rw [gF_if]; split) | (rw [condC_if]; split) | (rw [pickR_if]; split)) <;> (rename_i hh; (try simp only [Bool.not_eq_true, decide_eq_true_eq] at hh); simp only [hh, run0, run1, run2, run3, run4, noSlot, ownS, ownK, memN, RO.dst, lk, drop, forget, number, Nat.reduceBEq, cut?, splice?, builds, List.length_cons, List.length_nil, List.drop_succ_cons, List.drop_zero, List.take_succ_cons, List.take_zero, List.cons_append, List.nil_append, List.append_nil, List.drop_nil, List.take_nil, Nat.reduceAdd, Nat.reduceLeDiff, Nat.zero_add, Nat.add_zero, ↓reduceIte, Bool.not_true, Bool.not_false, decide_true, decide_false, eq_self, bne_self_eq_false, List.getElem?_cons_zero, List.getElem?_cons_succ, decide_eq_true_eq, Bool.false_eq_true, Bool.true_eq_false, reduceCtorEq, Nat.le_refl, hn]))) <;> simp_all [cmpI] <;> omega
theorem Compare_u64_run (h1 : Has F tLibcmpCompareuint64) (h2 : Has F tLibcmpisNaNuint64) (a b : Int) (h : Heap) : call F Z 274 [.c (.int .u64 a), .c (.int .u64 b)] h = some (.c (.int .i64 (cmpI a b)), h) := by
  have hn : ∀ (a : Int) (h : Heap), call F Z 277 [.c (.int .u64 a)] h = some (.c (.bool false), h) := by
    intro a h
    rw [call_run F Z (h2.lk (g := 277) rfl) _ _ rfl]
    simp only [run0, run1, run2, run3, run4, noSlot, ownS, ownK, memN, RO.dst, lk, drop, forget, number, Nat.reduceBEq, cut?, splice?, builds, List.length_cons, List.length_nil, List.drop_succ_cons, List.drop_zero, List.take_succ_cons, List.take_zero, List.cons_append, List.nil_append, List.append_nil, List.drop_nil, List.take_nil, Nat.reduceAdd, Nat.reduceLeDiff, Nat.zero_add, Nat.add_zero, ↓reduceIte, Bool.not_true, Bool.not_false, decide_true, decide_false, eq_self, bne_self_eq_false, List.getElem?_cons_zero, List.getElem?_cons_succ, decide_eq_true_eq, Bool.false_eq_true, Bool.true_eq_false, reduceCtorEq, Nat.le_refl]
  rw [call_run F Z (h1.lk (g := 274) rfl) _ _ rfl]
  simp only [run0, run1, run2, run3, run4, noSlot, ownS, ownK, memN, RO.dst, lk, drop, forget, number, Nat.reduceBEq, cut?, splice?, builds, List.length_cons, List.length_nil, List.drop_succ_cons, List.drop_zero, List.take_succ_cons, List.take_zero, List.cons_append, List.nil_append, List.append_nil, List.drop_nil, List.take_nil, Nat.reduceAdd, Nat.reduceLeDiff, Nat.zero_add, Nat.add_zero, ↓reduceIte, Bool.not_true, Bool.not_false, decide_true, decide_false, eq_self, bne_self_eq_false, List.getElem?_cons_zero, List.getElem?_cons_succ, decide_eq_true_eq, Bool.false_eq_true, Bool.true_eq_false, reduceCtorEq, Nat.le_refl, hn]
  (repeat' ((first | (rw [gF_if]; split) | (rw [condC_if]; split) | (rw [pickR_if]; split)) <;> (rename_i hh; (try simp only [Bool.not_eq_true, decide_eq_true_eq] at hh); simp only [hh, run0, run1, run2, run3, run4, noSlot, ownS, ownK, memN, RO.dst, lk, drop, forget, number, Nat.reduceBEq, cut?, splice?, builds, List.length_cons, List.length_nil, List.drop_succ_cons, List.drop_zero, List.take_succ_cons, List.take_zero, List.cons_append, List.nil_append, List.append_nil, List.drop_nil, List.take_nil, Nat.reduceAdd, Nat.reduceLeDiff, Nat.zero_add, Nat.add_zero, ↓reduceIte, Bool.not_true, Bool.not_false, decide_true, decide_false, eq_self, bne_self_eq_false, List.getElem?_cons_zero, List.getElem?_cons_succ, decide_eq_true_eq, Bool.false_eq_true, Bool.true_eq_false, reduceCtorEq, Nat.le_refl, hn]))) <;> simp_all [cmpI] <;> omega
theorem indexFin_run (hL : Has F tLibslicesIndeximplFinimplFin) (w : SlR 9 (Fl Fin.enc) h x xs fp) (f : Fin) : call F Z 272 [.c x, .agg f.enc] h = some (.c (.int .i64 (findI (fun a => decide (f = a)) xs)), h) := by
  have hle := w.le2
  rw [call_run F Z (hL.lk (g := 272) rfl) _ _ rfl]
  simp only [run0, run1, run2, run3, run4, noSlot, ownS, ownK, memN, RO.dst, lk, drop, forget, number, Nat.reduceBEq, cut?, splice?, builds, List.length_cons, List.length_nil, List.drop_succ_cons, List.drop_zero, List.take_succ_cons, List.take_zero, List.cons_append, List.nil_append, List.append_nil, List.drop_nil, List.take_nil, Nat.reduceAdd, Nat.reduceLeDiff, Nat.zero_add, Nat.add_zero, ↓reduceIte, Bool.not_true, Bool.not_false, decide_true, decide_false, eq_self, bne_self_eq_false, List.getElem?_cons_zero, List.getElem?_cons_succ, decide_eq_true_eq, Bool.false_eq_true, Bool.true_eq_false, reduceCtorEq, Nat.le_refl, w.len]
  have key := loop_find (F := F) (Z := Z) (live := [0, 3, 7, 8]) (b := r272L0) xs (fun a => decide (f = a)) (fun i => ⟨[(0, .c x), (7, .c (.int .i64 (xs.length : Nat))), (8, .c (.int .i64 (i : Nat)))], [(3, 3, 0)], [(3, f.enc)], h⟩) (fun i s => lk s.env 4 = some (.c (.int .i64 (i : Nat))) ∧ s.hp = h) fun i hi => by
    have hlt : (i : Int) < xs.length := by omega
    have hws := wrapS i (by omega)
    have hxi := w.idx hi
    have hld := w.load hi
    generalize xs[i] = a at *
    obtain ⟨t, d⟩ := a
    obtain ⟨t', d'⟩ := f
    rw [loop_run]
    conv in (codeF _ _ r272L0 _) => unfold r272L0
    have fe := fin_eqs t' d' t d
    simp only [run0, run1, run2, run3, run4, noSlot, ownS, ownK, memN, RO.dst, lk, drop, forget, number, Nat.reduceBEq, cut?, splice?, builds, List.length_cons, List.length_nil, List.drop_succ_cons, List.drop_zero, List.take_succ_cons, List.take_zero, List.cons_append, List.nil_append, List.append_nil, List.drop_nil, List.take_nil, Nat.reduceAdd, Nat.reduceLeDiff, Nat.zero_add, Nat.add_zero, ↓reduceIte, Bool.not_true, Bool.not_false, decide_true, decide_false, eq_self, bne_self_eq_false, List.getElem?_cons_zero, List.getElem?_cons_succ, decide_eq_true_eq, Bool.false_eq_true, Bool.true_eq_false, reduceCtorEq, Nat.le_refl, hlt, hxi, hld, Fin.enc, fe]
    clear hxi hld fe w
    (repeat' ((first | (rw [gF_if]; split) | (rw [condC_if]; split) | (rw [pickR_if]; split)) <;> (rename_i hh; (try simp only [Bool.not_eq_true, decide_eq_true_eq] at hh); simp only [hh, run0, run1, run2, run3, run4, noSlot, ownS, ownK, memN, RO.dst, lk, drop, forget, number, Nat.reduceBEq, cut?, splice?, builds, List.length_cons, List.length_nil, List.drop_succ_cons, List.drop_zero, List.take_succ_cons, List.take_zero, List.cons_append, List.nil_append, List.append_nil, List.drop_nil, List.take_nil, Nat.reduceAdd, Nat.reduceLeDiff, Nat.zero_add, Nat.add_zero, ↓reduceIte, Bool.not_true, Bool.not_false, decide_true, decide_false, eq_self, bne_self_eq_false, List.getElem?_cons_zero, List.getElem?_cons_succ, decide_eq_true_eq, Bool.false_eq_true, Bool.true_eq_false, reduceCtorEq, Nat.le_refl, hws]))) <;> first
      | exact .inl ⟨by simp_all, rfl⟩
      | exact .inr ⟨by simp_all, _, rfl, rfl, rfl⟩
  have hlt : ¬ (xs.length : Int) < xs.length := by omega
  simp only [show ((0 : Nat) : Int) = 0 from rfl] at key
  rcases key with ⟨k1, k2⟩ | ⟨i, k1, hi, s, k2, k3, k4⟩
  · rw [k2, loop_run]
    conv in (codeF _ _ r272L0 _) => unfold r272L0
    simp only [run0, run1, run2, run3, run4, noSlot, ownS, ownK, memN, RO.dst, lk, drop, forget, number, Nat.reduceBEq, cut?, splice?, builds, List.length_cons, List.length_nil, List.drop_succ_cons, List.drop_zero, List.take_succ_cons, List.take_zero, List.cons_append, List.nil_append, List.append_nil, List.drop_nil, List.take_nil, Nat.reduceAdd, Nat.reduceLeDiff, Nat.zero_add, Nat.add_zero, ↓reduceIte, Bool.not_true, Bool.not_false, decide_true, decide_false, eq_self, bne_self_eq_false, List.getElem?_cons_zero, List.getElem?_cons_succ, decide_eq_true_eq, Bool.false_eq_true, Bool.true_eq_false, reduceCtorEq, Nat.le_refl, hlt, findI, k1]
  · rw [k2]
    simp only [run0, run1, run2, run3, run4, noSlot, ownS, ownK, memN, RO.dst, lk, drop, forget, number, Nat.reduceBEq, cut?, splice?, builds, List.length_cons, List.length_nil, List.drop_succ_cons, List.drop_zero, List.take_succ_cons, List.take_zero, List.cons_append, List.nil_append, List.append_nil, List.drop_nil, List.take_nil, Nat.reduceAdd, Nat.reduceLeDiff, Nat.zero_add, Nat.add_zero, ↓reduceIte, Bool.not_true, Bool.not_false, decide_true, decide_false, eq_self, bne_self_eq_false, List.getElem?_cons_zero, List.getElem?_cons_succ, decide_eq_true_eq, Bool.false_eq_true, Bool.true_eq_false, reduceCtorEq, Nat.le_refl, k3, k4, findI, k1]
theorem containsFin_run (hL : Has F tLibslicesIndeximplFinimplFin) (hC : Has F tLibslicesContainsimplFinimplFin) (w : SlR 9 (Fl Fin.enc) h x xs fp) (f : Fin) : call F Z 266 [.c x, .agg f.enc] h = some (.c (.bool (decide (f ∈ xs))), h) := by
  rw [call_run F Z (hC.lk (g := 266) rfl) _ _ rfl]
  simp only [run0, run1, run2, run3, run4, noSlot, ownS, ownK, memN, RO.dst, lk, drop, forget, number, Nat.reduceBEq, cut?, splice?, builds, List.length_cons, List.length_nil, List.drop_succ_cons, List.drop_zero, List.take_succ_cons, List.take_zero, List.cons_append, List.nil_append, List.append_nil, List.drop_nil, List.take_nil, Nat.reduceAdd, Nat.reduceLeDiff, Nat.zero_add, Nat.add_zero, ↓reduceIte, Bool.not_true, Bool.not_false, decide_true, decide_false, eq_self, bne_self_eq_false, List.getElem?_cons_zero, List.getElem?_cons_succ, decide_eq_true_eq, Bool.false_eq_true, Bool.true_eq_false, reduceCtorEq, Nat.le_refl, Fin.len, Fin.tak, indexFin_run hL w f]
  congr 4
  unfold findI
  cases hf : xs.findIdx? (fun a => decide (f = a)) with
  | none =>
    rw [List.findIdx?_eq_none_iff] at hf
    have : ¬ f ∈ xs := fun hm => by simpa using hf f hm
    simp [this]
  | some i =>
    rw [List.findIdx?_eq_some_iff_getElem] at hf
    obtain ⟨hi, h2, _⟩ := hf
    have : f ∈ xs := by
      have : f = xs[i] := by simpa using h2
      rw [this]; exact List.getElem_mem hi
    simp [this]
theorem Or2_run (hO : Has F tLibcmpOrint) {o : Nat} (a b : Int) (hg : h.get o = some [[.int .i64 a], [.int .i64 b]]) : call F Z 275 [.c (.sl 15 o 0 2)] h = some (.c (.int .i64 (orI a b)), h) := by
  have l0 : ∀ j n, loadP h o 0 j n = cut? [.int .i64 a] j n := fun j n => by simp [loadP, rowOf, hg]
  have l1 : ∀ j n, loadP h o 1 j n = cut? [.int .i64 b] j n := fun j n => by simp [loadP, rowOf, hg]
  have i0 : idxR 15 (some (.sl 15 o 0 2)) (some 0) = some (.ptr o 0 0) := rfl
  have i1 : idxR 15 (some (.sl 15 o 0 2)) (some 1) = some (.ptr o 1 0) := rfl
  have w1 : IntKind.i64.wrap (0 + 1) = 1 := wrapI _ (by omega) (by omega)
  have w2 : IntKind.i64.wrap (1 + 1) = 2 := wrapI _ (by omega) (by omega)
  have c0 : (0 : Int) < ((2 : Nat) : Int) := by omega
  have c1 : (1 : Int) < ((2 : Nat) : Int) := by omega
  have c2 : ¬ (2 : Int) < ((2 : Nat) : Int) := by omega
  rw [call_run F Z (hO.lk (g := 275) rfl) _ _ rfl]
  simp only [run0, run1, run2, run3, run4, noSlot, ownS, ownK, memN, RO.dst, lk, drop, forget, number, Nat.reduceBEq, cut?, splice?, builds, List.length_cons, List.length_nil, List.drop_succ_cons, List.drop_zero, List.take_succ_cons, List.take_zero, List.cons_append, List.nil_append, List.append_nil, List.drop_nil, List.take_nil, Nat.reduceAdd, Nat.reduceLeDiff, Nat.zero_add, Nat.add_zero, ↓reduceIte, Bool.not_true, Bool.not_false, decide_true, decide_false, eq_self, bne_self_eq_false, List.getElem?_cons_zero, List.getElem?_cons_succ, decide_eq_true_eq, Bool.false_eq_true, Bool.true_eq_false, reduceCtorEq, Nat.le_refl]
  rw [loop_run]
  conv in (codeF _ _ r275L0 _) => unfold r275L0
  by_cases ha : a = 0
  · subst ha
    simp only [run0, run1, run2, run3, run4, noSlot, ownS, ownK, memN, RO.dst, lk, drop, forget, number, Nat.reduceBEq, cut?, splice?, builds, List.length_cons, List.length_nil, List.drop_succ_cons, List.drop_zero, List.take_succ_cons, List.take_zero, List.cons_append, List.nil_append, List.append_nil, List.drop_nil, List.take_nil, Nat.reduceAdd, Nat.reduceLeDiff, Nat.zero_add, Nat.add_zero, ↓reduceIte, Bool.not_true, Bool.not_false, decide_true, decide_false, eq_self, bne_self_eq_false, List.getElem?_cons_zero, List.getElem?_cons_succ, decide_eq_true_eq, Bool.false_eq_true, Bool.true_eq_false, reduceCtorEq, Nat.le_refl, c0, i0, l0, w1]
    rw [loop_run]
    conv in (codeF _ _ r275L0 _) => unfold r275L0
    by_cases hb : b = 0
    · subst hb
      simp only [run0, run1, run2, run3, run4, noSlot, ownS, ownK, memN, RO.dst, lk, drop, forget, number, Nat.reduceBEq, cut?, splice?, builds, List.length_cons, List.length_nil, List.drop_succ_cons, List.drop_zero, List.take_succ_cons, List.take_zero, List.cons_append, List.nil_append, List.append_nil, List.drop_nil, List.take_nil, Nat.reduceAdd, Nat.reduceLeDiff, Nat.zero_add, Nat.add_zero, ↓reduceIte, Bool.not_true, Bool.not_false, decide_true, decide_false, eq_self, bne_self_eq_false, List.getElem?_cons_zero, List.getElem?_cons_succ, decide_eq_true_eq, Bool.false_eq_true, Bool.true_eq_false, reduceCtorEq, Nat.le_refl, c1, i1, l1, w2]
      rw [loop_run]
      conv in (codeF _ _ r275L0 _) => unfold r275L0
      simp only [run0, run1, run2, run3, run4, noSlot, ownS, ownK, memN, RO.dst, lk, drop, forget, number, Nat.reduceBEq, cut?, splice?, builds, List.length_cons, List.length_nil, List.drop_succ_cons, List.drop_zero, List.take_succ_cons, List.take_zero, List.cons_append, List.nil_append, List.append_nil, List.drop_nil, List.take_nil, Nat.reduceAdd, Nat.reduceLeDiff, Nat.zero_add, Nat.add_zero, ↓reduceIte, Bool.not_true, Bool.not_false, decide_true, decide_false, eq_self, bne_self_eq_false, List.getElem?_cons_zero, List.getElem?_cons_succ, decide_eq_true_eq, Bool.false_eq_true, Bool.true_eq_false, reduceCtorEq, Nat.le_refl, c2, orI]
    · have hb' : (b != 0) = true := by simpa using hb
      simp only [run0, run1, run2, run3, run4, noSlot, ownS, ownK, memN, RO.dst, lk, drop, forget, number, Nat.reduceBEq, cut?, splice?, builds, List.length_cons, List.length_nil, List.drop_succ_cons, List.drop_zero, List.take_succ_cons, List.take_zero, List.cons_append, List.nil_append, List.append_nil, List.drop_nil, List.take_nil, Nat.reduceAdd, Nat.reduceLeDiff, Nat.zero_add, Nat.add_zero, ↓reduceIte, Bool.not_true, Bool.not_false, decide_true, decide_false, eq_self, bne_self_eq_false, List.getElem?_cons_zero, List.getElem?_cons_succ, decide_eq_true_eq, Bool.false_eq_true, Bool.true_eq_false, reduceCtorEq, Nat.le_refl, c1, i1, l1, hb', orI]
  · have ha' : (a != 0) = true := by simpa using ha
    simp only [run0, run1, run2, run3, run4, noSlot, ownS, ownK, memN, RO.dst, lk, drop, forget, number, Nat.reduceBEq, cut?, splice?, builds, List.length_cons, List.length_nil, List.drop_succ_cons, List.drop_zero, List.take_succ_cons, List.take_zero, List.cons_append, List.nil_append, List.append_nil, List.drop_nil, List.take_nil, Nat.reduceAdd, Nat.reduceLeDiff, Nat.zero_add, Nat.add_zero, ↓reduceIte, Bool.not_true, Bool.not_false, decide_true, decide_false, eq_self, bne_self_eq_false, List.getElem?_cons_zero, List.getElem?_cons_succ, decide_eq_true_eq, Bool.false_eq_true, Bool.true_eq_false, reduceCtorEq, Nat.le_refl, c0, i0, l0, ha', orI, ha]
end
end Go.Proofs.Ytlfepembgjjejaa.A
/- The data of a Account, and its cells. -/
namespace Go.Proofs.Ytlfepembgjjejaa.A
open Go
set_option linter.unusedSimpArgs false
set_option linter.unusedVariables false
structure Account where
  id : Int
  bal : Int
  hold : Int
  due : Int
  tx : Int
  deriving DecidableEq
namespace Account
def enc (t : Account) : List Cell := [.int .u64 t.id, .int .u64 t.bal, .int .u64 t.hold, .int .u64 t.due, .int .i64 t.tx]
theorem len (t : Account) : t.enc.length = 5 := rfl
theorem tak (t : Account) : t.enc.take 5 = t.enc := rfl
def none_ : Account := ⟨0, 0, 0, 0, 0⟩
/-- The numbers are those of the machine. -/
structure Ok (t : Account) : Prop where
  id : 0 ≤ t.id ∧ t.id ≤ 18446744073709551615
  bal : 0 ≤ t.bal ∧ t.bal ≤ 18446744073709551615
  hold : 0 ≤ t.hold ∧ t.hold ≤ 18446744073709551615
  due : 0 ≤ t.due ∧ t.due ≤ 18446744073709551615
  tx : -9223372036854775808 ≤ t.tx ∧ t.tx ≤ 9223372036854775807
end Account
theorem Wf.isAccount {h : Heap} {n : Nat} {cs : List Cell} (w : Wf h (n + 2) shAccount cs) : ∃ t : Account, cs = t.enc ∧ t.Ok := by
  obtain ⟨_, _, rfl, _, ⟨id0, rfl, h0⟩, _, _, rfl, _, ⟨bal0, rfl, h1⟩, _, _, rfl, _, ⟨hold0, rfl, h2⟩, _, _, rfl, _, ⟨due0, rfl, h3⟩, _, _, rfl, _, ⟨tx0, rfl, h4⟩, rfl⟩ := w
  exact ⟨⟨id0, bal0, hold0, due0, tx0⟩, rfl, ⟨wfU h0, wfU h1, wfU h2, wfU h3, wfI h4⟩⟩
theorem Wf.isAccountS {h : Heap} {n : Nat} {x : Cell} (w : Wf h (n + 3) shAccountS [x]) : ∃ xs fp, SlR 12 (Fl Account.enc) h x xs fp ∧ ∀ t, t ∈ xs → t.Ok :=
  SlR.ofWf (fun r hr => by obtain ⟨t, rfl, ht⟩ := Wf.isAccount hr.2; exact ⟨t, [], ⟨rfl, rfl⟩, ht⟩) w
theorem Wf.isAccountS' {h : Heap} {n : Nat} {a : List Cell} (w : Wf h (n + 3) shAccountS a) : ∃ x xs fp, a = [x] ∧ SlR 12 (Fl Account.enc) h x xs fp ∧ ∀ t, t ∈ xs → t.Ok := by
  have hx : ∃ x, a = [x] := by rcases w with w | ⟨_, _, w, _⟩ <;> exact ⟨_, w⟩
  obtain ⟨x, rfl⟩ := hx
  obtain ⟨xs, fp, v, ok⟩ := Wf.isAccountS w
  exact ⟨x, xs, fp, rfl, v, ok⟩
end Go.Proofs.Ytlfepembgjjejaa.A
/- What the converters of Account compute. -/
namespace Go.Proofs.Ytlfepembgjjejaa.A
open Go
set_option linter.unusedSimpArgs false
set_option linter.unusedVariables false
section
variable {F : Nat → Option RF} {Z : CallF} {h : Heap} {x y : Cell} {xs ys : List Account} {fp fq : List Nat}
def Account.zero : List Cell := [.int .u64 0, .int .u64 0, .int .u64 0, .int .u64 0, .int .i64 0]
theorem toAccount_run (hL : Has F tLAccount) (p : Account) (h : Heap) : call F Z 141 [.agg p.enc] h = some (.agg p.enc, h) := by
  rw [call_run F Z (hL.lk (g := 141) rfl) _ _ rfl]
  simp only [Account.enc, run0, run1, run2, run3, run4, noSlot, ownS, ownK, memN, RO.dst, lk, drop, forget, number, Nat.reduceBEq, cut?, splice?, builds, List.length_cons, List.length_nil, List.drop_succ_cons, List.drop_zero, List.take_succ_cons, List.take_zero, List.cons_append, List.nil_append, List.append_nil, List.drop_nil, List.take_nil, Nat.reduceAdd, Nat.reduceLeDiff, Nat.zero_add, Nat.add_zero, ↓reduceIte, Bool.not_true, Bool.not_false, decide_true, decide_false, eq_self, bne_self_eq_false, List.getElem?_cons_zero, List.getElem?_cons_succ, decide_eq_true_eq, Bool.false_eq_true, Bool.true_eq_false, reduceCtorEq, Nat.le_refl]
set_option maxHeartbeats 1000000 in
theorem eqAccount_run (hL : Has F tLAccount) (p q : Account) (h : Heap) : call F Z 142 [.agg p.enc, .agg q.enc] h = some (.c (.bool (decide (p = q))), h) := by
  rw [call_run F Z (hL.lk (g := 142) rfl) _ _ rfl]
  obtain ⟨id1, bal1, hold1, due1, tx1⟩ := p
  obtain ⟨id2, bal2, hold2, due2, tx2⟩ := q
  simp only [Account.enc, run0, run1, run2, run3, run4, noSlot, ownS, ownK, memN, RO.dst, lk, drop, forget, number, Nat.reduceBEq, cut?, splice?, builds, List.length_cons, List.length_nil, List.drop_succ_cons, List.drop_zero, List.take_succ_cons, List.take_zero, List.cons_append, List.nil_append, List.append_nil, List.drop_nil, List.take_nil, Nat.reduceAdd, Nat.reduceLeDiff, Nat.zero_add, Nat.add_zero, ↓reduceIte, Bool.not_true, Bool.not_false, decide_true, decide_false, eq_self, bne_self_eq_false, List.getElem?_cons_zero, List.getElem?_cons_succ, decide_eq_true_eq, Bool.false_eq_true, Bool.true_eq_false, reduceCtorEq, Nat.le_refl]
  (repeat' ((first | (rw [gF_if]; split) | (rw [condC_if]; split) | (rw [pickR_if]; split)) <;> (rename_i hh; (try simp only [Bool.not_eq_true, decide_eq_true_eq] at hh); simp only [hh, run0, run1, run2, run3, run4, noSlot, ownS, ownK, memN, RO.dst, lk, drop, forget, number, Nat.reduceBEq, cut?, splice?, builds, List.length_cons, List.length_nil, List.drop_succ_cons, List.drop_zero, List.take_succ_cons, List.take_zero, List.cons_append, List.nil_append, List.append_nil, List.drop_nil, List.take_nil, Nat.reduceAdd, Nat.reduceLeDiff, Nat.zero_add, Nat.add_zero, ↓reduceIte, Bool.not_true, Bool.not_false, decide_true, decide_false, eq_self, bne_self_eq_false, List.getElem?_cons_zero, List.getElem?_cons_succ, decide_eq_true_eq, Bool.false_eq_true, Bool.true_eq_false, reduceCtorEq, Nat.le_refl]))) <;> refine fin_bool ?_ <;> simp_all <;> (try (intros; omega))
theorem szAccountS_run (hL : Has F tLAccount) (w : SlR 12 (Fl Account.enc) h x xs fp) (left : Int) (h1 : 0 ≤ left) (h2 : left ≤ 1048576) : call F Z 136 [.c x, .c (.int .i64 left)] h = some (.c (.int .i64 (if left - xs.length < 0 then -1 else left - xs.length)), h) := by
  have := w.le2
  rw [call_run F Z (hL.lk (g := 136) rfl) _ _ rfl]
  simp only [run0, run1, run2, run3, run4, noSlot, ownS, ownK, memN, RO.dst, lk, drop, forget, number, Nat.reduceBEq, cut?, splice?, builds, List.length_cons, List.length_nil, List.drop_succ_cons, List.drop_zero, List.take_succ_cons, List.take_zero, List.cons_append, List.nil_append, List.append_nil, List.drop_nil, List.take_nil, Nat.reduceAdd, Nat.reduceLeDiff, Nat.zero_add, Nat.add_zero, ↓reduceIte, Bool.not_true, Bool.not_false, decide_true, decide_false, eq_self, bne_self_eq_false, List.getElem?_cons_zero, List.getElem?_cons_succ, decide_eq_true_eq, Bool.false_eq_true, Bool.true_eq_false, reduceCtorEq, Nat.le_refl, w.len, wrapI (left - xs.length) (by omega) (by omega)]
  (repeat' ((first | (rw [gF_if]; split) | (rw [condC_if]; split) | (rw [pickR_if]; split)) <;> (rename_i hh; (try simp only [Bool.not_eq_true, decide_eq_true_eq] at hh); simp only [hh, run0, run1, run2, run3, run4, noSlot, ownS, ownK, memN, RO.dst, lk, drop, forget, number, Nat.reduceBEq, cut?, splice?, builds, List.length_cons, List.length_nil, List.drop_succ_cons, List.drop_zero, List.take_succ_cons, List.take_zero, List.cons_append, List.nil_append, List.append_nil, List.drop_nil, List.take_nil, Nat.reduceAdd, Nat.reduceLeDiff, Nat.zero_add, Nat.add_zero, ↓reduceIte, Bool.not_true, Bool.not_false, decide_true, decide_false, eq_self, bne_self_eq_false, List.getElem?_cons_zero, List.getElem?_cons_succ, decide_eq_true_eq, Bool.false_eq_true, Bool.true_eq_false, reduceCtorEq, Nat.le_refl]))) <;> simp_all
theorem szAccountS_c (hL : Has F tLAccount) (w : SlR 12 (Fl Account.enc) h x xs fp) (left : Int) (h1 : 0 ≤ left) (h2 : left ≤ 1048576) : ∃ r, call F Z 136 [.c x, .c (.int .i64 left)] h = some (.c (.int .i64 r), h) ∧ r ≤ left ∧ (0 ≤ r → xs.length ≤ 1048576) :=
  ⟨_, szAccountS_run hL w left h1 h2, by split <;> omega, by split <;> omega⟩
theorem toAccount_lit (hL : Has F tLAccount) (id1 bal1 hold1 due1 tx1 : Int) (h : Heap) : call F Z 141 [.agg [.int .u64 id1, .int .u64 bal1, .int .u64 hold1, .int .u64 due1, .int .i64 tx1]] h = some (.agg [.int .u64 id1, .int .u64 bal1, .int .u64 hold1, .int .u64 due1, .int .i64 tx1], h) := toAccount_run hL ⟨id1, bal1, hold1, due1, tx1⟩ h
theorem eqAccount_lit (hL : Has F tLAccount) (id1 bal1 hold1 due1 tx1 id2 bal2 hold2 due2 tx2 : Int) (h : Heap) : call F Z 142 [.agg [.int .u64 id1, .int .u64 bal1, .int .u64 hold1, .int .u64 due1, .int .i64 tx1], .agg [.int .u64 id2, .int .u64 bal2, .int .u64 hold2, .int .u64 due2, .int .i64 tx2]] h = some (.c (.bool (decide ((⟨id1, bal1, hold1, due1, tx1⟩ : Account) = ⟨id2, bal2, hold2, due2, tx2⟩))), h) := eqAccount_run hL ⟨id1, bal1, hold1, due1, tx1⟩ ⟨id2, bal2, hold2, due2, tx2⟩ h
theorem toAccountS_run (hL : Has F tLAccount) (hf : h.floor ≤ h.next) (w : SlR 12 (Fl Account.enc) h x xs fp) (hn : xs.length ≤ 1048576) : call F Z 137 [.c x] h = some (.c (.sl 11 h.next 0 xs.length), h.push (xs.map Account.enc)) := by
  rw [call_run F Z (hL.lk (g := 137) rfl) _ _ rfl]
  simp only [run0, run1, run2, run3, run4, noSlot, ownS, ownK, memN, RO.dst, lk, drop, forget, number, Nat.reduceBEq, cut?, splice?, builds, List.length_cons, List.length_nil, List.drop_succ_cons, List.drop_zero, List.take_succ_cons, List.take_zero, List.cons_append, List.nil_append, List.append_nil, List.drop_nil, List.take_nil, Nat.reduceAdd, Nat.reduceLeDiff, Nat.zero_add, Nat.add_zero, ↓reduceIte, Bool.not_true, Bool.not_false, decide_true, decide_false, eq_self, bne_self_eq_false, List.getElem?_cons_zero, List.getElem?_cons_succ, decide_eq_true_eq, Bool.false_eq_true, Bool.true_eq_false, reduceCtorEq, Nat.le_refl, w.len]
  rw [if_pos (by omega)]
  simp only [run0, run1, run2, run3, run4, noSlot, ownS, ownK, memN, RO.dst, lk, drop, forget, number, Nat.reduceBEq, cut?, splice?, builds, List.length_cons, List.length_nil, List.drop_succ_cons, List.drop_zero, List.take_succ_cons, List.take_zero, List.cons_append, List.nil_append, List.append_nil, List.drop_nil, List.take_nil, Nat.reduceAdd, Nat.reduceLeDiff, Nat.zero_add, Nat.add_zero, ↓reduceIte, Bool.not_true, Bool.not_false, decide_true, decide_false, eq_self, bne_self_eq_false, List.getElem?_cons_zero, List.getElem?_cons_succ, decide_eq_true_eq, Bool.false_eq_true, Bool.true_eq_false, reduceCtorEq, Nat.le_refl, Int.toNat_natCast]
  have key : loop F Z [0, 3, 4] r137L0 ⟨[(0, .c x), (3, .c (.sl 11 h.next 0 xs.length)), (4, .c (.int .i64 (0 : Nat)))], [], [], h.push (fillR Account.enc Account.zero xs 0)⟩ = loop F Z [0, 3, 4] r137L0 ⟨[(0, .c x), (3, .c (.sl 11 h.next 0 xs.length)), (4, .c (.int .i64 (xs.length : Nat)))], [], [], h.push (fillR Account.enc Account.zero xs xs.length)⟩ :=
    loop_goesF xs.length (fun i => ⟨[(0, .c x), (3, .c (.sl 11 h.next 0 xs.length)), (4, .c (.int .i64 (i : Nat)))], [], [], h.push (fillR Account.enc Account.zero xs i)⟩) fun i hi => by
      have w' := w.mono (Fl.ok _) (HExt.push h (fillR Account.enc Account.zero xs i))
      have hlt : (i : Int) < xs.length := by omega
      have h0 : (0 : Int) ≤ i := by omega
      rw [loop_run]
      simp only [r137L0, run0, run1, run2, run3, run4, noSlot, ownS, ownK, memN, RO.dst, lk, drop, forget, number, Nat.reduceBEq, cut?, splice?, builds, List.length_cons, List.length_nil, List.drop_succ_cons, List.drop_zero, List.take_succ_cons, List.take_zero, List.cons_append, List.nil_append, List.append_nil, List.drop_nil, List.take_nil, Nat.reduceAdd, Nat.reduceLeDiff, Nat.zero_add, Nat.add_zero, ↓reduceIte, Bool.not_true, Bool.not_false, decide_true, decide_false, eq_self, bne_self_eq_false, List.getElem?_cons_zero, List.getElem?_cons_succ, decide_eq_true_eq, Bool.false_eq_true, Bool.true_eq_false, reduceCtorEq, Nat.le_refl, w.len, hlt, w.idx hi, w'.load hi, Account.len, Account.tak, toAccount_run hL, h0, and_self, Int.toNat_natCast, storeP_push hf (fillR_get Account.enc Account.zero xs hi) (Account.len xs[i]), wrapS i (by omega)]
      rw [← fillR_set Account.enc Account.zero xs hi]
  rw [fillR_0] at key
  rw [fillR_n] at key
  rw [show ((0 : Nat) : Int) = 0 from rfl] at key
  simp only [Account.zero] at key
  rw [key, loop_run]
  have hlt : ¬ (xs.length : Int) < xs.length := by omega
  simp only [r137L0, run0, run1, run2, run3, run4, noSlot, ownS, ownK, memN, RO.dst, lk, drop, forget, number, Nat.reduceBEq, cut?, splice?, builds, List.length_cons, List.length_nil, List.drop_succ_cons, List.drop_zero, List.take_succ_cons, List.take_zero, List.cons_append, List.nil_append, List.append_nil, List.drop_nil, List.take_nil, Nat.reduceAdd, Nat.reduceLeDiff, Nat.zero_add, Nat.add_zero, ↓reduceIte, Bool.not_true, Bool.not_false, decide_true, decide_false, eq_self, bne_self_eq_false, List.getElem?_cons_zero, List.getElem?_cons_succ, decide_eq_true_eq, Bool.false_eq_true, Bool.true_eq_false, reduceCtorEq, Nat.le_refl, w.len, hlt]
theorem toAccountS_c (hL : Has F tLAccount) (hf : h.floor ≤ h.next) (w : SlR 12 (Fl Account.enc) h x xs fp) (hn : xs.length ≤ 1048576) : ∃ y h' fq, call F Z 137 [.c x] h = some (.c y, h') ∧ On h h' ∧ SlR 11 (Fl Account.enc) h' y xs fq ∧ Fre h fq :=
  ⟨_, _, _, toAccountS_run hL hf w hn, On.push _ _, SlR.ofFlat w.le (push_get _ _) (by rw [push_next]; omega), Fre.one h⟩
theorem eqAccountS_run (hL : Has F tLAccount) (w : SlR 11 (Fl Account.enc) h x xs fp) (v : SlR 11 (Fl Account.enc) h y ys fq) : call F Z 139 [.c x, .c y] h = some (.c (.bool (decide (xs = ys))), h) := by
  have hw := w.le2
  have hv := v.le2
  rw [call_run F Z (hL.lk (g := 139) rfl) _ _ rfl]
  simp only [run0, run1, run2, run3, run4, noSlot, ownS, ownK, memN, RO.dst, lk, drop, forget, number, Nat.reduceBEq, cut?, splice?, builds, List.length_cons, List.length_nil, List.drop_succ_cons, List.drop_zero, List.take_succ_cons, List.take_zero, List.cons_append, List.nil_append, List.append_nil, List.drop_nil, List.take_nil, Nat.reduceAdd, Nat.reduceLeDiff, Nat.zero_add, Nat.add_zero, ↓reduceIte, Bool.not_true, Bool.not_false, decide_true, decide_false, eq_self, bne_self_eq_false, List.getElem?_cons_zero, List.getElem?_cons_succ, decide_eq_true_eq, Bool.false_eq_true, Bool.true_eq_false, reduceCtorEq, Nat.le_refl, w.len, v.len]
  rw [condC_if]
  split
  · rename_i hne
    have : xs ≠ ys := by rintro rfl; simp at hne
    simp only [run0, run1, run2, run3, run4, noSlot, ownS, ownK, memN, RO.dst, lk, drop, forget, number, Nat.reduceBEq, cut?, splice?, builds, List.length_cons, List.length_nil, List.drop_succ_cons, List.drop_zero, List.take_succ_cons, List.take_zero, List.cons_append, List.nil_append, List.append_nil, List.drop_nil, List.take_nil, Nat.reduceAdd, Nat.reduceLeDiff, Nat.zero_add, Nat.add_zero, ↓reduceIte, Bool.not_true, Bool.not_false, decide_true, decide_false, eq_self, bne_self_eq_false, List.getElem?_cons_zero, List.getElem?_cons_succ, decide_eq_true_eq, Bool.false_eq_true, Bool.true_eq_false, reduceCtorEq, Nat.le_refl, this]
  · rename_i he
    have he : xs.length = ys.length := by simp at he; omega
    simp only [run0, run1, run2, run3, run4, noSlot, ownS, ownK, memN, RO.dst, lk, drop, forget, number, Nat.reduceBEq, cut?, splice?, builds, List.length_cons, List.length_nil, List.drop_succ_cons, List.drop_zero, List.take_succ_cons, List.take_zero, List.cons_append, List.nil_append, List.append_nil, List.drop_nil, List.take_nil, Nat.reduceAdd, Nat.reduceLeDiff, Nat.zero_add, Nat.add_zero, ↓reduceIte, Bool.not_true, Bool.not_false, decide_true, decide_false, eq_self, bne_self_eq_false, List.getElem?_cons_zero, List.getElem?_cons_succ, decide_eq_true_eq, Bool.false_eq_true, Bool.true_eq_false, reduceCtorEq, Nat.le_refl]
    have key := loop_allN (F := F) (Z := Z) (live := [0, 1, 5]) (b := r139L0) xs.length (fun i => ⟨[(0, .c x), (1, .c y), (5, .c (.int .i64 (i : Nat)))], [], [], h⟩) (fun i => decide (xs[i]? = ys[i]?)) (fun s => lk s.env 4 = some (.c (.bool false)) ∧ s.hp = h) fun i hi => by
      have hi' : i < ys.length := by omega
      have hlt : (i : Int) < xs.length := by omega
      rw [loop_run]
      simp only [r139L0, run0, run1, run2, run3, run4, noSlot, ownS, ownK, memN, RO.dst, lk, drop, forget, number, Nat.reduceBEq, cut?, splice?, builds, List.length_cons, List.length_nil, List.drop_succ_cons, List.drop_zero, List.take_succ_cons, List.take_zero, List.cons_append, List.nil_append, List.append_nil, List.drop_nil, List.take_nil, Nat.reduceAdd, Nat.reduceLeDiff, Nat.zero_add, Nat.add_zero, ↓reduceIte, Bool.not_true, Bool.not_false, decide_true, decide_false, eq_self, bne_self_eq_false, List.getElem?_cons_zero, List.getElem?_cons_succ, decide_eq_true_eq, Bool.false_eq_true, Bool.true_eq_false, reduceCtorEq, Nat.le_refl, w.len, hlt, w.idx hi, v.idx hi', w.load hi, v.load hi', Account.len, Account.tak, eqAccount_run hL, wrapS i (by omega)]
      rw [List.getElem?_eq_getElem hi, List.getElem?_eq_getElem hi']
      (repeat' ((first | (rw [gF_if]; split) | (rw [condC_if]; split) | (rw [pickR_if]; split)) <;> (rename_i hh; (try simp only [Bool.not_eq_true, decide_eq_true_eq] at hh); simp only [hh, run0, run1, run2, run3, run4, noSlot, ownS, ownK, memN, RO.dst, lk, drop, forget, number, Nat.reduceBEq, cut?, splice?, builds, List.length_cons, List.length_nil, List.drop_succ_cons, List.drop_zero, List.take_succ_cons, List.take_zero, List.cons_append, List.nil_append, List.append_nil, List.drop_nil, List.take_nil, Nat.reduceAdd, Nat.reduceLeDiff, Nat.zero_add, Nat.add_zero, ↓reduceIte, Bool.not_true, Bool.not_false, decide_true, decide_false, eq_self, bne_self_eq_false, List.getElem?_cons_zero, List.getElem?_cons_succ, decide_eq_true_eq, Bool.false_eq_true, Bool.true_eq_false, reduceCtorEq, Nat.le_refl, wrapS i (by omega)])))
      · exact .inr ⟨by simp_all, _, rfl, rfl, rfl⟩
      · exact .inl ⟨by simp_all, rfl⟩
    rw [all_same he] at key
    rcases key with ⟨k1, k2⟩ | ⟨k1, s, k2, k3, k4⟩
    · simp only [show ((0 : Nat) : Int) = 0 from rfl] at k2
      rw [k2, loop_run]
      have hlt : ¬ (xs.length : Int) < xs.length := by omega
      simp only [r139L0, run0, run1, run2, run3, run4, noSlot, ownS, ownK, memN, RO.dst, lk, drop, forget, number, Nat.reduceBEq, cut?, splice?, builds, List.length_cons, List.length_nil, List.drop_succ_cons, List.drop_zero, List.take_succ_cons, List.take_zero, List.cons_append, List.nil_append, List.append_nil, List.drop_nil, List.take_nil, Nat.reduceAdd, Nat.reduceLeDiff, Nat.zero_add, Nat.add_zero, ↓reduceIte, Bool.not_true, Bool.not_false, decide_true, decide_false, eq_self, bne_self_eq_false, List.getElem?_cons_zero, List.getElem?_cons_succ, decide_eq_true_eq, Bool.false_eq_true, Bool.true_eq_false, reduceCtorEq, Nat.le_refl, w.len, hlt, k1]
    · simp only [show ((0 : Nat) : Int) = 0 from rfl] at k2
      rw [k2]
      simp only [run0, run1, run2, run3, run4, noSlot, ownS, ownK, memN, RO.dst, lk, drop, forget, number, Nat.reduceBEq, cut?, splice?, builds, List.length_cons, List.length_nil, List.drop_succ_cons, List.drop_zero, List.take_succ_cons, List.take_zero, List.cons_append, List.nil_append, List.append_nil, List.drop_nil, List.take_nil, Nat.reduceAdd, Nat.reduceLeDiff, Nat.zero_add, Nat.add_zero, ↓reduceIte, Bool.not_true, Bool.not_false, decide_true, decide_false, eq_self, bne_self_eq_false, List.getElem?_cons_zero, List.getElem?_cons_succ, decide_eq_true_eq, Bool.false_eq_true, Bool.true_eq_false, reduceCtorEq, Nat.le_refl, k3, k4, k1]
/-- What is written to mark one. -/
def Account.mk_ (k : Int) : Account := ⟨k, k + 1, k + 1 + 1, k + 1 + 1 + 1, k + 1 + 1 + 1 + 1⟩
def Account.marks (n : Nat) (k : Int) : List Account := (List.range n).map fun i : Nat => Account.mk_ (k + 5 * (i : Int))
theorem Account.marks_len (n : Nat) (k : Int) : (Account.marks n k).length = n := by simp [Account.marks]
set_option maxHeartbeats 1000000 in
theorem markAccountS_run (hL : Has F tLAccount) (w : SlR 11 (Fl Account.enc) h x xs fp) (hlo : ∀ id, id ∈ fp → h.floor ≤ id) (k : Int) (h1 : 0 ≤ k) (h2 : k + 5 * xs.length ≤ 9200000000000000000) :
    ∃ h', call F Z 261 [.c x, .c (.int .i64 k)] h = some (.c (.int .i64 (k + 5 * xs.length)), h') ∧ Mk h h' fp ∧ SlR 11 (Fl Account.enc) h' x (Account.marks xs.length k) fp := by
  have hle := w.le2
  have hlm := Account.marks_len xs.length k
  rw [call_run F Z (hL.lk (g := 261) rfl) _ _ rfl]
  simp only [run0, run1, run2, run3, run4, noSlot, ownS, ownK, memN, RO.dst, lk, drop, forget, number, Nat.reduceBEq, cut?, splice?, builds, List.length_cons, List.length_nil, List.drop_succ_cons, List.drop_zero, List.take_succ_cons, List.take_zero, List.cons_append, List.nil_append, List.append_nil, List.drop_nil, List.take_nil, Nat.reduceAdd, Nat.reduceLeDiff, Nat.zero_add, Nat.add_zero, ↓reduceIte, Bool.not_true, Bool.not_false, decide_true, decide_false, eq_self, bne_self_eq_false, List.getElem?_cons_zero, List.getElem?_cons_succ, decide_eq_true_eq, Bool.false_eq_true, Bool.true_eq_false, reduceCtorEq, Nat.le_refl]
  rcases w.flat with ⟨rfl, rfl, rfl⟩ | ⟨hx, hg, hn, rfl⟩
  · rw [loop_run]
    simp only [r261L0, run0, run1, run2, run3, run4, noSlot, ownS, ownK, memN, RO.dst, lk, drop, forget, number, Nat.reduceBEq, cut?, splice?, builds, List.length_cons, List.length_nil, List.drop_succ_cons, List.drop_zero, List.take_succ_cons, List.take_zero, List.cons_append, List.nil_append, List.append_nil, List.drop_nil, List.take_nil, Nat.reduceAdd, Nat.reduceLeDiff, Nat.zero_add, Nat.add_zero, ↓reduceIte, Bool.not_true, Bool.not_false, decide_true, decide_false, eq_self, bne_self_eq_false, List.getElem?_cons_zero, List.getElem?_cons_succ, decide_eq_true_eq, Bool.false_eq_true, Bool.true_eq_false, reduceCtorEq, Nat.le_refl, show ¬ ((0 : Int) < 0) from by omega]
    exact ⟨h, by simp, Mk.refl _ _, by simpa [Account.marks] using w⟩
  · have hfl : h.floor ≤ x.sid := hlo _ (by simp)
    have key : loop F Z [0, 1, 5] r261L0 ⟨[(0, .c x), (1, .c (.int .i64 (k + 5 * (0 : Nat)))), (5, .c (.int .i64 (0 : Nat)))], [], [], h.put x.sid (mixR Account.enc (Account.marks xs.length k) xs 0)⟩ = loop F Z [0, 1, 5] r261L0 ⟨[(0, .c x), (1, .c (.int .i64 (k + 5 * (xs.length : Nat)))), (5, .c (.int .i64 (xs.length : Nat)))], [], [], h.put x.sid (mixR Account.enc (Account.marks xs.length k) xs xs.length)⟩ :=
      loop_goesF xs.length (fun i => ⟨[(0, .c x), (1, .c (.int .i64 (k + 5 * (i : Nat)))), (5, .c (.int .i64 (i : Nat)))], [], [], h.put x.sid (mixR Account.enc (Account.marks xs.length k) xs i)⟩) fun i hi => by
        have hlt : (i : Int) < xs.length := by omega
        have hi2 : i < (mixR Account.enc (Account.marks xs.length k) xs i).length := by rw [mixR_len _ hlm]; exact hi
        have hms : (Account.marks xs.length k)[i]'(by omega) = Account.mk_ (k + 5 * i) := by simp [Account.marks]
        have hset := mixR_set Account.enc hlm hi
        rw [hms] at hset
        have hput := storeP_put (h := h) hfl hi2
        rw [← mixR_cur Account.enc hlm hi, ← hset, loop_run]
        simp (disch := omega) only [r261L0, run0, run1, run2, run3, run4, noSlot, ownS, ownK, memN, RO.dst, lk, drop, forget, number, Nat.reduceBEq, cut?, splice?, builds, List.length_cons, List.length_nil, List.drop_succ_cons, List.drop_zero, List.take_succ_cons, List.take_zero, List.cons_append, List.nil_append, List.append_nil, List.drop_nil, List.take_nil, Nat.reduceAdd, Nat.reduceLeDiff, Nat.zero_add, Nat.add_zero, ↓reduceIte, Bool.not_true, Bool.not_false, decide_true, decide_false, eq_self, bne_self_eq_false, List.getElem?_cons_zero, List.getElem?_cons_succ, decide_eq_true_eq, Bool.false_eq_true, Bool.true_eq_false, reduceCtorEq, Nat.le_refl, w.len, hlt, w.idx hi, hput, putM_s, wrapI1, wrapU1, Account.enc, Int.reduceEq, Account.mk_]
        rw [show k + 5 * ((i : Nat) : Int) + 1 + 1 + 1 + 1 + 1 = k + 5 * ((i + 1 : Nat) : Int) from by omega, show ((i : Nat) : Int) + 1 = ((i + 1 : Nat) : Int) from rfl]
    rw [mixR_0, put_same hg, mixR_n _ hlm] at key
    simp only [show ((0 : Nat) : Int) = 0 from rfl, Int.mul_zero, Int.add_zero] at key
    rw [key, loop_run]
    have hlt : ¬ (xs.length : Int) < xs.length := by omega
    simp only [r261L0, run0, run1, run2, run3, run4, noSlot, ownS, ownK, memN, RO.dst, lk, drop, forget, number, Nat.reduceBEq, cut?, splice?, builds, List.length_cons, List.length_nil, List.drop_succ_cons, List.drop_zero, List.take_succ_cons, List.take_zero, List.cons_append, List.nil_append, List.append_nil, List.drop_nil, List.take_nil, Nat.reduceAdd, Nat.reduceLeDiff, Nat.zero_add, Nat.add_zero, ↓reduceIte, Bool.not_true, Bool.not_false, decide_true, decide_false, eq_self, bne_self_eq_false, List.getElem?_cons_zero, List.getElem?_cons_succ, decide_eq_true_eq, Bool.false_eq_true, Bool.true_eq_false, reduceCtorEq, Nat.le_refl, w.len, hlt]
    refine ⟨_, rfl, Mk.put _ _ _, ?_⟩
    have := SlR.ofFlat (tag := 11) (h := h.put x.sid ((Account.marks xs.length k).map Account.enc)) (enc := Account.enc) (xs := Account.marks xs.length k) (id := x.sid) (by rw [hlm]; exact w.le) (by simp [Heap.put]) hn
    rw [hlm, ← hx] at this
    exact this
set_option maxHeartbeats 1000000 in
theorem heldAccountS_run (hL : Has F tLAccount) {n : Nat} {k : Int} (w : SlR 11 (Fl Account.enc) h x (Account.marks n k) fp) (h1 : 0 ≤ k) (h2 : k + 5 * n ≤ 9200000000000000000) :
    call F Z 262 [.c x, .c (.int .i64 k)] h = some (.c (.int .i64 (k + 5 * n)), h) := by
  have hle := w.le2
  have hwl := w.len
  rw [Account.marks_len] at hle hwl
  rw [call_run F Z (hL.lk (g := 262) rfl) _ _ rfl]
  simp only [run0, run1, run2, run3, run4, noSlot, ownS, ownK, memN, RO.dst, lk, drop, forget, number, Nat.reduceBEq, cut?, splice?, builds, List.length_cons, List.length_nil, List.drop_succ_cons, List.drop_zero, List.take_succ_cons, List.take_zero, List.cons_append, List.nil_append, List.append_nil, List.drop_nil, List.take_nil, Nat.reduceAdd, Nat.reduceLeDiff, Nat.zero_add, Nat.add_zero, ↓reduceIte, Bool.not_true, Bool.not_false, decide_true, decide_false, eq_self, bne_self_eq_false, List.getElem?_cons_zero, List.getElem?_cons_succ, decide_eq_true_eq, Bool.false_eq_true, Bool.true_eq_false, reduceCtorEq, Nat.le_refl]
  have key : loop F Z [0, 1, 5] r262L0 ⟨[(0, .c x), (1, .c (.int .i64 (k + 5 * (0 : Nat)))), (5, .c (.int .i64 (0 : Nat)))], [], [], h⟩ = loop F Z [0, 1, 5] r262L0 ⟨[(0, .c x), (1, .c (.int .i64 (k + 5 * (n : Nat)))), (5, .c (.int .i64 (n : Nat)))], [], [], h⟩ :=
    loop_goesF n (fun i => ⟨[(0, .c x), (1, .c (.int .i64 (k + 5 * (i : Nat)))), (5, .c (.int .i64 (i : Nat)))], [], [], h⟩) fun i hi0 => by
      have hi : i < (Account.marks n k).length := by rw [Account.marks_len]; exact hi0
      have hlt : (i : Int) < n := by omega
      have hms : (Account.marks n k)[i] = Account.mk_ (k + 5 * i) := by simp [Account.marks]
      have hld := w.load hi
      rw [hms] at hld
      rw [loop_run]
      simp (disch := omega) only [r262L0, run0, run1, run2, run3, run4, noSlot, ownS, ownK, memN, RO.dst, lk, drop, forget, number, Nat.reduceBEq, cut?, splice?, builds, List.length_cons, List.length_nil, List.drop_succ_cons, List.drop_zero, List.take_succ_cons, List.take_zero, List.cons_append, List.nil_append, List.append_nil, List.drop_nil, List.take_nil, Nat.reduceAdd, Nat.reduceLeDiff, Nat.zero_add, Nat.add_zero, ↓reduceIte, Bool.not_true, Bool.not_false, decide_true, decide_false, eq_self, bne_self_eq_false, List.getElem?_cons_zero, List.getElem?_cons_succ, decide_eq_true_eq, Bool.false_eq_true, Bool.true_eq_false, reduceCtorEq, Nat.le_refl, hwl, hlt, w.idx hi, hld, wrapI1, wrapU1, Account.enc, Account.mk_, Int.reduceEq]
      rw [show k + 5 * ((i : Nat) : Int) + 1 + 1 + 1 + 1 + 1 = k + 5 * ((i + 1 : Nat) : Int) from by omega, show ((i : Nat) : Int) + 1 = ((i + 1 : Nat) : Int) from rfl]
  simp only [show ((0 : Nat) : Int) = 0 from rfl, Int.mul_zero, Int.add_zero] at key
  rw [key, loop_run]
  have hlt : ¬ (n : Int) < n := by omega
  simp only [r262L0, run0, run1, run2, run3, run4, noSlot, ownS, ownK, memN, RO.dst, lk, drop, forget, number, Nat.reduceBEq, cut?, splice?, builds, List.length_cons, List.length_nil, List.drop_succ_cons, List.drop_zero, List.take_succ_cons, List.take_zero, List.cons_append, List.nil_append, List.append_nil, List.drop_nil, List.take_nil, Nat.reduceAdd, Nat.reduceLeDiff, Nat.zero_add, Nat.add_zero, ↓reduceIte, Bool.not_true, Bool.not_false, decide_true, decide_false, eq_self, bne_self_eq_false, List.getElem?_cons_zero, List.getElem?_cons_succ, decide_eq_true_eq, Bool.false_eq_true, Bool.true_eq_false, reduceCtorEq, Nat.le_refl, hwl, hlt]
end
end Go.Proofs.Ytlfepembgjjejaa.A
/- The data of a Book with its memory, and what its converters compute. -/
namespace Go.Proofs.Ytlfepembgjjejaa.A
open Go
set_option linter.unusedSimpArgs false
set_option linter.unusedVariables false
structure Book where
  list : List Account
  deriving DecidableEq
def Book.RL : Rel Book := fun h cs t fp => ∃ x1 p1, cs = [x1] ∧ fp = p1 ∧ SlR 12 (Fl Account.enc) h x1 t.list p1
theorem Book.okL : RelOk Book.RL where
  lt := by
    rintro h cs t fp ⟨x1, p1, rfl, rfl, w1⟩ id hid
    exact w1.lt (Fl.ok _) id hid
  mv := by
    rintro h h' cs t fp ⟨x1, p1, rfl, rfl, w1⟩ hn hg
    exact ⟨x1, _, rfl, rfl, w1.mv (Fl.ok _) hn hg⟩
def Book.RI : Rel Book := fun h cs t fp => ∃ x1 p1, cs = [x1] ∧ fp = p1 ∧ SlR 11 (Fl Account.enc) h x1 t.list p1
theorem Book.okI : RelOk Book.RI where
  lt := by
    rintro h cs t fp ⟨x1, p1, rfl, rfl, w1⟩ id hid
    exact w1.lt (Fl.ok _) id hid
  mv := by
    rintro h h' cs t fp ⟨x1, p1, rfl, rfl, w1⟩ hn hg
    exact ⟨x1, _, rfl, rfl, w1.mv (Fl.ok _) hn hg⟩
theorem Book.lenL {h : Heap} {cs : List Cell} {t : Book} {fp : List Nat} (v : Book.RL h cs t fp) : cs.length = 1 ∧ cs.take 1 = cs ∧ cs.drop 1 = [] := by
  obtain ⟨x1, p1, rfl, _⟩ := v
  exact ⟨rfl, rfl, rfl⟩
theorem Book.lenI {h : Heap} {cs : List Cell} {t : Book} {fp : List Nat} (v : Book.RI h cs t fp) : cs.length = 1 ∧ cs.take 1 = cs ∧ cs.drop 1 = [] := by
  obtain ⟨x1, p1, rfl, _⟩ := v
  exact ⟨rfl, rfl, rfl⟩
namespace Book
/-- The numbers are those of the machine. -/
structure Ok (t : Book) : Prop where
  list : ∀ a, a ∈ t.list → a.Ok
def Small (t : Book) : Prop := t.list.length ≤ 1048576
def wt (t : Book) : Int := 5 * ((t.list.length : Nat) : Int)
def marked (t : Book) (k : Int) : Book := { t with list := Account.marks t.list.length (k) }
theorem wt_nn (t : Book) : 0 ≤ t.wt := by
  simp only [wt]; omega
theorem wt_le {t : Book} (sm : t.Small) : t.wt ≤ 5242880 := by
  unfold Small at sm
  simp only [wt]; omega
end Book
theorem Wf.isBook {h : Heap} {n : Nat} {cs : List Cell} (w : Wf h (n + 4) shBook cs) : ∃ t fp, Book.RL h cs t fp ∧ t.Ok := by
  obtain ⟨_, _, rfl, _, m1, rfl⟩ := w
  obtain ⟨x1, l1, p1, rfl, w1, o1⟩ := Wf.isAccountS' m1
  exact ⟨⟨l1⟩, _, ⟨x1, _, rfl, rfl, w1⟩, ⟨o1⟩⟩
section
variable {F : Nat → Option RF} {Z : CallF} {h : Heap} {cs cs' : List Cell} {t u : Book} {fp fq : List Nat}
theorem szBook_c (hLBook : Has F tLBook) (hLAccount : Has F tLAccount) (v : Book.RL h cs t fp) (left : Int) (h1 : 0 ≤ left) (h2 : left ≤ 1048576) : ∃ r, call F Z 128 [.agg cs, .c (.int .i64 left)] h = some (.c (.int .i64 r), h) ∧ r ≤ left ∧ (0 ≤ r → t.Small) := by
  obtain ⟨x1, p1, rfl, rfl, w1⟩ := v
  rw [call_run F Z (hLBook.lk (g := 128) rfl) _ _ rfl]
  simp only [run0, run1, run2, run3, run4, noSlot, ownS, ownK, memN, RO.dst, lk, drop, forget, number, Nat.reduceBEq, cut?, splice?, builds, List.length_cons, List.length_nil, List.drop_succ_cons, List.drop_zero, List.take_succ_cons, List.take_zero, List.cons_append, List.nil_append, List.append_nil, List.drop_nil, List.take_nil, Nat.reduceAdd, Nat.reduceLeDiff, Nat.zero_add, Nat.add_zero, ↓reduceIte, Bool.not_true, Bool.not_false, decide_true, decide_false, eq_self, bne_self_eq_false, List.getElem?_cons_zero, List.getElem?_cons_succ, decide_eq_true_eq, Bool.false_eq_true, Bool.true_eq_false, reduceCtorEq, Nat.le_refl]
  obtain ⟨l0, s0, a0, b0⟩ := szAccountS_c (Z := Z) hLAccount w1 left (by omega) (by omega)
  simp only [run0, run1, run2, run3, run4, noSlot, ownS, ownK, memN, RO.dst, lk, drop, forget, number, Nat.reduceBEq, cut?, splice?, builds, List.length_cons, List.length_nil, List.drop_succ_cons, List.drop_zero, List.take_succ_cons, List.take_zero, List.cons_append, List.nil_append, List.append_nil, List.drop_nil, List.take_nil, Nat.reduceAdd, Nat.reduceLeDiff, Nat.zero_add, Nat.add_zero, ↓reduceIte, Bool.not_true, Bool.not_false, decide_true, decide_false, eq_self, bne_self_eq_false, List.getElem?_cons_zero, List.getElem?_cons_succ, decide_eq_true_eq, Bool.false_eq_true, Bool.true_eq_false, reduceCtorEq, Nat.le_refl, s0]
  by_cases n0 : l0 < 0
  · simp only [run0, run1, run2, run3, run4, noSlot, ownS, ownK, memN, RO.dst, lk, drop, forget, number, Nat.reduceBEq, cut?, splice?, builds, List.length_cons, List.length_nil, List.drop_succ_cons, List.drop_zero, List.take_succ_cons, List.take_zero, List.cons_append, List.nil_append, List.append_nil, List.drop_nil, List.take_nil, Nat.reduceAdd, Nat.reduceLeDiff, Nat.zero_add, Nat.add_zero, ↓reduceIte, Bool.not_true, Bool.not_false, decide_true, decide_false, eq_self, bne_self_eq_false, List.getElem?_cons_zero, List.getElem?_cons_succ, decide_eq_true_eq, Bool.false_eq_true, Bool.true_eq_false, reduceCtorEq, Nat.le_refl, n0]
    exact ⟨_, rfl, by omega, by omega⟩
  simp only [run0, run1, run2, run3, run4, noSlot, ownS, ownK, memN, RO.dst, lk, drop, forget, number, Nat.reduceBEq, cut?, splice?, builds, List.length_cons, List.length_nil, List.drop_succ_cons, List.drop_zero, List.take_succ_cons, List.take_zero, List.cons_append, List.nil_append, List.append_nil, List.drop_nil, List.take_nil, Nat.reduceAdd, Nat.reduceLeDiff, Nat.zero_add, Nat.add_zero, ↓reduceIte, Bool.not_true, Bool.not_false, decide_true, decide_false, eq_self, bne_self_eq_false, List.getElem?_cons_zero, List.getElem?_cons_succ, decide_eq_true_eq, Bool.false_eq_true, Bool.true_eq_false, reduceCtorEq, Nat.le_refl, n0]
  exact ⟨_, rfl, by omega, fun _ => b0 (by omega)⟩
theorem toBook_c (hLBook : Has F tLBook) (hLAccount : Has F tLAccount) (hf : h.floor ≤ h.next) (v : Book.RL h cs t fp) (sm : t.Small) : ∃ cs' h' fq, call F Z 130 [.agg cs] h = some (.agg cs', h') ∧ On h h' ∧ Book.RI h' cs' t fq ∧ Fre h fq := by
  obtain ⟨x1, p1, rfl, rfl, w1⟩ := v
  have sm0 := sm
  obtain ⟨y1, g0, q1, e0, o0, u1, r0⟩ := toAccountS_c (Z := Z) hLAccount hf w1 sm0
  rw [call_run F Z (hLBook.lk (g := 130) rfl) _ _ rfl]
  simp only [run0, run1, run2, run3, run4, noSlot, ownS, ownK, memN, RO.dst, lk, drop, forget, number, Nat.reduceBEq, cut?, splice?, builds, List.length_cons, List.length_nil, List.drop_succ_cons, List.drop_zero, List.take_succ_cons, List.take_zero, List.cons_append, List.nil_append, List.append_nil, List.drop_nil, List.take_nil, Nat.reduceAdd, Nat.reduceLeDiff, Nat.zero_add, Nat.add_zero, ↓reduceIte, Bool.not_true, Bool.not_false, decide_true, decide_false, eq_self, bne_self_eq_false, List.getElem?_cons_zero, List.getElem?_cons_succ, decide_eq_true_eq, Bool.false_eq_true, Bool.true_eq_false, reduceCtorEq, Nat.le_refl, e0]
  exact ⟨_, _, _, rfl, o0, ⟨y1, _, rfl, rfl, u1⟩, r0⟩
set_option maxHeartbeats 1000000 in
theorem eqBook_r (hLBook : Has F tLBook) (hLAccount : Has F tLAccount) (v : Book.RI h cs t fp) (v' : Book.RI h cs' u fq) : call F Z 133 [.agg cs, .agg cs'] h = some (.c (.bool (decide (t = u))), h) := by
  obtain ⟨x1, p1, rfl, rfl, w1⟩ := v
  obtain ⟨x1', p1', rfl, rfl, w1'⟩ := v'
  obtain ⟨list1⟩ := t
  obtain ⟨list2⟩ := u
  have e0 := eqAccountS_run (Z := Z) hLAccount w1 w1'
  clear w1 w1'
  rw [call_run F Z (hLBook.lk (g := 133) rfl) _ _ rfl]
  simp only [run0, run1, run2, run3, run4, noSlot, ownS, ownK, memN, RO.dst, lk, drop, forget, number, Nat.reduceBEq, cut?, splice?, builds, List.length_cons, List.length_nil, List.drop_succ_cons, List.drop_zero, List.take_succ_cons, List.take_zero, List.cons_append, List.nil_append, List.append_nil, List.drop_nil, List.take_nil, Nat.reduceAdd, Nat.reduceLeDiff, Nat.zero_add, Nat.add_zero, ↓reduceIte, Bool.not_true, Bool.not_false, decide_true, decide_false, eq_self, bne_self_eq_false, List.getElem?_cons_zero, List.getElem?_cons_succ, decide_eq_true_eq, Bool.false_eq_true, Bool.true_eq_false, reduceCtorEq, Nat.le_refl, e0]
  (repeat' ((first | (rw [gF_if]; split) | (rw [condC_if]; split) | (rw [pickR_if]; split)) <;> (rename_i hh; (try simp only [Bool.not_eq_true, decide_eq_true_eq] at hh); simp only [hh, run0, run1, run2, run3, run4, noSlot, ownS, ownK, memN, RO.dst, lk, drop, forget, number, Nat.reduceBEq, cut?, splice?, builds, List.length_cons, List.length_nil, List.drop_succ_cons, List.drop_zero, List.take_succ_cons, List.take_zero, List.cons_append, List.nil_append, List.append_nil, List.drop_nil, List.take_nil, Nat.reduceAdd, Nat.reduceLeDiff, Nat.zero_add, Nat.add_zero, ↓reduceIte, Bool.not_true, Bool.not_false, decide_true, decide_false, eq_self, bne_self_eq_false, List.getElem?_cons_zero, List.getElem?_cons_succ, decide_eq_true_eq, Bool.false_eq_true, Bool.true_eq_false, reduceCtorEq, Nat.le_refl, e0]))) <;> clear e0 <;> refine fin_bool ?_ <;> simp_all <;> (try (intros; omega))
theorem markBook_r (hLBook : Has F tLBook) (hLAccount : Has F tLAccount) (v : Book.RI h cs t fp) (nd : fp.Nodup) (hlo : ∀ id, id ∈ fp → h.floor ≤ id) (k : Int) (h1 : 0 ≤ k) (h2 : k + t.wt ≤ 9200000000000000000) : ∃ h', call F Z 231 [.agg cs, .c (.int .i64 k)] h = some (.c (.int .i64 (k + t.wt)), h') ∧ Mk h h' fp ∧ Book.RI h' cs (t.marked k) fp := by
  obtain ⟨x1, p1, rfl, rfl, w1⟩ := v
  simp only [Book.wt] at h2 ⊢
  obtain ⟨h', e0, m0, u1⟩ := markAccountS_run (Z := Z) hLAccount w1 hlo k h1 h2
  rw [call_run F Z (hLBook.lk (g := 231) rfl) _ _ rfl]
  simp only [run0, run1, run2, run3, run4, noSlot, ownS, ownK, memN, RO.dst, lk, drop, forget, number, Nat.reduceBEq, cut?, splice?, builds, List.length_cons, List.length_nil, List.drop_succ_cons, List.drop_zero, List.take_succ_cons, List.take_zero, List.cons_append, List.nil_append, List.append_nil, List.drop_nil, List.take_nil, Nat.reduceAdd, Nat.reduceLeDiff, Nat.zero_add, Nat.add_zero, ↓reduceIte, Bool.not_true, Bool.not_false, decide_true, decide_false, eq_self, bne_self_eq_false, List.getElem?_cons_zero, List.getElem?_cons_succ, decide_eq_true_eq, Bool.false_eq_true, Bool.true_eq_false, reduceCtorEq, Nat.le_refl, e0]
  exact ⟨_, rfl, m0, ⟨x1, _, rfl, rfl, u1⟩⟩
theorem heldBook_r (hLBook : Has F tLBook) (hLAccount : Has F tLAccount) {k : Int} (v : Book.RI h cs (t.marked k) fp) (h1 : 0 ≤ k) (h2 : k + t.wt ≤ 9200000000000000000) : call F Z 233 [.agg cs, .c (.int .i64 k)] h = some (.c (.int .i64 (k + t.wt)), h) := by
  obtain ⟨x1, p1, rfl, rfl, w1⟩ := v
  simp only [Book.wt] at h2 ⊢
  have e0 := heldAccountS_run (Z := Z) hLAccount w1 h1 h2
  have n0 : ¬ k + 5 * ((t.list.length : Nat) : Int) < 0 := by omega
  rw [call_run F Z (hLBook.lk (g := 233) rfl) _ _ rfl]
  simp only [Book.marked, run0, run1, run2, run3, run4, noSlot, ownS, ownK, memN, RO.dst, lk, drop, forget, number, Nat.reduceBEq, cut?, splice?, builds, List.length_cons, List.length_nil, List.drop_succ_cons, List.drop_zero, List.take_succ_cons, List.take_zero, List.cons_append, List.nil_append, List.append_nil, List.drop_nil, List.take_nil, Nat.reduceAdd, Nat.reduceLeDiff, Nat.zero_add, Nat.add_zero, ↓reduceIte, Bool.not_true, Bool.not_false, decide_true, decide_false, eq_self, bne_self_eq_false, List.getElem?_cons_zero, List.getElem?_cons_succ, decide_eq_true_eq, Bool.false_eq_true, Bool.true_eq_false, reduceCtorEq, Nat.le_refl] at e0 ⊢
  simp only [run0, run1, run2, run3, run4, noSlot, ownS, ownK, memN, RO.dst, lk, drop, forget, number, Nat.reduceBEq, cut?, splice?, builds, List.length_cons, List.length_nil, List.drop_succ_cons, List.drop_zero, List.take_succ_cons, List.take_zero, List.cons_append, List.nil_append, List.append_nil, List.drop_nil, List.take_nil, Nat.reduceAdd, Nat.reduceLeDiff, Nat.zero_add, Nat.add_zero, ↓reduceIte, Bool.not_true, Bool.not_false, decide_true, decide_false, eq_self, bne_self_eq_false, List.getElem?_cons_zero, List.getElem?_cons_succ, decide_eq_true_eq, Bool.false_eq_true, Bool.true_eq_false, reduceCtorEq, Nat.le_refl, e0, n0]
end
end Go.Proofs.Ytlfepembgjjejaa.A
/- Is a book right? -/
namespace Go.Proofs.Ytlfepembgjjejaa.A
open Go
set_option linter.unusedSimpArgs false
set_option linter.unusedVariables false
def Account.at_ (xs : List Account) (i : Nat) : Account := xs[i]?.getD Account.none_
/-- Is an account right by itself? -/
def Account.fine (a : Account) : Bool := decide (a.bal + a.hold + a.due ≤ 18446744073709551615) && (decide (0 ≤ a.tx) && (a.tx != 0 || (a.hold == 0 && a.due == 0)))
def Account.fits (xs : List Account) (i : Nat) : Bool := (Account.at_ xs i).fine && (i == 0 || decide ((Account.at_ xs (i - 1)).id < (Account.at_ xs i).id))
def bookOk (xs : List Account) : Bool := (List.range xs.length).all (Account.fits xs) && decide ((xs.length : Int) ≤ 40)
section
variable {F : Nat → Option RF} {Z : CallF} {h : Heap} {x : Cell} {xs : List Account} {fp : List Nat}
set_option maxHeartbeats 4000000 in
theorem isBook_turn (w : SlR 11 (Fl Account.enc) h x xs fp) (hok : ∀ t, t ∈ xs → t.Ok) (i : Nat) (hi : i < xs.length) :
    Turn (loop F Z [1, 10, 11, 12] r265L0 ⟨[(10, .c x), (11, .c (.int .i64 (xs.length : Nat))), (12, .c (.int .i64 (i : Nat)))], [(1, 1, 0)], [(1, [x])], h⟩)
      (loop F Z [1, 10, 11, 12] r265L0 ⟨[(10, .c x), (11, .c (.int .i64 (xs.length : Nat))), (12, .c (.int .i64 ((i + 1 : Nat) : Int)))], [(1, 1, 0)], [(1, [x])], h⟩) (Account.fits xs i) (fun s => lk s.env 2 = some (.c (.bool false)) ∧ s.hp = h) := by
  have hle := w.le2
  have hlt : (i : Int) < xs.length := by omega
  have hws := wrapS i (by omega)
  have o1 := hok _ (List.getElem_mem hi)
  have e1 : Account.at_ xs i = xs[i] := by simp [Account.at_, List.getElem?_eq_getElem hi]
  have hfit : Account.fits xs i = (xs[i].fine && (i == 0 || decide ((Account.at_ xs (i - 1)).id < xs[i].id))) := by simp only [Account.fits, e1]
  have hpre : 0 < i → IntKind.i64.wrap ((i : Int) - 1) = ((i - 1 : Nat) : Int) := fun hp => by rw [wrapI _ (by omega) (by omega)]; omega
  rw [hfit]
  have hxi := w.idx hi
  have hld := w.load hi
  have hpi : 0 < i → idxR 11 (some x) (some ((i - 1 : Nat) : Int)) = some (.ptr x.sid (i - 1) 0) := fun hp => w.idx (by omega)
  have hpl : 0 < i → ∀ j n, loadP h x.sid (i - 1) j n = cut? (Account.at_ xs (i - 1)).enc j n := fun hp => w.loadD Account.none_ (by omega)
  clear w hfit e1 hok
  generalize Account.at_ xs (i - 1) = pa at *
  generalize xs[i] = a at *
  obtain ⟨id, bal, hold, due, tx⟩ := a
  obtain ⟨a1, a2, a3, a4, a5⟩ := o1
  dsimp only at a1 a2 a3 a4 a5
  obtain ⟨b1, _⟩ := a2
  obtain ⟨b2, _⟩ := a3
  obtain ⟨b3, _⟩ := a4
  have hwb : IntKind.u64.wrap (bal + hold) = (bal + hold) % 18446744073709551616 := rfl
  have b4 : 0 ≤ (bal + hold) % 18446744073709551616 := by omega
  have b5 : (0 : Int) ≤ 0 := by omega
  have b6 : (0 : Int) ≤ 1 := by omega
  have hwc : IntKind.u64.wrap ((bal + hold + 0) / 18446744073709551616 + ((bal + hold) % 18446744073709551616 + due + 0) / 18446744073709551616) = (bal + hold + 0) / 18446744073709551616 + ((bal + hold) % 18446744073709551616 + due + 0) / 18446744073709551616 := wrapU _ (by omega) (by omega)
  rw [loop_run]
  conv in (codeF _ _ r265L0 _) => unfold r265L0
  simp only [run0, run1, run2, run3, run4, noSlot, ownS, ownK, memN, RO.dst, lk, drop, forget, number, Nat.reduceBEq, cut?, splice?, builds, List.length_cons, List.length_nil, List.drop_succ_cons, List.drop_zero, List.take_succ_cons, List.take_zero, List.cons_append, List.nil_append, List.append_nil, List.drop_nil, List.take_nil, Nat.reduceAdd, Nat.reduceLeDiff, Nat.zero_add, Nat.add_zero, ↓reduceIte, Bool.not_true, Bool.not_false, decide_true, decide_false, eq_self, bne_self_eq_false, List.getElem?_cons_zero, List.getElem?_cons_succ, decide_eq_true_eq, Bool.false_eq_true, Bool.true_eq_false, reduceCtorEq, Nat.le_refl, hlt, hxi, hld, Account.enc, b1, b2, b3, b4, b5, b6, and_self, hwb, hwc]
  by_cases hp : 0 < i
  · have g1 : (i : Int) > 0 := by omega
    have hi0 : (i == 0) = false := by simp; omega
    have q1 := hpre hp
    have q2 := hpi hp
    have q3 := hpl hp
    clear hxi hld hpre hpi hpl
    (repeat' ((first | (rw [gF_if]; split) | (rw [condC_if]; split) | (rw [pickR_if]; split)) <;> (rename_i hh; (try simp only [Bool.not_eq_true, decide_eq_true_eq] at hh); simp only [hh, run0, run1, run2, run3, run4, noSlot, ownS, ownK, memN, RO.dst, lk, drop, forget, number, Nat.reduceBEq, cut?, splice?, builds, List.length_cons, List.length_nil, List.drop_succ_cons, List.drop_zero, List.take_succ_cons, List.take_zero, List.cons_append, List.nil_append, List.append_nil, List.drop_nil, List.take_nil, Nat.reduceAdd, Nat.reduceLeDiff, Nat.zero_add, Nat.add_zero, ↓reduceIte, Bool.not_true, Bool.not_false, decide_true, decide_false, eq_self, bne_self_eq_false, List.getElem?_cons_zero, List.getElem?_cons_succ, decide_eq_true_eq, Bool.false_eq_true, Bool.true_eq_false, reduceCtorEq, Nat.le_refl, hws, g1, q1, q2, q3, Account.enc])))
    all_goals clear q2 q3
    all_goals first
      | (exfalso; omega)
      | exact .inl ⟨by simp_all [Account.fine] <;> omega, rfl⟩
      | exact .inr ⟨by simp_all [Account.fine] <;> omega, _, rfl, rfl, rfl⟩
  · have g1 : ¬ (i : Int) > 0 := by omega
    have hi0 : (i == 0) = true := by simp; omega
    clear hxi hld hpre hpi hpl
    (repeat' ((first | (rw [gF_if]; split) | (rw [condC_if]; split) | (rw [pickR_if]; split)) <;> (rename_i hh; (try simp only [Bool.not_eq_true, decide_eq_true_eq] at hh); simp only [hh, run0, run1, run2, run3, run4, noSlot, ownS, ownK, memN, RO.dst, lk, drop, forget, number, Nat.reduceBEq, cut?, splice?, builds, List.length_cons, List.length_nil, List.drop_succ_cons, List.drop_zero, List.take_succ_cons, List.take_zero, List.cons_append, List.nil_append, List.append_nil, List.drop_nil, List.take_nil, Nat.reduceAdd, Nat.reduceLeDiff, Nat.zero_add, Nat.add_zero, ↓reduceIte, Bool.not_true, Bool.not_false, decide_true, decide_false, eq_self, bne_self_eq_false, List.getElem?_cons_zero, List.getElem?_cons_succ, decide_eq_true_eq, Bool.false_eq_true, Bool.true_eq_false, reduceCtorEq, Nat.le_refl, hws, g1, Account.enc])))
    all_goals first
      | (exfalso; omega)
      | exact .inl ⟨by simp_all [Account.fine] <;> omega, rfl⟩
      | exact .inr ⟨by simp_all [Account.fine] <;> omega, _, rfl, rfl, rfl⟩
theorem isBook_run (hI10 : Has F tI10) (w : SlR 11 (Fl Account.enc) h x xs fp) (hok : ∀ t, t ∈ xs → t.Ok) : call F Z 265 [.agg [x]] h = some (.c (.bool (bookOk xs)), h) := by
  have key := loop_allN (F := F) (Z := Z) (live := [1, 10, 11, 12]) (b := r265L0) xs.length (fun i => ⟨[(10, .c x), (11, .c (.int .i64 (xs.length : Nat))), (12, .c (.int .i64 (i : Nat)))], [(1, 1, 0)], [(1, [x])], h⟩) (Account.fits xs) (fun s => lk s.env 2 = some (.c (.bool false)) ∧ s.hp = h) fun i hi => isBook_turn w hok i hi
  rw [call_run F Z (hI10.lk (g := 265) rfl) _ _ rfl]
  simp only [run0, run1, run2, run3, run4, noSlot, ownS, ownK, memN, RO.dst, lk, drop, forget, number, Nat.reduceBEq, cut?, splice?, builds, List.length_cons, List.length_nil, List.drop_succ_cons, List.drop_zero, List.take_succ_cons, List.take_zero, List.cons_append, List.nil_append, List.append_nil, List.drop_nil, List.take_nil, Nat.reduceAdd, Nat.reduceLeDiff, Nat.zero_add, Nat.add_zero, ↓reduceIte, Bool.not_true, Bool.not_false, decide_true, decide_false, eq_self, bne_self_eq_false, List.getElem?_cons_zero, List.getElem?_cons_succ, decide_eq_true_eq, Bool.false_eq_true, Bool.true_eq_false, reduceCtorEq, Nat.le_refl, w.len]
  simp only [show ((0 : Nat) : Int) = 0 from rfl] at key
  have hlt : ¬ (xs.length : Int) < xs.length := by omega
  rcases key with ⟨k1, k2⟩ | ⟨k1, s, k2, k3, k4⟩
  · rw [k2, loop_run]
    conv in (codeF _ _ r265L0 _) => unfold r265L0
    simp only [run0, run1, run2, run3, run4, noSlot, ownS, ownK, memN, RO.dst, lk, drop, forget, number, Nat.reduceBEq, cut?, splice?, builds, List.length_cons, List.length_nil, List.drop_succ_cons, List.drop_zero, List.take_succ_cons, List.take_zero, List.cons_append, List.nil_append, List.append_nil, List.drop_nil, List.take_nil, Nat.reduceAdd, Nat.reduceLeDiff, Nat.zero_add, Nat.add_zero, ↓reduceIte, Bool.not_true, Bool.not_false, decide_true, decide_false, eq_self, bne_self_eq_false, List.getElem?_cons_zero, List.getElem?_cons_succ, decide_eq_true_eq, Bool.false_eq_true, Bool.true_eq_false, reduceCtorEq, Nat.le_refl, w.len, hlt, bookOk, k1, Bool.true_and]
  · rw [k2]
    simp only [run0, run1, run2, run3, run4, noSlot, ownS, ownK, memN, RO.dst, lk, drop, forget, number, Nat.reduceBEq, cut?, splice?, builds, List.length_cons, List.length_nil, List.drop_succ_cons, List.drop_zero, List.take_succ_cons, List.take_zero, List.cons_append, List.nil_append, List.append_nil, List.drop_nil, List.take_nil, Nat.reduceAdd, Nat.reduceLeDiff, Nat.zero_add, Nat.add_zero, ↓reduceIte, Bool.not_true, Bool.not_false, decide_true, decide_false, eq_self, bne_self_eq_false, List.getElem?_cons_zero, List.getElem?_cons_succ, decide_eq_true_eq, Bool.false_eq_true, Bool.true_eq_false, reduceCtorEq, Nat.le_refl, k3, k4, bookOk, k1, Bool.false_and]
set_option maxHeartbeats 4000000 in
theorem sBookOk_turn (w : SlR 11 (Fl Account.enc) h x xs fp) (hok : ∀ t, t ∈ xs → t.Ok) (i : Nat) (hi : i < xs.length) :
    Turn (loop F Z [1, 3] r241L0 ⟨[(3, .c (.int .i64 (i : Nat)))], [(1, 1, 0)], [(1, [x])], h⟩)
      (loop F Z [1, 3] r241L0 ⟨[(3, .c (.int .i64 ((i + 1 : Nat) : Int)))], [(1, 1, 0)], [(1, [x])], h⟩) (Account.fits xs i) (fun s => lk s.env 2 = some (.c (.bool false)) ∧ s.hp = h) := by
  have hle := w.le2
  have w0 := w.len
  have hlt : (i : Int) < xs.length := by omega
  have hws := wrapS i (by omega)
  have o1 := hok _ (List.getElem_mem hi)
  have e1 : Account.at_ xs i = xs[i] := by simp [Account.at_, List.getElem?_eq_getElem hi]
  have hfit : Account.fits xs i = (xs[i].fine && (i == 0 || decide ((Account.at_ xs (i - 1)).id < xs[i].id))) := by simp only [Account.fits, e1]
  have hpre : 0 < i → IntKind.i64.wrap ((i : Int) - 1) = ((i - 1 : Nat) : Int) := fun hp => by rw [wrapI _ (by omega) (by omega)]; omega
  rw [hfit]
  have hxi := w.idx hi
  have hld := w.load hi
  have hpi : 0 < i → idxR 11 (some x) (some ((i - 1 : Nat) : Int)) = some (.ptr x.sid (i - 1) 0) := fun hp => w.idx (by omega)
  have hpl : 0 < i → ∀ j n, loadP h x.sid (i - 1) j n = cut? (Account.at_ xs (i - 1)).enc j n := fun hp => w.loadD Account.none_ (by omega)
  clear w hfit e1 hok
  generalize Account.at_ xs (i - 1) = pa at *
  generalize xs[i] = a at *
  obtain ⟨id, bal, hold, due, tx⟩ := a
  obtain ⟨a1, a2, a3, a4, a5⟩ := o1
  dsimp only at a1 a2 a3 a4 a5
  obtain ⟨b1, b1'⟩ := a2
  obtain ⟨b2, _⟩ := a3
  obtain ⟨b3, _⟩ := a4
  have hwb : IntKind.u64.wrap (18446744073709551615 - bal) = 18446744073709551615 - bal := wrapU _ (by omega) (by omega)
  have hwc : hold ≤ 18446744073709551615 - bal → IntKind.u64.wrap (18446744073709551615 - bal - hold) = 18446744073709551615 - bal - hold := fun hh => wrapU _ (by omega) (by omega)
  have hwl := w0
  rw [loop_run]
  conv in (codeF _ _ r241L0 _) => unfold r241L0
  simp only [run0, run1, run2, run3, run4, noSlot, ownS, ownK, memN, RO.dst, lk, drop, forget, number, Nat.reduceBEq, cut?, splice?, builds, List.length_cons, List.length_nil, List.drop_succ_cons, List.drop_zero, List.take_succ_cons, List.take_zero, List.cons_append, List.nil_append, List.append_nil, List.drop_nil, List.take_nil, Nat.reduceAdd, Nat.reduceLeDiff, Nat.zero_add, Nat.add_zero, ↓reduceIte, Bool.not_true, Bool.not_false, decide_true, decide_false, eq_self, bne_self_eq_false, List.getElem?_cons_zero, List.getElem?_cons_succ, decide_eq_true_eq, Bool.false_eq_true, Bool.true_eq_false, reduceCtorEq, Nat.le_refl, hwl, hlt, hxi, hld, Account.enc, hwb]
  by_cases hp : 0 < i
  · have g1 : (i : Int) > 0 := by omega
    have hi0 : (i == 0) = false := by simp; omega
    have q1 := hpre hp
    have q2 := hpi hp
    have q3 := hpl hp
    clear hxi hld hpre hpi hpl
    (repeat' ((first | (rw [gF_if]; split) | (rw [condC_if]; split) | (rw [pickR_if]; split)) <;> (rename_i hh; (try simp only [Bool.not_eq_true, decide_eq_true_eq] at hh); simp only [hh, run0, run1, run2, run3, run4, noSlot, ownS, ownK, memN, RO.dst, lk, drop, forget, number, Nat.reduceBEq, cut?, splice?, builds, List.length_cons, List.length_nil, List.drop_succ_cons, List.drop_zero, List.take_succ_cons, List.take_zero, List.cons_append, List.nil_append, List.append_nil, List.drop_nil, List.take_nil, Nat.reduceAdd, Nat.reduceLeDiff, Nat.zero_add, Nat.add_zero, ↓reduceIte, Bool.not_true, Bool.not_false, decide_true, decide_false, eq_self, bne_self_eq_false, List.getElem?_cons_zero, List.getElem?_cons_succ, decide_eq_true_eq, Bool.false_eq_true, Bool.true_eq_false, reduceCtorEq, Nat.le_refl, hws, g1, q1, q2, q3, Account.enc, hwb])))
    all_goals clear q2 q3
    all_goals first
      | (exfalso; omega)
      | exact .inl ⟨by simp_all [Account.fine] <;> omega, rfl⟩
      | exact .inr ⟨by simp_all [Account.fine] <;> omega, _, rfl, rfl, rfl⟩
  · have g1 : ¬ (i : Int) > 0 := by omega
    have hi0 : (i == 0) = true := by simp; omega
    clear hxi hld hpre hpi hpl
    (repeat' ((first | (rw [gF_if]; split) | (rw [condC_if]; split) | (rw [pickR_if]; split)) <;> (rename_i hh; (try simp only [Bool.not_eq_true, decide_eq_true_eq] at hh); simp only [hh, run0, run1, run2, run3, run4, noSlot, ownS, ownK, memN, RO.dst, lk, drop, forget, number, Nat.reduceBEq, cut?, splice?, builds, List.length_cons, List.length_nil, List.drop_succ_cons, List.drop_zero, List.take_succ_cons, List.take_zero, List.cons_append, List.nil_append, List.append_nil, List.drop_nil, List.take_nil, Nat.reduceAdd, Nat.reduceLeDiff, Nat.zero_add, Nat.add_zero, ↓reduceIte, Bool.not_true, Bool.not_false, decide_true, decide_false, eq_self, bne_self_eq_false, List.getElem?_cons_zero, List.getElem?_cons_succ, decide_eq_true_eq, Bool.false_eq_true, Bool.true_eq_false, reduceCtorEq, Nat.le_refl, hws, g1, Account.enc, hwb])))
    all_goals first
      | (exfalso; omega)
      | exact .inl ⟨by simp_all [Account.fine] <;> omega, rfl⟩
      | exact .inr ⟨by simp_all [Account.fine] <;> omega, _, rfl, rfl, rfl⟩
theorem sBookOk_run (hS10 : Has F tS10) (w : SlR 11 (Fl Account.enc) h x xs fp) (hok : ∀ t, t ∈ xs → t.Ok) : call F Z 241 [.agg [x]] h = some (.c (.bool (bookOk xs)), h) := by
  have key := loop_allN (F := F) (Z := Z) (live := [1, 3]) (b := r241L0) xs.length (fun i => ⟨[(3, .c (.int .i64 (i : Nat)))], [(1, 1, 0)], [(1, [x])], h⟩) (Account.fits xs) (fun s => lk s.env 2 = some (.c (.bool false)) ∧ s.hp = h) fun i hi => sBookOk_turn w hok i hi
  rw [call_run F Z (hS10.lk (g := 241) rfl) _ _ rfl]
  simp only [run0, run1, run2, run3, run4, noSlot, ownS, ownK, memN, RO.dst, lk, drop, forget, number, Nat.reduceBEq, cut?, splice?, builds, List.length_cons, List.length_nil, List.drop_succ_cons, List.drop_zero, List.take_succ_cons, List.take_zero, List.cons_append, List.nil_append, List.append_nil, List.drop_nil, List.take_nil, Nat.reduceAdd, Nat.reduceLeDiff, Nat.zero_add, Nat.add_zero, ↓reduceIte, Bool.not_true, Bool.not_false, decide_true, decide_false, eq_self, bne_self_eq_false, List.getElem?_cons_zero, List.getElem?_cons_succ, decide_eq_true_eq, Bool.false_eq_true, Bool.true_eq_false, reduceCtorEq, Nat.le_refl, w.len]
  simp only [show ((0 : Nat) : Int) = 0 from rfl] at key
  have hlt : ¬ (xs.length : Int) < xs.length := by omega
  by_cases hn : (xs.length : Int) > 40
  · have : ¬ (xs.length : Int) ≤ 40 := by omega
    simp only [run0, run1, run2, run3, run4, noSlot, ownS, ownK, memN, RO.dst, lk, drop, forget, number, Nat.reduceBEq, cut?, splice?, builds, List.length_cons, List.length_nil, List.drop_succ_cons, List.drop_zero, List.take_succ_cons, List.take_zero, List.cons_append, List.nil_append, List.append_nil, List.drop_nil, List.take_nil, Nat.reduceAdd, Nat.reduceLeDiff, Nat.zero_add, Nat.add_zero, ↓reduceIte, Bool.not_true, Bool.not_false, decide_true, decide_false, eq_self, bne_self_eq_false, List.getElem?_cons_zero, List.getElem?_cons_succ, decide_eq_true_eq, Bool.false_eq_true, Bool.true_eq_false, reduceCtorEq, Nat.le_refl, hn, bookOk, this, Bool.and_false]
  · have h40 : (xs.length : Int) ≤ 40 := by omega
    simp only [run0, run1, run2, run3, run4, noSlot, ownS, ownK, memN, RO.dst, lk, drop, forget, number, Nat.reduceBEq, cut?, splice?, builds, List.length_cons, List.length_nil, List.drop_succ_cons, List.drop_zero, List.take_succ_cons, List.take_zero, List.cons_append, List.nil_append, List.append_nil, List.drop_nil, List.take_nil, Nat.reduceAdd, Nat.reduceLeDiff, Nat.zero_add, Nat.add_zero, ↓reduceIte, Bool.not_true, Bool.not_false, decide_true, decide_false, eq_self, bne_self_eq_false, List.getElem?_cons_zero, List.getElem?_cons_succ, decide_eq_true_eq, Bool.false_eq_true, Bool.true_eq_false, reduceCtorEq, Nat.le_refl, hn]
    rcases key with ⟨k1, k2⟩ | ⟨k1, s, k2, k3, k4⟩
    · rw [k2, loop_run]
      conv in (codeF _ _ r241L0 _) => unfold r241L0
      simp only [run0, run1, run2, run3, run4, noSlot, ownS, ownK, memN, RO.dst, lk, drop, forget, number, Nat.reduceBEq, cut?, splice?, builds, List.length_cons, List.length_nil, List.drop_succ_cons, List.drop_zero, List.take_succ_cons, List.take_zero, List.cons_append, List.nil_append, List.append_nil, List.drop_nil, List.take_nil, Nat.reduceAdd, Nat.reduceLeDiff, Nat.zero_add, Nat.add_zero, ↓reduceIte, Bool.not_true, Bool.not_false, decide_true, decide_false, eq_self, bne_self_eq_false, List.getElem?_cons_zero, List.getElem?_cons_succ, decide_eq_true_eq, Bool.false_eq_true, Bool.true_eq_false, reduceCtorEq, Nat.le_refl, w.len, hlt, bookOk, k1, Bool.true_and, h40]
    · rw [k2]
      simp only [run0, run1, run2, run3, run4, noSlot, ownS, ownK, memN, RO.dst, lk, drop, forget, number, Nat.reduceBEq, cut?, splice?, builds, List.length_cons, List.length_nil, List.drop_succ_cons, List.drop_zero, List.take_succ_cons, List.take_zero, List.cons_append, List.nil_append, List.append_nil, List.drop_nil, List.take_nil, Nat.reduceAdd, Nat.reduceLeDiff, Nat.zero_add, Nat.add_zero, ↓reduceIte, Bool.not_true, Bool.not_false, decide_true, decide_false, eq_self, bne_self_eq_false, List.getElem?_cons_zero, List.getElem?_cons_succ, decide_eq_true_eq, Bool.false_eq_true, Bool.true_eq_false, reduceCtorEq, Nat.le_refl, k3, k4, bookOk, k1, Bool.false_and]
end
end Go.Proofs.Ytlfepembgjjejaa.A
/- The data of a Shard with its memory, and what its converters compute. -/
namespace Go.Proofs.Ytlfepembgjjejaa.A
open Go
set_option linter.unusedSimpArgs false
set_option linter.unusedVariables false
structure Shard where
  lo : Int
  hi : Int
  state : Int
  epoch : Int
  book : Book
  finished : List Fin
  deriving DecidableEq
def Shard.RL : Rel Shard := fun h cs t fp => ∃ x1 p1 x2 p2, cs = [.int .u64 t.lo, .int .u64 t.hi, .int .i64 t.state, .int .i64 t.epoch, x1, x2] ∧ fp = p1 ++ p2 ∧ SlR 12 (Fl Account.enc) h x1 t.book.list p1 ∧ SlR 10 (Fl Fin.enc) h x2 t.finished p2
theorem Shard.okL : RelOk Shard.RL where
  lt := by
    rintro h cs t fp ⟨x1, p1, x2, p2, rfl, rfl, w1, w2⟩ id hid
    simp only [List.mem_append] at hid
    rcases hid with hid | hid
    · exact w1.lt (Fl.ok _) id hid
    · exact w2.lt (Fl.ok _) id hid
  mv := by
    rintro h h' cs t fp ⟨x1, p1, x2, p2, rfl, rfl, w1, w2⟩ hn hg
    exact ⟨x1, _, x2, _, rfl, rfl, w1.mv (Fl.ok _) hn fun id hid => hg id (by simp [hid]), w2.mv (Fl.ok _) hn fun id hid => hg id (by simp [hid])⟩
def Shard.RI : Rel Shard := fun h cs t fp => ∃ x1 p1 x2 p2, cs = [.int .u64 t.lo, .int .u64 t.hi, .int .i64 t.state, .int .i64 t.epoch, x1, x2] ∧ fp = p1 ++ p2 ∧ SlR 11 (Fl Account.enc) h x1 t.book.list p1 ∧ SlR 9 (Fl Fin.enc) h x2 t.finished p2
theorem Shard.okI : RelOk Shard.RI where
  lt := by
    rintro h cs t fp ⟨x1, p1, x2, p2, rfl, rfl, w1, w2⟩ id hid
    simp only [List.mem_append] at hid
    rcases hid with hid | hid
    · exact w1.lt (Fl.ok _) id hid
    · exact w2.lt (Fl.ok _) id hid
  mv := by
    rintro h h' cs t fp ⟨x1, p1, x2, p2, rfl, rfl, w1, w2⟩ hn hg
    exact ⟨x1, _, x2, _, rfl, rfl, w1.mv (Fl.ok _) hn fun id hid => hg id (by simp [hid]), w2.mv (Fl.ok _) hn fun id hid => hg id (by simp [hid])⟩
theorem Shard.lenL {h : Heap} {cs : List Cell} {t : Shard} {fp : List Nat} (v : Shard.RL h cs t fp) : cs.length = 6 ∧ cs.take 6 = cs ∧ cs.drop 6 = [] := by
  obtain ⟨x1, p1, x2, p2, rfl, _⟩ := v
  exact ⟨rfl, rfl, rfl⟩
theorem Shard.lenI {h : Heap} {cs : List Cell} {t : Shard} {fp : List Nat} (v : Shard.RI h cs t fp) : cs.length = 6 ∧ cs.take 6 = cs ∧ cs.drop 6 = [] := by
  obtain ⟨x1, p1, x2, p2, rfl, _⟩ := v
  exact ⟨rfl, rfl, rfl⟩
namespace Shard
/-- The numbers are those of the machine. -/
structure Ok (t : Shard) : Prop where
  lo : 0 ≤ t.lo ∧ t.lo ≤ 18446744073709551615
  hi : 0 ≤ t.hi ∧ t.hi ≤ 18446744073709551615
  state : -9223372036854775808 ≤ t.state ∧ t.state ≤ 9223372036854775807
  epoch : -9223372036854775808 ≤ t.epoch ∧ t.epoch ≤ 9223372036854775807
  book : t.book.Ok
  finished : ∀ a, a ∈ t.finished → a.Ok
def Small (t : Shard) : Prop := t.book.Small ∧ t.finished.length ≤ 1048576
def wt (t : Shard) : Int := t.book.wt + 2 * ((t.finished.length : Nat) : Int)
def marked (t : Shard) (k : Int) : Shard := { t with book := t.book.marked (k), finished := Fin.marks t.finished.length (k + t.book.wt) }
theorem wt_nn (t : Shard) : 0 ≤ t.wt := by
  have := t.book.wt_nn
  simp only [wt]; omega
theorem wt_le {t : Shard} (sm : t.Small) : t.wt ≤ 7340032 := by
  unfold Small at sm
  have := Book.wt_le sm.1
  simp only [wt]; omega
end Shard
theorem Wf.isShard {h : Heap} {n : Nat} {cs : List Cell} (w : Wf h (n + 5) shShard cs) : ∃ t fp, Shard.RL h cs t fp ∧ t.Ok := by
  obtain ⟨_, _, rfl, _, ⟨i1, rfl, j1⟩, _, _, rfl, _, ⟨i2, rfl, j2⟩, _, _, rfl, _, ⟨i3, rfl, j3⟩, _, _, rfl, _, ⟨i4, rfl, j4⟩, _, _, rfl, _, ⟨_, _, rfl, _, m5, rfl⟩, _, _, rfl, _, m6, rfl⟩ := w
  obtain ⟨x1, l1, p1, rfl, w1, o1⟩ := Wf.isAccountS' m5
  obtain ⟨x2, l2, p2, rfl, w2, o2⟩ := Wf.isFinS' m6
  exact ⟨⟨i1, i2, i3, i4, ⟨l1⟩, l2⟩, _, ⟨x1, _, x2, _, rfl, rfl, w1, w2⟩, ⟨wfU j1, wfU j2, wfI j3, wfI j4, ⟨o1⟩, o2⟩⟩
section
variable {F : Nat → Option RF} {Z : CallF} {h : Heap} {cs cs' : List Cell} {t u : Shard} {fp fq : List Nat}
theorem szShard_c (hLShard : Has F tLShard) (hLBook : Has F tLBook) (hLAccount : Has F tLAccount) (hLFin : Has F tLFin) (v : Shard.RL h cs t fp) (left : Int) (h1 : 0 ≤ left) (h2 : left ≤ 1048576) : ∃ r, call F Z 111 [.agg cs, .c (.int .i64 left)] h = some (.c (.int .i64 r), h) ∧ r ≤ left ∧ (0 ≤ r → t.Small) := by
  obtain ⟨x1, p1, x2, p2, rfl, rfl, w1, w2⟩ := v
  rw [call_run F Z (hLShard.lk (g := 111) rfl) _ _ rfl]
  simp only [run0, run1, run2, run3, run4, noSlot, ownS, ownK, memN, RO.dst, lk, drop, forget, number, Nat.reduceBEq, cut?, splice?, builds, List.length_cons, List.length_nil, List.drop_succ_cons, List.drop_zero, List.take_succ_cons, List.take_zero, List.cons_append, List.nil_append, List.append_nil, List.drop_nil, List.take_nil, Nat.reduceAdd, Nat.reduceLeDiff, Nat.zero_add, Nat.add_zero, ↓reduceIte, Bool.not_true, Bool.not_false, decide_true, decide_false, eq_self, bne_self_eq_false, List.getElem?_cons_zero, List.getElem?_cons_succ, decide_eq_true_eq, Bool.false_eq_true, Bool.true_eq_false, reduceCtorEq, Nat.le_refl]
  obtain ⟨l0, s0, a0, b0⟩ := szBook_c (Z := Z) hLBook hLAccount (⟨x1, _, rfl, rfl, w1⟩ : Book.RL _ _ _ _) left (by omega) (by omega)
  simp only [run0, run1, run2, run3, run4, noSlot, ownS, ownK, memN, RO.dst, lk, drop, forget, number, Nat.reduceBEq, cut?, splice?, builds, List.length_cons, List.length_nil, List.drop_succ_cons, List.drop_zero, List.take_succ_cons, List.take_zero, List.cons_append, List.nil_append, List.append_nil, List.drop_nil, List.take_nil, Nat.reduceAdd, Nat.reduceLeDiff, Nat.zero_add, Nat.add_zero, ↓reduceIte, Bool.not_true, Bool.not_false, decide_true, decide_false, eq_self, bne_self_eq_false, List.getElem?_cons_zero, List.getElem?_cons_succ, decide_eq_true_eq, Bool.false_eq_true, Bool.true_eq_false, reduceCtorEq, Nat.le_refl, s0]
  by_cases n0 : l0 < 0
  · simp only [run0, run1, run2, run3, run4, noSlot, ownS, ownK, memN, RO.dst, lk, drop, forget, number, Nat.reduceBEq, cut?, splice?, builds, List.length_cons, List.length_nil, List.drop_succ_cons, List.drop_zero, List.take_succ_cons, List.take_zero, List.cons_append, List.nil_append, List.append_nil, List.drop_nil, List.take_nil, Nat.reduceAdd, Nat.reduceLeDiff, Nat.zero_add, Nat.add_zero, ↓reduceIte, Bool.not_true, Bool.not_false, decide_true, decide_false, eq_self, bne_self_eq_false, List.getElem?_cons_zero, List.getElem?_cons_succ, decide_eq_true_eq, Bool.false_eq_true, Bool.true_eq_false, reduceCtorEq, Nat.le_refl, n0]
    exact ⟨_, rfl, by omega, by omega⟩
  obtain ⟨l1, s1, a1, b1⟩ := szFinS_c (Z := Z) hLFin w2 l0 (by omega) (by omega)
  simp only [run0, run1, run2, run3, run4, noSlot, ownS, ownK, memN, RO.dst, lk, drop, forget, number, Nat.reduceBEq, cut?, splice?, builds, List.length_cons, List.length_nil, List.drop_succ_cons, List.drop_zero, List.take_succ_cons, List.take_zero, List.cons_append, List.nil_append, List.append_nil, List.drop_nil, List.take_nil, Nat.reduceAdd, Nat.reduceLeDiff, Nat.zero_add, Nat.add_zero, ↓reduceIte, Bool.not_true, Bool.not_false, decide_true, decide_false, eq_self, bne_self_eq_false, List.getElem?_cons_zero, List.getElem?_cons_succ, decide_eq_true_eq, Bool.false_eq_true, Bool.true_eq_false, reduceCtorEq, Nat.le_refl, s1, n0]
  by_cases n1 : l1 < 0
  · simp only [run0, run1, run2, run3, run4, noSlot, ownS, ownK, memN, RO.dst, lk, drop, forget, number, Nat.reduceBEq, cut?, splice?, builds, List.length_cons, List.length_nil, List.drop_succ_cons, List.drop_zero, List.take_succ_cons, List.take_zero, List.cons_append, List.nil_append, List.append_nil, List.drop_nil, List.take_nil, Nat.reduceAdd, Nat.reduceLeDiff, Nat.zero_add, Nat.add_zero, ↓reduceIte, Bool.not_true, Bool.not_false, decide_true, decide_false, eq_self, bne_self_eq_false, List.getElem?_cons_zero, List.getElem?_cons_succ, decide_eq_true_eq, Bool.false_eq_true, Bool.true_eq_false, reduceCtorEq, Nat.le_refl, n1]
    exact ⟨_, rfl, by omega, by omega⟩
  simp only [run0, run1, run2, run3, run4, noSlot, ownS, ownK, memN, RO.dst, lk, drop, forget, number, Nat.reduceBEq, cut?, splice?, builds, List.length_cons, List.length_nil, List.drop_succ_cons, List.drop_zero, List.take_succ_cons, List.take_zero, List.cons_append, List.nil_append, List.append_nil, List.drop_nil, List.take_nil, Nat.reduceAdd, Nat.reduceLeDiff, Nat.zero_add, Nat.add_zero, ↓reduceIte, Bool.not_true, Bool.not_false, decide_true, decide_false, eq_self, bne_self_eq_false, List.getElem?_cons_zero, List.getElem?_cons_succ, decide_eq_true_eq, Bool.false_eq_true, Bool.true_eq_false, reduceCtorEq, Nat.le_refl, n1]
  exact ⟨_, rfl, by omega, fun _ => ⟨b0 (by omega), b1 (by omega)⟩⟩
theorem toShard_c (hLShard : Has F tLShard) (hLBook : Has F tLBook) (hLAccount : Has F tLAccount) (hLFin : Has F tLFin) (hf : h.floor ≤ h.next) (v : Shard.RL h cs t fp) (sm : t.Small) : ∃ cs' h' fq, call F Z 112 [.agg cs] h = some (.agg cs', h') ∧ On h h' ∧ Shard.RI h' cs' t fq ∧ Fre h fq := by
  obtain ⟨x1, p1, x2, p2, rfl, rfl, w1, w2⟩ := v
  obtain ⟨sm0, sm1⟩ := sm
  obtain ⟨_, g0, _, e0, o0, ⟨y1, q1, rfl, rfl, u1⟩, r0⟩ := toBook_c (Z := Z) hLBook hLAccount hf (⟨x1, _, rfl, rfl, w1⟩ : Book.RL _ _ _ _) sm0
  replace w2 := w2.on (Fl.ok _) o0
  have f0 := o0.le hf
  obtain ⟨y2, g1, q2, e1, o1, u2, r1⟩ := toFinS_c (Z := Z) hLFin f0 w2 sm1
  have v1 := u1
  replace u1 := u1.on (Fl.ok _) o1
  rw [call_run F Z (hLShard.lk (g := 112) rfl) _ _ rfl]
  simp only [run0, run1, run2, run3, run4, noSlot, ownS, ownK, memN, RO.dst, lk, drop, forget, number, Nat.reduceBEq, cut?, splice?, builds, List.length_cons, List.length_nil, List.drop_succ_cons, List.drop_zero, List.take_succ_cons, List.take_zero, List.cons_append, List.nil_append, List.append_nil, List.drop_nil, List.take_nil, Nat.reduceAdd, Nat.reduceLeDiff, Nat.zero_add, Nat.add_zero, ↓reduceIte, Bool.not_true, Bool.not_false, decide_true, decide_false, eq_self, bne_self_eq_false, List.getElem?_cons_zero, List.getElem?_cons_succ, decide_eq_true_eq, Bool.false_eq_true, Bool.true_eq_false, reduceCtorEq, Nat.le_refl, e0, e1]
  exact ⟨_, _, _, rfl, o0.trans o1, ⟨y1, _, y2, _, rfl, rfl, u1, u2⟩, Fre.app r0 (Book.okI.lt (⟨y1, _, rfl, rfl, v1⟩ : Book.RI g0 _ t.book _)) r1 o0.ext.1⟩
set_option maxHeartbeats 1000000 in
theorem eqShard_r (hLShard : Has F tLShard) (hLBook : Has F tLBook) (hLAccount : Has F tLAccount) (hLFin : Has F tLFin) (v : Shard.RI h cs t fp) (v' : Shard.RI h cs' u fq) : call F Z 114 [.agg cs, .agg cs'] h = some (.c (.bool (decide (t = u))), h) := by
  obtain ⟨x1, p1, x2, p2, rfl, rfl, w1, w2⟩ := v
  obtain ⟨x1', p1', x2', p2', rfl, rfl, w1', w2'⟩ := v'
  obtain ⟨lo1, hi1, state1, epoch1, book1, finished1⟩ := t
  obtain ⟨lo2, hi2, state2, epoch2, book2, finished2⟩ := u
  have e0 := eqBook_r (Z := Z) hLBook hLAccount (⟨x1, _, rfl, rfl, w1⟩ : Book.RI h _ book1 _) (⟨x1', _, rfl, rfl, w1'⟩ : Book.RI h _ book2 _)
  have e1 := eqFinS_run (Z := Z) hLFin w2 w2'
  clear w1 w1' w2 w2'
  rw [call_run F Z (hLShard.lk (g := 114) rfl) _ _ rfl]
  simp only [run0, run1, run2, run3, run4, noSlot, ownS, ownK, memN, RO.dst, lk, drop, forget, number, Nat.reduceBEq, cut?, splice?, builds, List.length_cons, List.length_nil, List.drop_succ_cons, List.drop_zero, List.take_succ_cons, List.take_zero, List.cons_append, List.nil_append, List.append_nil, List.drop_nil, List.take_nil, Nat.reduceAdd, Nat.reduceLeDiff, Nat.zero_add, Nat.add_zero, ↓reduceIte, Bool.not_true, Bool.not_false, decide_true, decide_false, eq_self, bne_self_eq_false, List.getElem?_cons_zero, List.getElem?_cons_succ, decide_eq_true_eq, Bool.false_eq_true, Bool.true_eq_false, reduceCtorEq, Nat.le_refl, e0, e1]
  (repeat' ((first | (rw [gF_if]; split) | (rw [condC_if]; split) | (rw [pickR_if]; split)) <;> (rename_i hh; (try simp only [Bool.not_eq_true, decide_eq_true_eq] at hh); simp only [hh, run0, run1, run2, run3, run4, noSlot, ownS, ownK, memN, RO.dst, lk, drop, forget, number, Nat.reduceBEq, cut?, splice?, builds, List.length_cons, List.length_nil, List.drop_succ_cons, List.drop_zero, List.take_succ_cons, List.take_zero, List.cons_append, List.nil_append, List.append_nil, List.drop_nil, List.take_nil, Nat.reduceAdd, Nat.reduceLeDiff, Nat.zero_add, Nat.add_zero, ↓reduceIte, Bool.not_true, Bool.not_false, decide_true, decide_false, eq_self, bne_self_eq_false, List.getElem?_cons_zero, List.getElem?_cons_succ, decide_eq_true_eq, Bool.false_eq_true, Bool.true_eq_false, reduceCtorEq, Nat.le_refl, e0, e1]))) <;> clear e0 e1 <;> refine fin_bool ?_ <;> simp_all <;> (try (intros; omega))
theorem markShard_r (hLShard : Has F tLShard) (hLBook : Has F tLBook) (hLAccount : Has F tLAccount) (hLFin : Has F tLFin) (v : Shard.RI h cs t fp) (nd : fp.Nodup) (hlo : ∀ id, id ∈ fp → h.floor ≤ id) (k : Int) (h1 : 0 ≤ k) (h2 : k + t.wt ≤ 9200000000000000000) : ∃ h', call F Z 192 [.agg cs, .c (.int .i64 k)] h = some (.c (.int .i64 (k + t.wt)), h') ∧ Mk h h' fp ∧ Shard.RI h' cs (t.marked k) fp := by
  obtain ⟨x1, p1, x2, p2, rfl, rfl, w1, w2⟩ := v
  simp only [Shard.wt] at h2 ⊢
  obtain ⟨nd1, nd2, nd3⟩ := List.nodup_append.1 nd
  have := t.book.wt_nn
  obtain ⟨g1, e0, m0, ⟨y1, q1, uc, uq, u1⟩⟩ := markBook_r (Z := Z) hLBook hLAccount (⟨x1, _, rfl, rfl, w1⟩ : Book.RI h _ t.book _) nd1 (fun id hid => hlo id (by simp [hid])) (k) (by omega) (by omega)
  simp only [List.cons.injEq, and_true] at uc
  subst uc
  subst uq
  have w2' := w2.mk (Fl.ok _) m0 (fun id h1 h2 => nd3 id h2 id h1 rfl)
  obtain ⟨g2, e1, m1, u2⟩ := markFinS_run (Z := Z) hLFin w2' (fun id hid => by rw [m0.fl]; exact hlo id (by simp [hid])) (k + t.book.wt) (by omega) (by omega)
  have u1' := u1.mk (Fl.ok _) m1 (fun id h1 h2 => nd3 id h1 id h2 rfl)
  rw [call_run F Z (hLShard.lk (g := 192) rfl) _ _ rfl]
  simp only [run0, run1, run2, run3, run4, noSlot, ownS, ownK, memN, RO.dst, lk, drop, forget, number, Nat.reduceBEq, cut?, splice?, builds, List.length_cons, List.length_nil, List.drop_succ_cons, List.drop_zero, List.take_succ_cons, List.take_zero, List.cons_append, List.nil_append, List.append_nil, List.drop_nil, List.take_nil, Nat.reduceAdd, Nat.reduceLeDiff, Nat.zero_add, Nat.add_zero, ↓reduceIte, Bool.not_true, Bool.not_false, decide_true, decide_false, eq_self, bne_self_eq_false, List.getElem?_cons_zero, List.getElem?_cons_succ, decide_eq_true_eq, Bool.false_eq_true, Bool.true_eq_false, reduceCtorEq, Nat.le_refl, e0, e1]
  exact ⟨g2, by rw [Int.add_assoc], m0.trans m1, ⟨x1, _, x2, _, rfl, rfl, u1', u2⟩⟩
theorem heldShard_r (hLShard : Has F tLShard) (hLBook : Has F tLBook) (hLAccount : Has F tLAccount) (hLFin : Has F tLFin) {k : Int} (v : Shard.RI h cs (t.marked k) fp) (h1 : 0 ≤ k) (h2 : k + t.wt ≤ 9200000000000000000) : call F Z 193 [.agg cs, .c (.int .i64 k)] h = some (.c (.int .i64 (k + t.wt)), h) := by
  obtain ⟨x1, p1, x2, p2, rfl, rfl, w1, w2⟩ := v
  simp only [Shard.wt] at h2 ⊢
  have := t.book.wt_nn
  have e0 := heldBook_r (Z := Z) hLBook hLAccount (t := t.book) (⟨x1, _, rfl, rfl, w1⟩ : Book.RI h _ (t.book.marked k) _) h1 (by omega)
  have e1 := heldFinS_run (Z := Z) hLFin (n := t.finished.length) (k := k + t.book.wt) w2 (by omega) (by omega)
  have n0 : ¬ k + t.book.wt < 0 := by omega
  have n1 : ¬ k + t.book.wt + 2 * ((t.finished.length : Nat) : Int) < 0 := by omega
  rw [call_run F Z (hLShard.lk (g := 193) rfl) _ _ rfl]
  simp only [run0, run1, run2, run3, run4, noSlot, ownS, ownK, memN, RO.dst, lk, drop, forget, number, Nat.reduceBEq, cut?, splice?, builds, List.length_cons, List.length_nil, List.drop_succ_cons, List.drop_zero, List.take_succ_cons, List.take_zero, List.cons_append, List.nil_append, List.append_nil, List.drop_nil, List.take_nil, Nat.reduceAdd, Nat.reduceLeDiff, Nat.zero_add, Nat.add_zero, ↓reduceIte, Bool.not_true, Bool.not_false, decide_true, decide_false, eq_self, bne_self_eq_false, List.getElem?_cons_zero, List.getElem?_cons_succ, decide_eq_true_eq, Bool.false_eq_true, Bool.true_eq_false, reduceCtorEq, Nat.le_refl, e0, n0, e1, n1, ← Int.add_assoc]
end
end Go.Proofs.Ytlfepembgjjejaa.A
/- Fins in order. -/
namespace Go.Proofs.Ytlfepembgjjejaa.A
open Go
set_option linter.unusedSimpArgs false
set_option linter.unusedVariables false
def Fin.at_ (xs : List Fin) (i : Nat) : Fin := xs[i]?.getD Fin.none_
/-- May an account be in a shard? -/
def Shard.acc (s : Shard) (a : Account) : Bool := decide (s.lo ≤ a.id) && (decide (a.id ≤ s.hi) && !decide ((⟨a.tx, a.id⟩ : Fin) ∈ s.finished))
def Shard.finAt (s : Shard) (i : Nat) : Bool := decide (1 ≤ (Fin.at_ s.finished i).tx) && (decide (s.lo ≤ (Fin.at_ s.finished i).id) && (decide ((Fin.at_ s.finished i).id ≤ s.hi) && (i == 0 || decide (cmpFin (Fin.at_ s.finished (i - 1)) (Fin.at_ s.finished i) < 0))))
section
variable {F : Nat → Option RF} {Z : CallF} {h : Heap} {x : Cell} {xs : List Fin} {fp : List Nat}
theorem compareFins_run (hI13 : Has F tI13) (h1 : Has F tLibcmpCompareint) (h2 : Has F tLibcmpCompareuint64) (h3 : Has F tLibcmpOrint) (h4 : Has F tLibcmpisNaNint) (h5 : Has F tLibcmpisNaNuint64) (f g : Fin) (h : Heap) :
    call F Z 267 [.agg f.enc, .agg g.enc] h = some (.c (.int .i64 (cmpFin f g)), h.push [[.int .i64 (cmpI f.tx g.tx)], [.int .i64 (cmpI f.id g.id)]]) := by
  obtain ⟨t, d⟩ := f
  obtain ⟨t', d'⟩ := g
  have ho := Or2_run (Z := Z) (h := ⟨(h.push [[.int .i64 (cmpI t t')], [.int .i64 (cmpI d d')]]).next, (h.push [[.int .i64 (cmpI t t')], [.int .i64 (cmpI d d')]]).next, (h.push [[.int .i64 (cmpI t t')], [.int .i64 (cmpI d d')]]).get⟩) h3 (o := h.next) (cmpI t t') (cmpI d d') (push_get _ _)
  rw [call_run F Z (hI13.lk (g := 267) rfl) _ _ rfl]
  simp only [run0, run1, run2, run3, run4, noSlot, ownS, ownK, memN, RO.dst, lk, drop, forget, number, Nat.reduceBEq, cut?, splice?, builds, List.length_cons, List.length_nil, List.drop_succ_cons, List.drop_zero, List.take_succ_cons, List.take_zero, List.cons_append, List.nil_append, List.append_nil, List.drop_nil, List.take_nil, Nat.reduceAdd, Nat.reduceLeDiff, Nat.zero_add, Nat.add_zero, ↓reduceIte, Bool.not_true, Bool.not_false, decide_true, decide_false, eq_self, bne_self_eq_false, List.getElem?_cons_zero, List.getElem?_cons_succ, decide_eq_true_eq, Bool.false_eq_true, Bool.true_eq_false, reduceCtorEq, Nat.le_refl, Fin.enc, Compare_int_run h1 h4, Compare_u64_run h2 h5, List.replicate_succ, List.replicate_zero, fills, and_self, Nat.zero_lt_succ, Nat.reduceLT, List.set_cons_zero, List.set_cons_succ, ho]
  rfl
variable {s : Shard} {y : Cell} {fq : List Nat}
set_option maxHeartbeats 2000000 in
theorem isShard_accs (hL : Has F tLibslicesIndeximplFinimplFin) (hC : Has F tLibslicesContainsimplFinimplFin) (w : SlR 11 (Fl Account.enc) h x s.book.list fp) (v : SlR 9 (Fl Fin.enc) h y s.finished fq) :
    Turn (loop F Z [1, 46, 47, 48] r244L1 ⟨[(46, .c x), (47, .c (.int .i64 (s.book.list.length : Nat))), (48, .c (.int .i64 (0 : Nat)))], [(1, 1, 0)], [(1, [.int .u64 s.lo, .int .u64 s.hi, .int .i64 s.state, .int .i64 s.epoch, x, y])], h⟩)
      (loop F Z [1, 46, 47, 48] r244L1 ⟨[(46, .c x), (47, .c (.int .i64 (s.book.list.length : Nat))), (48, .c (.int .i64 (s.book.list.length : Nat)))], [(1, 1, 0)], [(1, [.int .u64 s.lo, .int .u64 s.hi, .int .i64 s.state, .int .i64 s.epoch, x, y])], h⟩) (s.book.list.all s.acc) (fun s => lk s.env 2 = some (.c (.bool false)) ∧ s.hp = h) := by
  have hle := w.le2
  refine loop_all (F := F) (Z := Z) (live := [1, 46, 47, 48]) (b := r244L1) s.book.list (fun i => ⟨[(46, .c x), (47, .c (.int .i64 (s.book.list.length : Nat))), (48, .c (.int .i64 (i : Nat)))], [(1, 1, 0)], [(1, [.int .u64 s.lo, .int .u64 s.hi, .int .i64 s.state, .int .i64 s.epoch, x, y])], h⟩) s.acc _ fun i hi => ?_
  have hlt : (i : Int) < s.book.list.length := by omega
  have hws := wrapS i (by omega)
  have hxi := w.idx hi
  have hld := w.load hi
  have hc : ∀ t d, call F Z 266 [.c y, .agg [.int .i64 t, .int .u64 d]] h = some (.c (.bool (decide ((⟨t, d⟩ : Fin) ∈ s.finished))), h) := fun t d => containsFin_run hL hC v ⟨t, d⟩
  rw [loop_run]
  conv in (codeF _ _ r244L1 _) => unfold r244L1
  simp only [run0, run1, run2, run3, run4, noSlot, ownS, ownK, memN, RO.dst, lk, drop, forget, number, Nat.reduceBEq, cut?, splice?, builds, List.length_cons, List.length_nil, List.drop_succ_cons, List.drop_zero, List.take_succ_cons, List.take_zero, List.cons_append, List.nil_append, List.append_nil, List.drop_nil, List.take_nil, Nat.reduceAdd, Nat.reduceLeDiff, Nat.zero_add, Nat.add_zero, ↓reduceIte, Bool.not_true, Bool.not_false, decide_true, decide_false, eq_self, bne_self_eq_false, List.getElem?_cons_zero, List.getElem?_cons_succ, decide_eq_true_eq, Bool.false_eq_true, Bool.true_eq_false, reduceCtorEq, Nat.le_refl, hlt, hxi, hld, Account.enc, hc]
  generalize s.book.list[i] = a
  clear hxi hld w v
  (repeat' ((first | (rw [gF_if]; split) | (rw [condC_if]; split) | (rw [pickR_if]; split)) <;> (rename_i hh; (try simp only [Bool.not_eq_true, decide_eq_true_eq] at hh); simp only [hh, run0, run1, run2, run3, run4, noSlot, ownS, ownK, memN, RO.dst, lk, drop, forget, number, Nat.reduceBEq, cut?, splice?, builds, List.length_cons, List.length_nil, List.drop_succ_cons, List.drop_zero, List.take_succ_cons, List.take_zero, List.cons_append, List.nil_append, List.append_nil, List.drop_nil, List.take_nil, Nat.reduceAdd, Nat.reduceLeDiff, Nat.zero_add, Nat.add_zero, ↓reduceIte, Bool.not_true, Bool.not_false, decide_true, decide_false, eq_self, bne_self_eq_false, List.getElem?_cons_zero, List.getElem?_cons_succ, decide_eq_true_eq, Bool.false_eq_true, Bool.true_eq_false, reduceCtorEq, Nat.le_refl, hws, hc]))) <;> clear hc <;> first
    | exact .inl ⟨by simp_all [Shard.acc] <;> omega, rfl⟩
    | exact .inr ⟨by simp_all [Shard.acc] <;> omega, _, rfl, rfl, rfl⟩
set_option maxHeartbeats 4000000 in
theorem isShard_fins (hI13 : Has F tI13) (h1 : Has F tLibcmpCompareint) (h2 : Has F tLibcmpCompareuint64) (h3 : Has F tLibcmpOrint) (h4 : Has F tLibcmpisNaNint) (h5 : Has F tLibcmpisNaNuint64) (v : SlR 9 (Fl Fin.enc) h y s.finished fq) :
    (∃ s', (∃ g, s' = ⟨[(76, .c y), (77, .c (.int .i64 (s.finished.length : Nat))), (78, .c (.int .i64 (s.finished.length : Nat)))], [(1, 1, 0)], [(1, [.int .u64 s.lo, .int .u64 s.hi, .int .i64 s.state, .int .i64 s.epoch, x, y])], g⟩ ∧ On h g ∧ ∀ j, j < s.finished.length → s.finAt j = true) ∧
        loop F Z [1, 76, 77, 78] r244L0 ⟨[(76, .c y), (77, .c (.int .i64 (s.finished.length : Nat))), (78, .c (.int .i64 (0 : Nat)))], [(1, 1, 0)], [(1, [.int .u64 s.lo, .int .u64 s.hi, .int .i64 s.state, .int .i64 s.epoch, x, y])], h⟩ = loop F Z [1, 76, 77, 78] r244L0 s') ∨
      ∃ s', loop F Z [1, 76, 77, 78] r244L0 ⟨[(76, .c y), (77, .c (.int .i64 (s.finished.length : Nat))), (78, .c (.int .i64 (0 : Nat)))], [(1, 1, 0)], [(1, [.int .u64 s.lo, .int .u64 s.hi, .int .i64 s.state, .int .i64 s.epoch, x, y])], h⟩ = some (.ret, s') ∧ (lk s'.env 2 = some (.c (.bool false)) ∧ On h s'.hp ∧ ∃ j, j < s.finished.length ∧ s.finAt j = false) := by
  have hle := v.le2
  refine loop_rel (F := F) (Z := Z) (live := [1, 76, 77, 78]) (b := r244L0) s.finished.length (fun i s' => ∃ g, s' = ⟨[(76, .c y), (77, .c (.int .i64 (s.finished.length : Nat))), (78, .c (.int .i64 (i : Nat)))], [(1, 1, 0)], [(1, [.int .u64 s.lo, .int .u64 s.hi, .int .i64 s.state, .int .i64 s.epoch, x, y])], g⟩ ∧ On h g ∧ ∀ j, j < i → s.finAt j = true) _ (fun i s' hi ⟨g, hs, og, hall⟩ => ?_) ⟨h, rfl, On.refl h, fun j hj => absurd hj (Nat.not_lt_zero _)⟩
  subst hs
  have hlt : (i : Int) < s.finished.length := by omega
  have hws := wrapS i (by omega)
  have hxi := v.idx hi
  have vg := v.on (Fl.ok _) og
  have hld : ∀ j n, loadP g y.sid i j n = cut? (Fin.at_ s.finished i).enc j n := vg.loadD Fin.none_ hi
  have hfin : s.finAt i = (decide (1 ≤ (Fin.at_ s.finished i).tx) && (decide (s.lo ≤ (Fin.at_ s.finished i).id) && (decide ((Fin.at_ s.finished i).id ≤ s.hi) && (i == 0 || decide (cmpFin (Fin.at_ s.finished (i - 1)) (Fin.at_ s.finished i) < 0))))) := rfl
  have good : s.finAt i = true → ∀ j, j < i + 1 → s.finAt j = true := fun hg j hj => by
    by_cases he : j = i
    · rw [he]; exact hg
    · exact hall j (by omega)
  have bad : s.finAt i = false → ∃ j, j < s.finished.length ∧ s.finAt j = false := fun hb => ⟨i, hi, hb⟩
  have hpre : 0 < i → IntKind.i64.wrap ((i : Int) - 1) = ((i - 1 : Nat) : Int) := fun hp => by rw [wrapI _ (by omega) (by omega)]; omega
  have hpi : 0 < i → idxR 9 (some y) (some ((i - 1 : Nat) : Int)) = some (.ptr y.sid (i - 1) 0) := fun hp => v.idx (by omega)
  have hpl : 0 < i → ∀ j n, loadP g y.sid (i - 1) j n = cut? (Fin.at_ s.finished (i - 1)).enc j n := fun hp => vg.loadD Fin.none_ (by omega)
  clear v vg hall
  generalize s.finAt i = fa at *
  generalize Fin.at_ s.finished (i - 1) = pf at *
  generalize Fin.at_ s.finished i = f at *
  have cf := compareFins_run (Z := Z) hI13 h1 h2 h3 h4 h5 pf f ⟨g.next, g.next, g.get⟩
  have og' := og.trans (On.push g [[.int .i64 (cmpI pf.tx f.tx)], [.int .i64 (cmpI pf.id f.id)]])
  obtain ⟨k, hk⟩ : ∃ k, Heap.mk ((Heap.mk g.next g.next g.get).push [[.int .i64 (cmpI pf.tx f.tx)], [.int .i64 (cmpI pf.id f.id)]]).next g.floor ((Heap.mk g.next g.next g.get).push [[.int .i64 (cmpI pf.tx f.tx)], [.int .i64 (cmpI pf.id f.id)]]).get = k := ⟨_, rfl⟩
  have ok' : On h k := by rw [← hk]; exact og'
  obtain ⟨t, d⟩ := f
  obtain ⟨t', d'⟩ := pf
  simp only [Fin.enc] at cf hld hpl
  rw [loop_run]
  conv in (codeF _ _ r244L0 _) => unfold r244L0
  simp only [run0, run1, run2, run3, run4, noSlot, ownS, ownK, memN, RO.dst, lk, drop, forget, number, Nat.reduceBEq, cut?, splice?, builds, List.length_cons, List.length_nil, List.drop_succ_cons, List.drop_zero, List.take_succ_cons, List.take_zero, List.cons_append, List.nil_append, List.append_nil, List.drop_nil, List.take_nil, Nat.reduceAdd, Nat.reduceLeDiff, Nat.zero_add, Nat.add_zero, ↓reduceIte, Bool.not_true, Bool.not_false, decide_true, decide_false, eq_self, bne_self_eq_false, List.getElem?_cons_zero, List.getElem?_cons_succ, decide_eq_true_eq, Bool.false_eq_true, Bool.true_eq_false, reduceCtorEq, Nat.le_refl, hlt, hxi, hld]
  by_cases hp : 0 < i
  · have g1 : (i : Int) > 0 := by omega
    have hi0 : (i == 0) = false := by simp; omega
    have q1 := hpre hp
    have q2 := hpi hp
    have q3 := hpl hp
    clear hxi hpre hpi hpl
    (repeat' ((first | (rw [gF_if]; split) | (rw [condC_if]; split) | (rw [pickR_if]; split)) <;> (rename_i hh; (try simp only [Bool.not_eq_true, decide_eq_true_eq] at hh); simp only [hh, run0, run1, run2, run3, run4, noSlot, ownS, ownK, memN, RO.dst, lk, drop, forget, number, Nat.reduceBEq, cut?, splice?, builds, List.length_cons, List.length_nil, List.drop_succ_cons, List.drop_zero, List.take_succ_cons, List.take_zero, List.cons_append, List.nil_append, List.append_nil, List.drop_nil, List.take_nil, Nat.reduceAdd, Nat.reduceLeDiff, Nat.zero_add, Nat.add_zero, ↓reduceIte, Bool.not_true, Bool.not_false, decide_true, decide_false, eq_self, bne_self_eq_false, List.getElem?_cons_zero, List.getElem?_cons_succ, decide_eq_true_eq, Bool.false_eq_true, Bool.true_eq_false, reduceCtorEq, Nat.le_refl, hws, g1, q1, q2, q3, cf, hk, hld])))
    all_goals clear q2 q3 cf hk hld og'
    all_goals first
      | (exfalso; omega)
      | exact Or.inl ⟨_, ⟨_, rfl, og, good (by simp_all <;> omega)⟩, rfl⟩
      | exact Or.inl ⟨_, ⟨_, rfl, ok', good (by simp_all <;> omega)⟩, rfl⟩
      | exact Or.inr ⟨_, rfl, rfl, og, bad (by simp_all <;> omega)⟩
      | exact Or.inr ⟨_, rfl, rfl, ok', bad (by simp_all <;> omega)⟩
  · have g1 : ¬ (i : Int) > 0 := by omega
    have hi0 : (i == 0) = true := by simp; omega
    clear hxi hpre hpi hpl cf hk
    (repeat' ((first | (rw [gF_if]; split) | (rw [condC_if]; split) | (rw [pickR_if]; split)) <;> (rename_i hh; (try simp only [Bool.not_eq_true, decide_eq_true_eq] at hh); simp only [hh, run0, run1, run2, run3, run4, noSlot, ownS, ownK, memN, RO.dst, lk, drop, forget, number, Nat.reduceBEq, cut?, splice?, builds, List.length_cons, List.length_nil, List.drop_succ_cons, List.drop_zero, List.take_succ_cons, List.take_zero, List.cons_append, List.nil_append, List.append_nil, List.drop_nil, List.take_nil, Nat.reduceAdd, Nat.reduceLeDiff, Nat.zero_add, Nat.add_zero, ↓reduceIte, Bool.not_true, Bool.not_false, decide_true, decide_false, eq_self, bne_self_eq_false, List.getElem?_cons_zero, List.getElem?_cons_succ, decide_eq_true_eq, Bool.false_eq_true, Bool.true_eq_false, reduceCtorEq, Nat.le_refl, hws, g1, hld])))
    all_goals clear hld og'
    all_goals first
      | (exfalso; omega)
      | exact Or.inl ⟨_, ⟨_, rfl, og, good (by simp_all <;> omega)⟩, rfl⟩
      | exact Or.inr ⟨_, rfl, rfl, og, bad (by simp_all <;> omega)⟩
end
end Go.Proofs.Ytlfepembgjjejaa.A
/- Is a shard right? -/
namespace Go.Proofs.Ytlfepembgjjejaa.A
open Go
set_option linter.unusedSimpArgs false
set_option linter.unusedVariables false
def Shard.head (s : Shard) : Bool := decide (s.lo ≤ s.hi) && ((s.state == 0 || s.state == 1) && (inR s.epoch 1 1000000 && (bookOk s.book.list && decide ((s.finished.length : Int) ≤ 60))))
def Shard.good (s : Shard) : Bool := s.head && (s.book.list.all s.acc && (List.range s.finished.length).all s.finAt)
section
variable {F : Nat → Option RF} {Z : CallF} {h : Heap} {cs : List Cell} {s : Shard} {fp : List Nat}
set_option maxHeartbeats 4000000 in
theorem isShard_run (hI10 : Has F tI10) (hI13 : Has F tI13) (h1 : Has F tLibcmpCompareint) (h2 : Has F tLibcmpCompareuint64) (h3 : Has F tLibcmpOrint) (h4 : Has F tLibcmpisNaNint) (h5 : Has F tLibcmpisNaNuint64) (hL : Has F tLibslicesIndeximplFinimplFin) (hC : Has F tLibslicesContainsimplFinimplFin)
    (v : Shard.RI h cs s fp) (ok : s.Ok) : ∃ h', call F Z 244 [.agg cs] h = some (.c (.bool s.good), h') ∧ On h h' := by
  obtain ⟨x, p, y, q, rfl, rfl, w, u⟩ := v
  have hB := isBook_run (Z := Z) hI10 w ok.book.list
  have ka := isShard_accs (Z := Z) (s := s) hL hC w u
  have kf := isShard_fins (Z := Z) (s := s) (x := x) hI13 h1 h2 h3 h4 h5 u
  have l1 := w.len
  have l2 := u.len
  have n1 : ¬ (s.book.list.length : Int) < s.book.list.length := by omega
  have n2 : ¬ (s.finished.length : Int) < s.finished.length := by omega
  clear w u
  rw [call_run F Z (hI13.lk (g := 244) rfl) _ _ rfl]
  simp only [show ((0 : Nat) : Int) = 0 from rfl] at ka kf
  cases hd : s.head with
  | false =>
    have hg : s.good = false := by simp [Shard.good, hd]
    rw [hg]
    simp only [run0, run1, run2, run3, run4, noSlot, ownS, ownK, memN, RO.dst, lk, drop, forget, number, Nat.reduceBEq, cut?, splice?, builds, List.length_cons, List.length_nil, List.drop_succ_cons, List.drop_zero, List.take_succ_cons, List.take_zero, List.cons_append, List.nil_append, List.append_nil, List.drop_nil, List.take_nil, Nat.reduceAdd, Nat.reduceLeDiff, Nat.zero_add, Nat.add_zero, ↓reduceIte, Bool.not_true, Bool.not_false, decide_true, decide_false, eq_self, bne_self_eq_false, List.getElem?_cons_zero, List.getElem?_cons_succ, decide_eq_true_eq, Bool.false_eq_true, Bool.true_eq_false, reduceCtorEq, Nat.le_refl, hB, l2]
    clear ka kf
    (repeat' ((first | (rw [gF_if]; split) | (rw [condC_if]; split) | (rw [pickR_if]; split)) <;> (rename_i hh; (try simp only [Bool.not_eq_true, decide_eq_true_eq] at hh); simp only [hh, run0, run1, run2, run3, run4, noSlot, ownS, ownK, memN, RO.dst, lk, drop, forget, number, Nat.reduceBEq, cut?, splice?, builds, List.length_cons, List.length_nil, List.drop_succ_cons, List.drop_zero, List.take_succ_cons, List.take_zero, List.cons_append, List.nil_append, List.append_nil, List.drop_nil, List.take_nil, Nat.reduceAdd, Nat.reduceLeDiff, Nat.zero_add, Nat.add_zero, ↓reduceIte, Bool.not_true, Bool.not_false, decide_true, decide_false, eq_self, bne_self_eq_false, List.getElem?_cons_zero, List.getElem?_cons_succ, decide_eq_true_eq, Bool.false_eq_true, Bool.true_eq_false, reduceCtorEq, Nat.le_refl, hB, l2, l1])))
    all_goals clear hB l1 l2
    all_goals first
      | exact ⟨_, rfl, On.refl h⟩
      | (exfalso; simp_all [Shard.head, inR]; done)
      | (exfalso; simp_all [Shard.head, inR]; omega)
  | true =>
    have hg : s.good = (s.book.list.all s.acc && (List.range s.finished.length).all s.finAt) := by simp [Shard.good, hd]
    rw [hg]
    simp only [Shard.head, Bool.and_eq_true, decide_eq_true_eq, Bool.or_eq_true, beq_iff_eq, inR] at hd
    obtain ⟨d1, d2, ⟨d3, d4⟩, d5, d6⟩ := hd
    rw [d5] at hB
    have c1 : ¬ s.lo > s.hi := by omega
    have c3 : ¬ s.epoch < 1 := by omega
    have c4 : ¬ s.epoch > 1000000 := by omega
    have c6 : ¬ (s.finished.length : Int) > 60 := by omega
    have c2 : (s.state != 0) = false ∨ ((s.state != 0) = true ∧ (s.state != 1) = false) := by
      rcases d2 with d2 | d2 <;> simp [d2]
    rcases c2 with c2 | ⟨c2, c2'⟩
    · simp only [run0, run1, run2, run3, run4, noSlot, ownS, ownK, memN, RO.dst, lk, drop, forget, number, Nat.reduceBEq, cut?, splice?, builds, List.length_cons, List.length_nil, List.drop_succ_cons, List.drop_zero, List.take_succ_cons, List.take_zero, List.cons_append, List.nil_append, List.append_nil, List.drop_nil, List.take_nil, Nat.reduceAdd, Nat.reduceLeDiff, Nat.zero_add, Nat.add_zero, ↓reduceIte, Bool.not_true, Bool.not_false, decide_true, decide_false, eq_self, bne_self_eq_false, List.getElem?_cons_zero, List.getElem?_cons_succ, decide_eq_true_eq, Bool.false_eq_true, Bool.true_eq_false, reduceCtorEq, Nat.le_refl, hB, l1, l2, c1, c2, c3, c4, c6]
      rcases ka with ⟨a1, a2⟩ | ⟨a1, s', a2, a3, a4⟩
      · rw [a2, loop_run]
        conv in (codeF _ _ r244L1 _) => unfold r244L1
        simp only [run0, run1, run2, run3, run4, noSlot, ownS, ownK, memN, RO.dst, lk, drop, forget, number, Nat.reduceBEq, cut?, splice?, builds, List.length_cons, List.length_nil, List.drop_succ_cons, List.drop_zero, List.take_succ_cons, List.take_zero, List.cons_append, List.nil_append, List.append_nil, List.drop_nil, List.take_nil, Nat.reduceAdd, Nat.reduceLeDiff, Nat.zero_add, Nat.add_zero, ↓reduceIte, Bool.not_true, Bool.not_false, decide_true, decide_false, eq_self, bne_self_eq_false, List.getElem?_cons_zero, List.getElem?_cons_succ, decide_eq_true_eq, Bool.false_eq_true, Bool.true_eq_false, reduceCtorEq, Nat.le_refl, n1, l2]
        rcases kf with ⟨s'', ⟨g, hs, og, hall⟩, e⟩ | ⟨s'', e, b1, b2, j, hj, b3⟩
        · subst hs
          rw [e, loop_run]
          conv in (codeF _ _ r244L0 _) => unfold r244L0
          simp only [run0, run1, run2, run3, run4, noSlot, ownS, ownK, memN, RO.dst, lk, drop, forget, number, Nat.reduceBEq, cut?, splice?, builds, List.length_cons, List.length_nil, List.drop_succ_cons, List.drop_zero, List.take_succ_cons, List.take_zero, List.cons_append, List.nil_append, List.append_nil, List.drop_nil, List.take_nil, Nat.reduceAdd, Nat.reduceLeDiff, Nat.zero_add, Nat.add_zero, ↓reduceIte, Bool.not_true, Bool.not_false, decide_true, decide_false, eq_self, bne_self_eq_false, List.getElem?_cons_zero, List.getElem?_cons_succ, decide_eq_true_eq, Bool.false_eq_true, Bool.true_eq_false, reduceCtorEq, Nat.le_refl, n2]
          have ha : (List.range s.finished.length).all s.finAt = true := List.all_eq_true.2 fun j hj => hall j (by simpa using hj)
          exact ⟨_, by rw [a1, ha]; rfl, og⟩
        · rw [e]
          simp only [run0, run1, run2, run3, run4, noSlot, ownS, ownK, memN, RO.dst, lk, drop, forget, number, Nat.reduceBEq, cut?, splice?, builds, List.length_cons, List.length_nil, List.drop_succ_cons, List.drop_zero, List.take_succ_cons, List.take_zero, List.cons_append, List.nil_append, List.append_nil, List.drop_nil, List.take_nil, Nat.reduceAdd, Nat.reduceLeDiff, Nat.zero_add, Nat.add_zero, ↓reduceIte, Bool.not_true, Bool.not_false, decide_true, decide_false, eq_self, bne_self_eq_false, List.getElem?_cons_zero, List.getElem?_cons_succ, decide_eq_true_eq, Bool.false_eq_true, Bool.true_eq_false, reduceCtorEq, Nat.le_refl, b1]
          have ha : (List.range s.finished.length).all s.finAt = false := by
            rw [List.all_eq_false]
            exact ⟨j, by simpa using hj, by simp [b3]⟩
          exact ⟨_, by rw [a1, ha]; rfl, b2⟩
      · rw [a2]
        simp only [run0, run1, run2, run3, run4, noSlot, ownS, ownK, memN, RO.dst, lk, drop, forget, number, Nat.reduceBEq, cut?, splice?, builds, List.length_cons, List.length_nil, List.drop_succ_cons, List.drop_zero, List.take_succ_cons, List.take_zero, List.cons_append, List.nil_append, List.append_nil, List.drop_nil, List.take_nil, Nat.reduceAdd, Nat.reduceLeDiff, Nat.zero_add, Nat.add_zero, ↓reduceIte, Bool.not_true, Bool.not_false, decide_true, decide_false, eq_self, bne_self_eq_false, List.getElem?_cons_zero, List.getElem?_cons_succ, decide_eq_true_eq, Bool.false_eq_true, Bool.true_eq_false, reduceCtorEq, Nat.le_refl, a3, a4]
        exact ⟨_, by rw [a1]; rfl, On.refl h⟩
    · simp only [run0, run1, run2, run3, run4, noSlot, ownS, ownK, memN, RO.dst, lk, drop, forget, number, Nat.reduceBEq, cut?, splice?, builds, List.length_cons, List.length_nil, List.drop_succ_cons, List.drop_zero, List.take_succ_cons, List.take_zero, List.cons_append, List.nil_append, List.append_nil, List.drop_nil, List.take_nil, Nat.reduceAdd, Nat.reduceLeDiff, Nat.zero_add, Nat.add_zero, ↓reduceIte, Bool.not_true, Bool.not_false, decide_true, decide_false, eq_self, bne_self_eq_false, List.getElem?_cons_zero, List.getElem?_cons_succ, decide_eq_true_eq, Bool.false_eq_true, Bool.true_eq_false, reduceCtorEq, Nat.le_refl, hB, l1, l2, c1, c2, c2', c3, c4, c6]
      rcases ka with ⟨a1, a2⟩ | ⟨a1, s', a2, a3, a4⟩
      · rw [a2, loop_run]
        conv in (codeF _ _ r244L1 _) => unfold r244L1
        simp only [run0, run1, run2, run3, run4, noSlot, ownS, ownK, memN, RO.dst, lk, drop, forget, number, Nat.reduceBEq, cut?, splice?, builds, List.length_cons, List.length_nil, List.drop_succ_cons, List.drop_zero, List.take_succ_cons, List.take_zero, List.cons_append, List.nil_append, List.append_nil, List.drop_nil, List.take_nil, Nat.reduceAdd, Nat.reduceLeDiff, Nat.zero_add, Nat.add_zero, ↓reduceIte, Bool.not_true, Bool.not_false, decide_true, decide_false, eq_self, bne_self_eq_false, List.getElem?_cons_zero, List.getElem?_cons_succ, decide_eq_true_eq, Bool.false_eq_true, Bool.true_eq_false, reduceCtorEq, Nat.le_refl, n1, l2]
        rcases kf with ⟨s'', ⟨g, hs, og, hall⟩, e⟩ | ⟨s'', e, b1, b2, j, hj, b3⟩
        · subst hs
          rw [e, loop_run]
          conv in (codeF _ _ r244L0 _) => unfold r244L0
          simp only [run0, run1, run2, run3, run4, noSlot, ownS, ownK, memN, RO.dst, lk, drop, forget, number, Nat.reduceBEq, cut?, splice?, builds, List.length_cons, List.length_nil, List.drop_succ_cons, List.drop_zero, List.take_succ_cons, List.take_zero, List.cons_append, List.nil_append, List.append_nil, List.drop_nil, List.take_nil, Nat.reduceAdd, Nat.reduceLeDiff, Nat.zero_add, Nat.add_zero, ↓reduceIte, Bool.not_true, Bool.not_false, decide_true, decide_false, eq_self, bne_self_eq_false, List.getElem?_cons_zero, List.getElem?_cons_succ, decide_eq_true_eq, Bool.false_eq_true, Bool.true_eq_false, reduceCtorEq, Nat.le_refl, n2]
          have ha : (List.range s.finished.length).all s.finAt = true := List.all_eq_true.2 fun j hj => hall j (by simpa using hj)
          exact ⟨_, by rw [a1, ha]; rfl, og⟩
        · rw [e]
          simp only [run0, run1, run2, run3, run4, noSlot, ownS, ownK, memN, RO.dst, lk, drop, forget, number, Nat.reduceBEq, cut?, splice?, builds, List.length_cons, List.length_nil, List.drop_succ_cons, List.drop_zero, List.take_succ_cons, List.take_zero, List.cons_append, List.nil_append, List.append_nil, List.drop_nil, List.take_nil, Nat.reduceAdd, Nat.reduceLeDiff, Nat.zero_add, Nat.add_zero, ↓reduceIte, Bool.not_true, Bool.not_false, decide_true, decide_false, eq_self, bne_self_eq_false, List.getElem?_cons_zero, List.getElem?_cons_succ, decide_eq_true_eq, Bool.false_eq_true, Bool.true_eq_false, reduceCtorEq, Nat.le_refl, b1]
          have ha : (List.range s.finished.length).all s.finAt = false := by
            rw [List.all_eq_false]
            exact ⟨j, by simpa using hj, by simp [b3]⟩
          exact ⟨_, by rw [a1, ha]; rfl, b2⟩
      · rw [a2]
        simp only [run0, run1, run2, run3, run4, noSlot, ownS, ownK, memN, RO.dst, lk, drop, forget, number, Nat.reduceBEq, cut?, splice?, builds, List.length_cons, List.length_nil, List.drop_succ_cons, List.drop_zero, List.take_succ_cons, List.take_zero, List.cons_append, List.nil_append, List.append_nil, List.drop_nil, List.take_nil, Nat.reduceAdd, Nat.reduceLeDiff, Nat.zero_add, Nat.add_zero, ↓reduceIte, Bool.not_true, Bool.not_false, decide_true, decide_false, eq_self, bne_self_eq_false, List.getElem?_cons_zero, List.getElem?_cons_succ, decide_eq_true_eq, Bool.false_eq_true, Bool.true_eq_false, reduceCtorEq, Nat.le_refl, a3, a4]
        exact ⟨_, by rw [a1]; rfl, On.refl h⟩
end
end Go.Proofs.Ytlfepembgjjejaa.A
/- The reference's small functions of fins. -/
namespace Go.Proofs.Ytlfepembgjjejaa.A
open Go
set_option linter.unusedSimpArgs false
set_option linter.unusedVariables false
theorem cmpFin_lt (f g : Fin) : decide (cmpFin f g < 0) = (decide (f.tx < g.tx) || (f.tx == g.tx && decide (f.id < g.id))) := by
  unfold cmpFin orI
  by_cases h1 : f.tx < g.tx
  · have e : cmpI f.tx g.tx = -1 := by simp [cmpI, h1]
    rw [if_neg (by rw [e]; decide), e]
    simp [h1]
  · by_cases h2 : g.tx < f.tx
    · have e : cmpI f.tx g.tx = 1 := by simp [cmpI, h1, h2]
      rw [if_neg (by rw [e]; decide), e]
      have : (f.tx == g.tx) = false := by simp; omega
      simp [h1, this]
    · have e : cmpI f.tx g.tx = 0 := by simp [cmpI, h1, h2]
      rw [if_pos e]
      have ht : (f.tx == g.tx) = true := by simp; omega
      by_cases h3 : f.id < g.id
      · have e3 : cmpI f.id g.id = -1 := by simp [cmpI, h3]
        rw [e3]; simp [h1, ht, h3]
      · have e3 : ¬ cmpI f.id g.id < 0 := by
          unfold cmpI
          rw [if_neg h3]
          split <;> omega
        simp [e3, h1, h3]
section
variable {F : Nat → Option RF} {Z : CallF} {h : Heap} {x : Cell} {xs : List Fin} {fp : List Nat}
theorem l13Before_run (hS13 : Has F tS13) (f g : Fin) (h : Heap) : call F Z 242 [.agg f.enc, .agg g.enc] h = some (.c (.bool (decide (cmpFin f g < 0))), h) := by
  rw [cmpFin_lt]
  obtain ⟨t, d⟩ := f
  obtain ⟨t', d'⟩ := g
  rw [call_run F Z (hS13.lk (g := 242) rfl) _ _ rfl]
  simp only [Fin.enc, run0, run1, run2, run3, run4, noSlot, ownS, ownK, memN, RO.dst, lk, drop, forget, number, Nat.reduceBEq, cut?, splice?, builds, List.length_cons, List.length_nil, List.drop_succ_cons, List.drop_zero, List.take_succ_cons, List.take_zero, List.cons_append, List.nil_append, List.append_nil, List.drop_nil, List.take_nil, Nat.reduceAdd, Nat.reduceLeDiff, Nat.zero_add, Nat.add_zero, ↓reduceIte, Bool.not_true, Bool.not_false, decide_true, decide_false, eq_self, bne_self_eq_false, List.getElem?_cons_zero, List.getElem?_cons_succ, decide_eq_true_eq, Bool.false_eq_true, Bool.true_eq_false, reduceCtorEq, Nat.le_refl]
  (repeat' ((first | (rw [gF_if]; split) | (rw [condC_if]; split) | (rw [pickR_if]; split)) <;> (rename_i hh; (try simp only [Bool.not_eq_true, decide_eq_true_eq] at hh); simp only [hh, run0, run1, run2, run3, run4, noSlot, ownS, ownK, memN, RO.dst, lk, drop, forget, number, Nat.reduceBEq, cut?, splice?, builds, List.length_cons, List.length_nil, List.drop_succ_cons, List.drop_zero, List.take_succ_cons, List.take_zero, List.cons_append, List.nil_append, List.append_nil, List.drop_nil, List.take_nil, Nat.reduceAdd, Nat.reduceLeDiff, Nat.zero_add, Nat.add_zero, ↓reduceIte, Bool.not_true, Bool.not_false, decide_true, decide_false, eq_self, bne_self_eq_false, List.getElem?_cons_zero, List.getElem?_cons_succ, decide_eq_true_eq, Bool.false_eq_true, Bool.true_eq_false, reduceCtorEq, Nat.le_refl]))) <;> refine fin_bool ?_ <;> simp_all <;> omega
theorem l13Has_run (hS13 : Has F tS13) (w : SlR 9 (Fl Fin.enc) h x xs fp) (f : Fin) : call F Z 243 [.c x, .agg f.enc] h = some (.c (.bool (decide (f ∈ xs))), h) := by
  have hle := w.le2
  have hwl := w.len
  rw [call_run F Z (hS13.lk (g := 243) rfl) _ _ rfl]
  simp only [run0, run1, run2, run3, run4, noSlot, ownS, ownK, memN, RO.dst, lk, drop, forget, number, Nat.reduceBEq, cut?, splice?, builds, List.length_cons, List.length_nil, List.drop_succ_cons, List.drop_zero, List.take_succ_cons, List.take_zero, List.cons_append, List.nil_append, List.append_nil, List.drop_nil, List.take_nil, Nat.reduceAdd, Nat.reduceLeDiff, Nat.zero_add, Nat.add_zero, ↓reduceIte, Bool.not_true, Bool.not_false, decide_true, decide_false, eq_self, bne_self_eq_false, List.getElem?_cons_zero, List.getElem?_cons_succ, decide_eq_true_eq, Bool.false_eq_true, Bool.true_eq_false, reduceCtorEq, Nat.le_refl]
  have key := loop_find (F := F) (Z := Z) (live := [0, 3, 5]) (b := r243L0) xs (fun a => decide (a = f)) (fun i => ⟨[(0, .c x), (5, .c (.int .i64 (i : Nat)))], [(3, 3, 0)], [(3, f.enc)], h⟩) (fun i s => lk s.env 4 = some (.c (.bool true)) ∧ s.hp = h) fun i hi => by
    have hlt : (i : Int) < xs.length := by omega
    have hws := wrapS i (by omega)
    have hxi := w.idx hi
    have hld := w.load hi
    generalize xs[i] = a at *
    obtain ⟨t, d⟩ := a
    obtain ⟨t', d'⟩ := f
    rw [loop_run]
    conv in (codeF _ _ r243L0 _) => unfold r243L0
    have fe := fin_eqs t d t' d'
    simp only [run0, run1, run2, run3, run4, noSlot, ownS, ownK, memN, RO.dst, lk, drop, forget, number, Nat.reduceBEq, cut?, splice?, builds, List.length_cons, List.length_nil, List.drop_succ_cons, List.drop_zero, List.take_succ_cons, List.take_zero, List.cons_append, List.nil_append, List.append_nil, List.drop_nil, List.take_nil, Nat.reduceAdd, Nat.reduceLeDiff, Nat.zero_add, Nat.add_zero, ↓reduceIte, Bool.not_true, Bool.not_false, decide_true, decide_false, eq_self, bne_self_eq_false, List.getElem?_cons_zero, List.getElem?_cons_succ, decide_eq_true_eq, Bool.false_eq_true, Bool.true_eq_false, reduceCtorEq, Nat.le_refl, hwl, hlt, hxi, hld, Fin.enc, fe]
    clear hxi hld fe w
    (repeat' ((first | (rw [gF_if]; split) | (rw [condC_if]; split) | (rw [pickR_if]; split)) <;> (rename_i hh; (try simp only [Bool.not_eq_true, decide_eq_true_eq] at hh); simp only [hh, run0, run1, run2, run3, run4, noSlot, ownS, ownK, memN, RO.dst, lk, drop, forget, number, Nat.reduceBEq, cut?, splice?, builds, List.length_cons, List.length_nil, List.drop_succ_cons, List.drop_zero, List.take_succ_cons, List.take_zero, List.cons_append, List.nil_append, List.append_nil, List.drop_nil, List.take_nil, Nat.reduceAdd, Nat.reduceLeDiff, Nat.zero_add, Nat.add_zero, ↓reduceIte, Bool.not_true, Bool.not_false, decide_true, decide_false, eq_self, bne_self_eq_false, List.getElem?_cons_zero, List.getElem?_cons_succ, decide_eq_true_eq, Bool.false_eq_true, Bool.true_eq_false, reduceCtorEq, Nat.le_refl, hws]))) <;> first
      | exact .inl ⟨by simp_all, rfl⟩
      | exact .inr ⟨by simp_all, _, rfl, rfl, rfl⟩
  have hlt : ¬ (xs.length : Int) < xs.length := by omega
  simp only [show ((0 : Nat) : Int) = 0 from rfl] at key
  rcases key with ⟨k1, k2⟩ | ⟨i, k1, hi, s, k2, k3, k4⟩
  · rw [k2, loop_run]
    conv in (codeF _ _ r243L0 _) => unfold r243L0
    rw [List.findIdx?_eq_none_iff] at k1
    have : ¬ f ∈ xs := fun hm => by simpa using k1 f hm
    simp only [run0, run1, run2, run3, run4, noSlot, ownS, ownK, memN, RO.dst, lk, drop, forget, number, Nat.reduceBEq, cut?, splice?, builds, List.length_cons, List.length_nil, List.drop_succ_cons, List.drop_zero, List.take_succ_cons, List.take_zero, List.cons_append, List.nil_append, List.append_nil, List.drop_nil, List.take_nil, Nat.reduceAdd, Nat.reduceLeDiff, Nat.zero_add, Nat.add_zero, ↓reduceIte, Bool.not_true, Bool.not_false, decide_true, decide_false, eq_self, bne_self_eq_false, List.getElem?_cons_zero, List.getElem?_cons_succ, decide_eq_true_eq, Bool.false_eq_true, Bool.true_eq_false, reduceCtorEq, Nat.le_refl, hwl, hlt, this]
  · rw [k2]
    rw [List.findIdx?_eq_some_iff_getElem] at k1
    obtain ⟨hi, h2, _⟩ := k1
    have : f ∈ xs := by
      have : xs[i] = f := by simpa using h2
      rw [← this]; exact List.getElem_mem hi
    simp only [run0, run1, run2, run3, run4, noSlot, ownS, ownK, memN, RO.dst, lk, drop, forget, number, Nat.reduceBEq, cut?, splice?, builds, List.length_cons, List.length_nil, List.drop_succ_cons, List.drop_zero, List.take_succ_cons, List.take_zero, List.cons_append, List.nil_append, List.append_nil, List.drop_nil, List.take_nil, Nat.reduceAdd, Nat.reduceLeDiff, Nat.zero_add, Nat.add_zero, ↓reduceIte, Bool.not_true, Bool.not_false, decide_true, decide_false, eq_self, bne_self_eq_false, List.getElem?_cons_zero, List.getElem?_cons_succ, decide_eq_true_eq, Bool.false_eq_true, Bool.true_eq_false, reduceCtorEq, Nat.le_refl, k3, k4, this]
end
end Go.Proofs.Ytlfepembgjjejaa.A
/- Is a shard right, by the reference? -/
namespace Go.Proofs.Ytlfepembgjjejaa.A
open Go
set_option linter.unusedSimpArgs false
set_option linter.unusedVariables false
section
variable {F : Nat → Option RF} {Z : CallF} {h : Heap} {cs : List Cell} {s : Shard} {fp fq : List Nat} {x y : Cell}
set_option maxHeartbeats 2000000 in
theorem l13Shard_accs (hS13 : Has F tS13) (w : SlR 11 (Fl Account.enc) h x s.book.list fp) (v : SlR 9 (Fl Fin.enc) h y s.finished fq) :
    Turn (loop F Z [1, 5] r204L0 ⟨[(5, .c (.int .i64 (0 : Nat)))], [(1, 1, 0)], [(1, [.int .u64 s.lo, .int .u64 s.hi, .int .i64 s.state, .int .i64 s.epoch, x, y])], h⟩)
      (loop F Z [1, 5] r204L0 ⟨[(5, .c (.int .i64 (s.book.list.length : Nat)))], [(1, 1, 0)], [(1, [.int .u64 s.lo, .int .u64 s.hi, .int .i64 s.state, .int .i64 s.epoch, x, y])], h⟩) (s.book.list.all s.acc) (fun s => lk s.env 2 = some (.c (.bool false)) ∧ s.hp = h) := by
  have hle := w.le2
  refine loop_all (F := F) (Z := Z) (live := [1, 5]) (b := r204L0) s.book.list (fun i => ⟨[(5, .c (.int .i64 (i : Nat)))], [(1, 1, 0)], [(1, [.int .u64 s.lo, .int .u64 s.hi, .int .i64 s.state, .int .i64 s.epoch, x, y])], h⟩) s.acc _ fun i hi => ?_
  have hlt : (i : Int) < s.book.list.length := by omega
  have hws := wrapS i (by omega)
  have hwl := w.len
  have hxi := w.idx hi
  have hld := w.load hi
  have hc : ∀ t d, call F Z 243 [.c y, .agg [.int .i64 t, .int .u64 d]] h = some (.c (.bool (decide ((⟨t, d⟩ : Fin) ∈ s.finished))), h) := fun t d => l13Has_run hS13 v ⟨t, d⟩
  rw [loop_run]
  conv in (codeF _ _ r204L0 _) => unfold r204L0
  simp only [run0, run1, run2, run3, run4, noSlot, ownS, ownK, memN, RO.dst, lk, drop, forget, number, Nat.reduceBEq, cut?, splice?, builds, List.length_cons, List.length_nil, List.drop_succ_cons, List.drop_zero, List.take_succ_cons, List.take_zero, List.cons_append, List.nil_append, List.append_nil, List.drop_nil, List.take_nil, Nat.reduceAdd, Nat.reduceLeDiff, Nat.zero_add, Nat.add_zero, ↓reduceIte, Bool.not_true, Bool.not_false, decide_true, decide_false, eq_self, bne_self_eq_false, List.getElem?_cons_zero, List.getElem?_cons_succ, decide_eq_true_eq, Bool.false_eq_true, Bool.true_eq_false, reduceCtorEq, Nat.le_refl, hwl, hlt, hxi, hld, Account.enc, hc]
  generalize s.book.list[i] = a
  clear hxi hld w v
  (repeat' ((first | (rw [gF_if]; split) | (rw [condC_if]; split) | (rw [pickR_if]; split)) <;> (rename_i hh; (try simp only [Bool.not_eq_true, decide_eq_true_eq] at hh); simp only [hh, run0, run1, run2, run3, run4, noSlot, ownS, ownK, memN, RO.dst, lk, drop, forget, number, Nat.reduceBEq, cut?, splice?, builds, List.length_cons, List.length_nil, List.drop_succ_cons, List.drop_zero, List.take_succ_cons, List.take_zero, List.cons_append, List.nil_append, List.append_nil, List.drop_nil, List.take_nil, Nat.reduceAdd, Nat.reduceLeDiff, Nat.zero_add, Nat.add_zero, ↓reduceIte, Bool.not_true, Bool.not_false, decide_true, decide_false, eq_self, bne_self_eq_false, List.getElem?_cons_zero, List.getElem?_cons_succ, decide_eq_true_eq, Bool.false_eq_true, Bool.true_eq_false, reduceCtorEq, Nat.le_refl, hws, hc]))) <;> clear hc <;> first
    | exact .inl ⟨by simp_all [Shard.acc] <;> omega, rfl⟩
    | exact .inr ⟨by simp_all [Shard.acc] <;> omega, _, rfl, rfl, rfl⟩
set_option maxHeartbeats 4000000 in
theorem l13Shard_fins (hS13 : Has F tS13) (v : SlR 9 (Fl Fin.enc) h y s.finished fq) :
    Turn (loop F Z [1, 3] r204L1 ⟨[(3, .c (.int .i64 (0 : Nat)))], [(1, 1, 0)], [(1, [.int .u64 s.lo, .int .u64 s.hi, .int .i64 s.state, .int .i64 s.epoch, x, y])], h⟩)
      (loop F Z [1, 3] r204L1 ⟨[(3, .c (.int .i64 (s.finished.length : Nat)))], [(1, 1, 0)], [(1, [.int .u64 s.lo, .int .u64 s.hi, .int .i64 s.state, .int .i64 s.epoch, x, y])], h⟩) ((List.range s.finished.length).all s.finAt) (fun s => lk s.env 2 = some (.c (.bool false)) ∧ s.hp = h) := by
  have hle := v.le2
  refine loop_allN (F := F) (Z := Z) (live := [1, 3]) (b := r204L1) s.finished.length (fun i => ⟨[(3, .c (.int .i64 (i : Nat)))], [(1, 1, 0)], [(1, [.int .u64 s.lo, .int .u64 s.hi, .int .i64 s.state, .int .i64 s.epoch, x, y])], h⟩) s.finAt _ fun i hi => ?_
  have hlt : (i : Int) < s.finished.length := by omega
  have hws := wrapS i (by omega)
  have hwl := v.len
  have hxi := v.idx hi
  have hld : ∀ j n, loadP h y.sid i j n = cut? (Fin.at_ s.finished i).enc j n := v.loadD Fin.none_ hi
  have hfin : s.finAt i = (decide (1 ≤ (Fin.at_ s.finished i).tx) && (decide (s.lo ≤ (Fin.at_ s.finished i).id) && (decide ((Fin.at_ s.finished i).id ≤ s.hi) && (i == 0 || decide (cmpFin (Fin.at_ s.finished (i - 1)) (Fin.at_ s.finished i) < 0))))) := rfl
  have hpre : 0 < i → IntKind.i64.wrap ((i : Int) - 1) = ((i - 1 : Nat) : Int) := fun hp => by rw [wrapI _ (by omega) (by omega)]; omega
  have hpi : 0 < i → idxR 9 (some y) (some ((i - 1 : Nat) : Int)) = some (.ptr y.sid (i - 1) 0) := fun hp => v.idx (by omega)
  have hpl : 0 < i → ∀ j n, loadP h y.sid (i - 1) j n = cut? (Fin.at_ s.finished (i - 1)).enc j n := fun hp => v.loadD Fin.none_ (by omega)
  clear v
  generalize s.finAt i = fa at *
  generalize Fin.at_ s.finished (i - 1) = pf at *
  generalize Fin.at_ s.finished i = f at *
  have cf := fun g => l13Before_run (Z := Z) hS13 pf f g
  obtain ⟨t, d⟩ := f
  obtain ⟨t', d'⟩ := pf
  simp only [Fin.enc] at cf hld hpl
  rw [loop_run]
  conv in (codeF _ _ r204L1 _) => unfold r204L1
  simp only [run0, run1, run2, run3, run4, noSlot, ownS, ownK, memN, RO.dst, lk, drop, forget, number, Nat.reduceBEq, cut?, splice?, builds, List.length_cons, List.length_nil, List.drop_succ_cons, List.drop_zero, List.take_succ_cons, List.take_zero, List.cons_append, List.nil_append, List.append_nil, List.drop_nil, List.take_nil, Nat.reduceAdd, Nat.reduceLeDiff, Nat.zero_add, Nat.add_zero, ↓reduceIte, Bool.not_true, Bool.not_false, decide_true, decide_false, eq_self, bne_self_eq_false, List.getElem?_cons_zero, List.getElem?_cons_succ, decide_eq_true_eq, Bool.false_eq_true, Bool.true_eq_false, reduceCtorEq, Nat.le_refl, hwl, hlt, hxi, hld]
  by_cases hp : 0 < i
  · have g1 : (i : Int) > 0 := by omega
    have hi0 : (i == 0) = false := by simp; omega
    have q1 := hpre hp
    have q2 := hpi hp
    have q3 := hpl hp
    clear hxi hpre hpi hpl
    (repeat' ((first | (rw [gF_if]; split) | (rw [condC_if]; split) | (rw [pickR_if]; split)) <;> (rename_i hh; (try simp only [Bool.not_eq_true, decide_eq_true_eq] at hh); simp only [hh, run0, run1, run2, run3, run4, noSlot, ownS, ownK, memN, RO.dst, lk, drop, forget, number, Nat.reduceBEq, cut?, splice?, builds, List.length_cons, List.length_nil, List.drop_succ_cons, List.drop_zero, List.take_succ_cons, List.take_zero, List.cons_append, List.nil_append, List.append_nil, List.drop_nil, List.take_nil, Nat.reduceAdd, Nat.reduceLeDiff, Nat.zero_add, Nat.add_zero, ↓reduceIte, Bool.not_true, Bool.not_false, decide_true, decide_false, eq_self, bne_self_eq_false, List.getElem?_cons_zero, List.getElem?_cons_succ, decide_eq_true_eq, Bool.false_eq_true, Bool.true_eq_false, reduceCtorEq, Nat.le_refl, hws, g1, q1, q2, q3, cf, hld])))
    all_goals clear q2 q3 cf hld
    all_goals first
      | (exfalso; omega)
      | exact .inl ⟨by simp_all <;> omega, rfl⟩
      | exact .inr ⟨by simp_all <;> omega, _, rfl, rfl, rfl⟩
  · have g1 : ¬ (i : Int) > 0 := by omega
    have hi0 : (i == 0) = true := by simp; omega
    clear hxi hpre hpi hpl cf
    (repeat' ((first | (rw [gF_if]; split) | (rw [condC_if]; split) | (rw [pickR_if]; split)) <;> (rename_i hh; (try simp only [Bool.not_eq_true, decide_eq_true_eq] at hh); simp only [hh, run0, run1, run2, run3, run4, noSlot, ownS, ownK, memN, RO.dst, lk, drop, forget, number, Nat.reduceBEq, cut?, splice?, builds, List.length_cons, List.length_nil, List.drop_succ_cons, List.drop_zero, List.take_succ_cons, List.take_zero, List.cons_append, List.nil_append, List.append_nil, List.drop_nil, List.take_nil, Nat.reduceAdd, Nat.reduceLeDiff, Nat.zero_add, Nat.add_zero, ↓reduceIte, Bool.not_true, Bool.not_false, decide_true, decide_false, eq_self, bne_self_eq_false, List.getElem?_cons_zero, List.getElem?_cons_succ, decide_eq_true_eq, Bool.false_eq_true, Bool.true_eq_false, reduceCtorEq, Nat.le_refl, hws, g1, hld])))
    all_goals clear hld
    all_goals first
      | (exfalso; omega)
      | exact .inl ⟨by simp_all <;> omega, rfl⟩
      | exact .inr ⟨by simp_all <;> omega, _, rfl, rfl, rfl⟩
set_option maxHeartbeats 4000000 in
theorem l13Shard_run (hS : Has F tS01d) (hS10 : Has F tS10) (hS13 : Has F tS13) (v : Shard.RI h cs s fp) (ok : s.Ok) : call F Z 204 [.agg cs] h = some (.c (.bool s.good), h) := by
  obtain ⟨x, p, y, q, rfl, rfl, w, u⟩ := v
  have hB := sBookOk_run (Z := Z) hS10 w ok.book.list
  have ka := l13Shard_accs (Z := Z) (s := s) hS13 w u
  have kf := l13Shard_fins (Z := Z) (s := s) (x := x) hS13 u
  have l1 := w.len
  have l2 := u.len
  have n1 : ¬ (s.book.list.length : Int) < s.book.list.length := by omega
  have n2 : ¬ (s.finished.length : Int) < s.finished.length := by omega
  clear w u
  rw [call_run F Z (hS13.lk (g := 204) rfl) _ _ rfl]
  simp only [show ((0 : Nat) : Int) = 0 from rfl] at ka kf
  cases hd : s.head with
  | false =>
    have hg : s.good = false := by simp [Shard.good, hd]
    rw [hg]
    simp only [run0, run1, run2, run3, run4, noSlot, ownS, ownK, memN, RO.dst, lk, drop, forget, number, Nat.reduceBEq, cut?, splice?, builds, List.length_cons, List.length_nil, List.drop_succ_cons, List.drop_zero, List.take_succ_cons, List.take_zero, List.cons_append, List.nil_append, List.append_nil, List.drop_nil, List.take_nil, Nat.reduceAdd, Nat.reduceLeDiff, Nat.zero_add, Nat.add_zero, ↓reduceIte, Bool.not_true, Bool.not_false, decide_true, decide_false, eq_self, bne_self_eq_false, List.getElem?_cons_zero, List.getElem?_cons_succ, decide_eq_true_eq, Bool.false_eq_true, Bool.true_eq_false, reduceCtorEq, Nat.le_refl, hB, l2, l01In_run hS]
    clear ka kf
    (repeat' ((first | (rw [gF_if]; split) | (rw [condC_if]; split) | (rw [pickR_if]; split)) <;> (rename_i hh; (try simp only [Bool.not_eq_true, decide_eq_true_eq] at hh); simp only [hh, run0, run1, run2, run3, run4, noSlot, ownS, ownK, memN, RO.dst, lk, drop, forget, number, Nat.reduceBEq, cut?, splice?, builds, List.length_cons, List.length_nil, List.drop_succ_cons, List.drop_zero, List.take_succ_cons, List.take_zero, List.cons_append, List.nil_append, List.append_nil, List.drop_nil, List.take_nil, Nat.reduceAdd, Nat.reduceLeDiff, Nat.zero_add, Nat.add_zero, ↓reduceIte, Bool.not_true, Bool.not_false, decide_true, decide_false, eq_self, bne_self_eq_false, List.getElem?_cons_zero, List.getElem?_cons_succ, decide_eq_true_eq, Bool.false_eq_true, Bool.true_eq_false, reduceCtorEq, Nat.le_refl, hB, l2, l1, l01In_run hS])))
    all_goals clear hB l1 l2
    all_goals first
      | rfl
      | (exfalso; simp_all [Shard.head, inR]; done)
      | (exfalso; simp_all [Shard.head, inR]; omega)
  | true =>
    have hg : s.good = (s.book.list.all s.acc && (List.range s.finished.length).all s.finAt) := by simp [Shard.good, hd]
    rw [hg]
    simp only [Shard.head, Bool.and_eq_true, decide_eq_true_eq, Bool.or_eq_true, beq_iff_eq] at hd
    obtain ⟨d1, d2, d3, d5, d6⟩ := hd
    rw [d5] at hB
    have c1 : ¬ s.lo > s.hi := by omega
    have c2 : inR s.state 0 1 = true := by rcases d2 with d2 | d2 <;> simp [inR, d2]
    have c6 : ¬ (s.finished.length : Int) > 60 := by omega
    · simp only [run0, run1, run2, run3, run4, noSlot, ownS, ownK, memN, RO.dst, lk, drop, forget, number, Nat.reduceBEq, cut?, splice?, builds, List.length_cons, List.length_nil, List.drop_succ_cons, List.drop_zero, List.take_succ_cons, List.take_zero, List.cons_append, List.nil_append, List.append_nil, List.drop_nil, List.take_nil, Nat.reduceAdd, Nat.reduceLeDiff, Nat.zero_add, Nat.add_zero, ↓reduceIte, Bool.not_true, Bool.not_false, decide_true, decide_false, eq_self, bne_self_eq_false, List.getElem?_cons_zero, List.getElem?_cons_succ, decide_eq_true_eq, Bool.false_eq_true, Bool.true_eq_false, reduceCtorEq, Nat.le_refl, hB, l1, l2, c1, c2, d3, c6, l01In_run hS]
      rcases kf with ⟨a1, a2⟩ | ⟨a1, s', a2, a3, a4⟩
      · rw [a2, loop_run]
        conv in (codeF _ _ r204L1 _) => unfold r204L1
        simp only [run0, run1, run2, run3, run4, noSlot, ownS, ownK, memN, RO.dst, lk, drop, forget, number, Nat.reduceBEq, cut?, splice?, builds, List.length_cons, List.length_nil, List.drop_succ_cons, List.drop_zero, List.take_succ_cons, List.take_zero, List.cons_append, List.nil_append, List.append_nil, List.drop_nil, List.take_nil, Nat.reduceAdd, Nat.reduceLeDiff, Nat.zero_add, Nat.add_zero, ↓reduceIte, Bool.not_true, Bool.not_false, decide_true, decide_false, eq_self, bne_self_eq_false, List.getElem?_cons_zero, List.getElem?_cons_succ, decide_eq_true_eq, Bool.false_eq_true, Bool.true_eq_false, reduceCtorEq, Nat.le_refl, l2, n2]
        rcases ka with ⟨b1, b2⟩ | ⟨b1, s', b2, b3, b4⟩
        · rw [b2, loop_run]
          conv in (codeF _ _ r204L0 _) => unfold r204L0
          simp only [run0, run1, run2, run3, run4, noSlot, ownS, ownK, memN, RO.dst, lk, drop, forget, number, Nat.reduceBEq, cut?, splice?, builds, List.length_cons, List.length_nil, List.drop_succ_cons, List.drop_zero, List.take_succ_cons, List.take_zero, List.cons_append, List.nil_append, List.append_nil, List.drop_nil, List.take_nil, Nat.reduceAdd, Nat.reduceLeDiff, Nat.zero_add, Nat.add_zero, ↓reduceIte, Bool.not_true, Bool.not_false, decide_true, decide_false, eq_self, bne_self_eq_false, List.getElem?_cons_zero, List.getElem?_cons_succ, decide_eq_true_eq, Bool.false_eq_true, Bool.true_eq_false, reduceCtorEq, Nat.le_refl, l1, n1, a1, b1, Bool.and_self]
        · rw [b2]
          simp only [run0, run1, run2, run3, run4, noSlot, ownS, ownK, memN, RO.dst, lk, drop, forget, number, Nat.reduceBEq, cut?, splice?, builds, List.length_cons, List.length_nil, List.drop_succ_cons, List.drop_zero, List.take_succ_cons, List.take_zero, List.cons_append, List.nil_append, List.append_nil, List.drop_nil, List.take_nil, Nat.reduceAdd, Nat.reduceLeDiff, Nat.zero_add, Nat.add_zero, ↓reduceIte, Bool.not_true, Bool.not_false, decide_true, decide_false, eq_self, bne_self_eq_false, List.getElem?_cons_zero, List.getElem?_cons_succ, decide_eq_true_eq, Bool.false_eq_true, Bool.true_eq_false, reduceCtorEq, Nat.le_refl, b3, b4, b1, Bool.false_and]
      · rw [a2]
        simp only [run0, run1, run2, run3, run4, noSlot, ownS, ownK, memN, RO.dst, lk, drop, forget, number, Nat.reduceBEq, cut?, splice?, builds, List.length_cons, List.length_nil, List.drop_succ_cons, List.drop_zero, List.take_succ_cons, List.take_zero, List.cons_append, List.nil_append, List.append_nil, List.drop_nil, List.take_nil, Nat.reduceAdd, Nat.reduceLeDiff, Nat.zero_add, Nat.add_zero, ↓reduceIte, Bool.not_true, Bool.not_false, decide_true, decide_false, eq_self, bne_self_eq_false, List.getElem?_cons_zero, List.getElem?_cons_succ, decide_eq_true_eq, Bool.false_eq_true, Bool.true_eq_false, reduceCtorEq, Nat.le_refl, a3, a4, a1, Bool.and_false]
end
end Go.Proofs.Ytlfepembgjjejaa.A
/- Rows of data with memory of their own: read, and filled one by one. -/
namespace Go.Proofs.Ytlfepembgjjejaa.A
open Go
set_option linter.unusedSimpArgs false
set_option linter.unusedVariables false
section
variable {α : Type} {R : Rel α} {tag : Nat} {h : Heap} {x : Cell} {xs : List α} {fp : List Nat}
/-- One row of a slice. -/
theorem SlR.one (w : SlR tag R h x xs fp) {i : Nat} (hi : i < xs.length) : ∃ r f, (∀ j n, loadP h x.sid i j n = cut? r j n) ∧ R h r xs[i] f ∧ ∀ id, id ∈ f → id ∈ fp := by
  obtain ⟨r, f, h1, h2, h3⟩ := w.row hi
  exact ⟨r, f, fun j n => by simp [loadP, h1], h2, h3⟩
/-- Rows of which the first are filled. -/
structure Filled (R : Rel α) (h0 g : Heap) (o : Nat) (z : List Cell) (xs : List α) (i : Nat) (rows : List (List Cell)) (fps : List (List Nat)) : Prop where
  on : On h0 g
  ge : h0.next ≤ o
  lt : o < g.next
  get : g.get o = some rows
  len : rows.length = xs.length
  rel : AllR R g (rows.take i) (xs.take i) fps
  rest : ∀ j, i ≤ j → j < xs.length → rows[j]? = some z
  nd : fps.flatten.Nodup
  out : ∀ id, id ∈ fps.flatten → o < id
theorem AllR.snoc {h : Heap} : ∀ {rows : List (List Cell)} {xs : List α} {fps : List (List Nat)}, AllR R h rows xs fps → ∀ {r a f}, R h r a f → AllR R h (rows ++ [r]) (xs ++ [a]) (fps ++ [f])
  | [], [], [], _ => fun w => ⟨w, trivial⟩
  | _ :: _, _ :: _, _ :: _, ⟨w1, w⟩ => fun w2 => ⟨w1, w.snoc w2⟩
  | [], [], _ :: _, w => w.elim
  | [], _ :: _, _, w => w.elim
  | _ :: _, [], _, w => w.elim
  | _ :: _, _ :: _, [], w => w.elim
theorem Filled.start (h : Heap) (z : List Cell) (xs : List α) : Filled R h (h.push (List.replicate xs.length z)) h.next z xs 0 (List.replicate xs.length z) [] where
  on := On.push _ _
  ge := Nat.le_refl _
  lt := by rw [push_next]; omega
  get := push_get _ _
  len := by simp
  rel := trivial
  rest := fun j _ hj => by rw [List.getElem?_replicate, if_pos hj]
  nd := List.nodup_nil
  out := fun id hid => by simp at hid
/-- One more row. -/
theorem Filled.step (ok : RelOk R) {h0 g g' : Heap} {o : Nat} {z : List Cell} {i : Nat} {rows : List (List Cell)} {fps : List (List Nat)} (w : Filled R h0 g o z xs i rows fps) (hf : h0.floor ≤ h0.next) (hi : i < xs.length)
    {cs : List Cell} {fq : List Nat} (hz : cs.length = z.length) (o' : On g g') (v : R g' cs xs[i] fq) (f : Fre g fq) :
    storeP g' o i 0 cs = some (g'.put o (rows.set i cs)) ∧ Filled R h0 (g'.put o (rows.set i cs)) o z xs (i + 1) (rows.set i cs) (fps ++ [fq]) := by
  have hget : g'.get o = some rows := by rw [o'.ext.2 o w.lt]; exact w.get
  have hri : rows[i]? = some z := w.rest i (Nat.le_refl _) hi
  have hfl : g'.floor ≤ o := by rw [o'.fl, w.on.fl]; exact Nat.le_trans hf w.ge
  have hlen : i < rows.length := by rw [w.len]; exact hi
  have hput : ∀ id, id ≠ o → (g'.put o (rows.set i cs)).get id = g'.get id := fun id hid => by simp only [Heap.put]; rw [if_neg hid]
  have hin : ∀ id, id ∈ fps.flatten → id < g.next := by
    intro id hid
    exact w.rel.lt ok id hid
  refine ⟨?_, ?_⟩
  · refine storeP_at hfl hget hri ?_
    rw [splice?, if_pos (by omega)]
    simp [← hz]
  · refine ⟨⟨⟨Nat.le_trans w.on.ext.1 o'.ext.1, fun id hid => ?_⟩, o'.fl.trans w.on.fl⟩, w.ge, Nat.lt_of_lt_of_le w.lt o'.ext.1, by simp [Heap.put], by simp [w.len], ?_, fun j h1 h2 => ?_, ?_, fun id hid => ?_⟩
    · have := w.ge
      rw [hput id (by omega), o'.ext.2 id (Nat.lt_of_lt_of_le hid w.on.ext.1)]
      exact w.on.ext.2 id hid
    · have e1 : (rows.set i cs).take (i + 1) = rows.take i ++ [cs] := by
        rw [List.take_add_one, List.getElem?_set_self hlen]
        rw [List.take_set, List.set_eq_of_length_le (by simp; omega)]
        rfl
      have e2 : xs.take (i + 1) = xs.take i ++ [xs[i]] := by rw [List.take_add_one, List.getElem?_eq_getElem hi]; rfl
      rw [e1, e2]
      have v' : R (g'.put o (rows.set i cs)) cs xs[i] fq := ok.mv v (Nat.le_refl _) fun id hid => hput id (by have := f.lo id hid; have := w.lt; omega)
      refine AllR.snoc (w.rel.mv (h' := g'.put o (rows.set i cs)) ok o'.ext.1 fun id hid => ?_) v'
      rw [hput id (by have := w.out id hid; omega)]
      exact o'.ext.2 id (hin id hid)
    · rw [List.getElem?_set_ne (by omega)]
      exact w.rest j (by omega) h2
    · rw [List.flatten_append]
      simp only [List.flatten_cons, List.flatten_nil, List.append_nil]
      exact List.nodup_append.2 ⟨w.nd, f.nd, fun a ha b hb => by have := hin a ha; have := f.lo b hb; omega⟩
    · rw [List.flatten_append] at hid
      simp only [List.flatten_cons, List.flatten_nil, List.append_nil] at hid
      rcases List.mem_append.1 hid with hid | hid
      · exact w.out id hid
      · have := f.lo id hid
        have := w.lt
        omega
theorem Filled.all {h0 g : Heap} {o : Nat} {z : List Cell} {rows : List (List Cell)} {fps : List (List Nat)} (w : Filled R h0 g o z xs xs.length rows fps) (hl : xs.length ≤ 1048576) (tag : Nat) :
    On h0 g ∧ SlR tag R g (.sl tag o 0 xs.length) xs (o :: fps.flatten) ∧ Fre h0 (o :: fps.flatten) := by
  have hr := w.rel
  rw [List.take_length, ← w.len, List.take_length] at hr
  refine ⟨w.on, ⟨by unfold maxLen; omega, .inr ⟨o, rows, fps, rfl, w.get, w.lt, rfl, hr⟩⟩, ⟨fun id hid => ?_, ?_⟩⟩
  · have := w.ge
    rcases List.mem_cons.1 hid with rfl | hid
    · omega
    · have := w.out id hid; omega
  · exact List.nodup_cons.2 ⟨fun hc => by have := w.out o hc; omega, w.nd⟩
end
end Go.Proofs.Ytlfepembgjjejaa.A
/- What the converters of slices of Shard compute. -/
namespace Go.Proofs.Ytlfepembgjjejaa.A
open Go
set_option linter.unusedSimpArgs false
set_option linter.unusedVariables false
def Shard.zeroC : List Cell := [.int .u64 0, .int .u64 0, .int .i64 0, .int .i64 0, .nil, .nil]
theorem Wf.isShardS' {h : Heap} {n : Nat} {a : List Cell} (w : Wf h (n + 6) shShardS a) : ∃ x xs fp, a = [x] ∧ SlR 20 Shard.RL h x xs fp ∧ ∀ t, t ∈ xs → t.Ok := by
  have hx : ∃ x, a = [x] := by rcases w with w | ⟨_, _, w, _⟩ <;> exact ⟨_, w⟩
  obtain ⟨x, rfl⟩ := hx
  obtain ⟨xs, fp, v, ok⟩ := SlR.ofWf (R := Shard.RL) (A := fun t => t.Ok) (fun r hr => by obtain ⟨t, fp, v, ok⟩ := Wf.isShard hr.2; exact ⟨t, fp, v, ok⟩) w
  exact ⟨x, xs, fp, rfl, v, ok⟩
section
variable {F : Nat → Option RF} {Z : CallF} {h : Heap} {x y : Cell} {xs ys : List Shard} {fp fq : List Nat}
theorem szShardS_c (hLShard : Has F tLShard) (hLBook : Has F tLBook) (hLAccount : Has F tLAccount) (hLFin : Has F tLFin) (w : SlR 20 Shard.RL h x xs fp) (left : Int) (h1 : 0 ≤ left) (h2 : left ≤ 1048576) : ∃ r, call F Z 203 [.c x, .c (.int .i64 left)] h = some (.c (.int .i64 r), h) ∧ r ≤ left ∧ (0 ≤ r → xs.length ≤ 1048576 ∧ ∀ a, a ∈ xs → a.Small) := by
  have hle := w.le2
  rw [call_run F Z (hLShard.lk (g := 203) rfl) _ _ rfl]
  simp only [run0, run1, run2, run3, run4, noSlot, ownS, ownK, memN, RO.dst, lk, drop, forget, number, Nat.reduceBEq, cut?, splice?, builds, List.length_cons, List.length_nil, List.drop_succ_cons, List.drop_zero, List.take_succ_cons, List.take_zero, List.cons_append, List.nil_append, List.append_nil, List.drop_nil, List.take_nil, Nat.reduceAdd, Nat.reduceLeDiff, Nat.zero_add, Nat.add_zero, ↓reduceIte, Bool.not_true, Bool.not_false, decide_true, decide_false, eq_self, bne_self_eq_false, List.getElem?_cons_zero, List.getElem?_cons_succ, decide_eq_true_eq, Bool.false_eq_true, Bool.true_eq_false, reduceCtorEq, Nat.le_refl, w.len, wrapI (left - xs.length) (by omega) (by omega)]
  by_cases n0 : left - xs.length < 0
  · simp only [run0, run1, run2, run3, run4, noSlot, ownS, ownK, memN, RO.dst, lk, drop, forget, number, Nat.reduceBEq, cut?, splice?, builds, List.length_cons, List.length_nil, List.drop_succ_cons, List.drop_zero, List.take_succ_cons, List.take_zero, List.cons_append, List.nil_append, List.append_nil, List.drop_nil, List.take_nil, Nat.reduceAdd, Nat.reduceLeDiff, Nat.zero_add, Nat.add_zero, ↓reduceIte, Bool.not_true, Bool.not_false, decide_true, decide_false, eq_self, bne_self_eq_false, List.getElem?_cons_zero, List.getElem?_cons_succ, decide_eq_true_eq, Bool.false_eq_true, Bool.true_eq_false, reduceCtorEq, Nat.le_refl, n0]
    exact ⟨_, rfl, by omega, by omega⟩
  simp only [run0, run1, run2, run3, run4, noSlot, ownS, ownK, memN, RO.dst, lk, drop, forget, number, Nat.reduceBEq, cut?, splice?, builds, List.length_cons, List.length_nil, List.drop_succ_cons, List.drop_zero, List.take_succ_cons, List.take_zero, List.cons_append, List.nil_append, List.append_nil, List.drop_nil, List.take_nil, Nat.reduceAdd, Nat.reduceLeDiff, Nat.zero_add, Nat.add_zero, ↓reduceIte, Bool.not_true, Bool.not_false, decide_true, decide_false, eq_self, bne_self_eq_false, List.getElem?_cons_zero, List.getElem?_cons_succ, decide_eq_true_eq, Bool.false_eq_true, Bool.true_eq_false, reduceCtorEq, Nat.le_refl, n0]
  rcases loop_rel (F := F) (Z := Z) (live := [0, 1, 5]) (b := r203L0) xs.length (fun i s => ∃ l, s = ⟨[(0, .c x), (1, .c (.int .i64 l)), (5, .c (.int .i64 (i : Nat)))], [], [], h⟩ ∧ 0 ≤ l ∧ l ≤ left ∧ ∀ a, a ∈ xs.take i → a.Small) (fun s => lk s.env 4 = some (.c (.int .i64 (-1))) ∧ s.hp = h) (fun i s hi ⟨l, hs, q1, q2, q3⟩ => by
    subst hs
    obtain ⟨r, f, hld, hr, _⟩ := w.one hi
    obtain ⟨l1, l2, l3⟩ := Shard.lenL hr
    obtain ⟨l', e, k1, k2⟩ := szShard_c (Z := Z) hLShard hLBook hLAccount hLFin hr l q1 (by omega)
    have hlt : (i : Int) < xs.length := by omega
    rw [loop_run]
    conv in (codeF _ _ r203L0 _) => unfold r203L0
    simp only [run0, run1, run2, run3, run4, noSlot, ownS, ownK, memN, RO.dst, lk, drop, forget, number, Nat.reduceBEq, cut?, splice?, builds, List.length_cons, List.length_nil, List.drop_succ_cons, List.drop_zero, List.take_succ_cons, List.take_zero, List.cons_append, List.nil_append, List.append_nil, List.drop_nil, List.take_nil, Nat.reduceAdd, Nat.reduceLeDiff, Nat.zero_add, Nat.add_zero, ↓reduceIte, Bool.not_true, Bool.not_false, decide_true, decide_false, eq_self, bne_self_eq_false, List.getElem?_cons_zero, List.getElem?_cons_succ, decide_eq_true_eq, Bool.false_eq_true, Bool.true_eq_false, reduceCtorEq, Nat.le_refl, w.len, hlt, w.idx hi, hld, l1, l2, e]
    by_cases n1 : l' < 0
    · simp only [run0, run1, run2, run3, run4, noSlot, ownS, ownK, memN, RO.dst, lk, drop, forget, number, Nat.reduceBEq, cut?, splice?, builds, List.length_cons, List.length_nil, List.drop_succ_cons, List.drop_zero, List.take_succ_cons, List.take_zero, List.cons_append, List.nil_append, List.append_nil, List.drop_nil, List.take_nil, Nat.reduceAdd, Nat.reduceLeDiff, Nat.zero_add, Nat.add_zero, ↓reduceIte, Bool.not_true, Bool.not_false, decide_true, decide_false, eq_self, bne_self_eq_false, List.getElem?_cons_zero, List.getElem?_cons_succ, decide_eq_true_eq, Bool.false_eq_true, Bool.true_eq_false, reduceCtorEq, Nat.le_refl, n1]
      exact Or.inr ⟨_, rfl, rfl, rfl⟩
    · simp only [run0, run1, run2, run3, run4, noSlot, ownS, ownK, memN, RO.dst, lk, drop, forget, number, Nat.reduceBEq, cut?, splice?, builds, List.length_cons, List.length_nil, List.drop_succ_cons, List.drop_zero, List.take_succ_cons, List.take_zero, List.cons_append, List.nil_append, List.append_nil, List.drop_nil, List.take_nil, Nat.reduceAdd, Nat.reduceLeDiff, Nat.zero_add, Nat.add_zero, ↓reduceIte, Bool.not_true, Bool.not_false, decide_true, decide_false, eq_self, bne_self_eq_false, List.getElem?_cons_zero, List.getElem?_cons_succ, decide_eq_true_eq, Bool.false_eq_true, Bool.true_eq_false, reduceCtorEq, Nat.le_refl, n1, wrapS i (by omega)]
      refine Or.inl ⟨_, ⟨l', rfl, by omega, by omega, fun a ha => ?_⟩, rfl⟩
      rw [List.take_add_one, List.getElem?_eq_getElem hi] at ha
      rcases List.mem_append.1 ha with ha | ha
      · exact q3 a ha
      · simp at ha; subst ha; exact k2 (by omega)) (s := ⟨[(0, .c x), (1, .c (.int .i64 (left - xs.length))), (5, .c (.int .i64 (0 : Nat)))], [], [], h⟩) ⟨_, rfl, by omega, by omega, fun a ha => by simp at ha⟩ with ⟨s', ⟨l, hs', q1, q2, q3⟩, l1⟩ | ⟨s', l1, q1, q2⟩
  · subst hs'
    simp only [show ((0 : Nat) : Int) = 0 from rfl] at l1
    rw [l1, loop_run]
    conv in (codeF _ _ r203L0 _) => unfold r203L0
    have hlt : ¬ (xs.length : Int) < xs.length := by omega
    simp only [run0, run1, run2, run3, run4, noSlot, ownS, ownK, memN, RO.dst, lk, drop, forget, number, Nat.reduceBEq, cut?, splice?, builds, List.length_cons, List.length_nil, List.drop_succ_cons, List.drop_zero, List.take_succ_cons, List.take_zero, List.cons_append, List.nil_append, List.append_nil, List.drop_nil, List.take_nil, Nat.reduceAdd, Nat.reduceLeDiff, Nat.zero_add, Nat.add_zero, ↓reduceIte, Bool.not_true, Bool.not_false, decide_true, decide_false, eq_self, bne_self_eq_false, List.getElem?_cons_zero, List.getElem?_cons_succ, decide_eq_true_eq, Bool.false_eq_true, Bool.true_eq_false, reduceCtorEq, Nat.le_refl, w.len, hlt]
    rw [List.take_length] at q3
    exact ⟨_, rfl, by omega, fun _ => ⟨by omega, q3⟩⟩
  · simp only [show ((0 : Nat) : Int) = 0 from rfl] at l1
    rw [l1]
    simp only [run0, run1, run2, run3, run4, noSlot, ownS, ownK, memN, RO.dst, lk, drop, forget, number, Nat.reduceBEq, cut?, splice?, builds, List.length_cons, List.length_nil, List.drop_succ_cons, List.drop_zero, List.take_succ_cons, List.take_zero, List.cons_append, List.nil_append, List.append_nil, List.drop_nil, List.take_nil, Nat.reduceAdd, Nat.reduceLeDiff, Nat.zero_add, Nat.add_zero, ↓reduceIte, Bool.not_true, Bool.not_false, decide_true, decide_false, eq_self, bne_self_eq_false, List.getElem?_cons_zero, List.getElem?_cons_succ, decide_eq_true_eq, Bool.false_eq_true, Bool.true_eq_false, reduceCtorEq, Nat.le_refl, q1, q2]
    exact ⟨_, rfl, by omega, by omega⟩
theorem toShardS_c (hLShard : Has F tLShard) (hLBook : Has F tLBook) (hLAccount : Has F tLAccount) (hLFin : Has F tLFin) (hf : h.floor ≤ h.next) (w : SlR 20 Shard.RL h x xs fp) (sm : xs.length ≤ 1048576 ∧ ∀ a, a ∈ xs → a.Small) : ∃ y h' fq, call F Z 205 [.c x] h = some (.c y, h') ∧ On h h' ∧ SlR 16 Shard.RI h' y xs fq ∧ Fre h fq := by
  obtain ⟨hn, sm⟩ := sm
  rw [call_run F Z (hLShard.lk (g := 205) rfl) _ _ rfl]
  simp only [run0, run1, run2, run3, run4, noSlot, ownS, ownK, memN, RO.dst, lk, drop, forget, number, Nat.reduceBEq, cut?, splice?, builds, List.length_cons, List.length_nil, List.drop_succ_cons, List.drop_zero, List.take_succ_cons, List.take_zero, List.cons_append, List.nil_append, List.append_nil, List.drop_nil, List.take_nil, Nat.reduceAdd, Nat.reduceLeDiff, Nat.zero_add, Nat.add_zero, ↓reduceIte, Bool.not_true, Bool.not_false, decide_true, decide_false, eq_self, bne_self_eq_false, List.getElem?_cons_zero, List.getElem?_cons_succ, decide_eq_true_eq, Bool.false_eq_true, Bool.true_eq_false, reduceCtorEq, Nat.le_refl, w.len]
  rw [if_pos (by omega)]
  simp only [run0, run1, run2, run3, run4, noSlot, ownS, ownK, memN, RO.dst, lk, drop, forget, number, Nat.reduceBEq, cut?, splice?, builds, List.length_cons, List.length_nil, List.drop_succ_cons, List.drop_zero, List.take_succ_cons, List.take_zero, List.cons_append, List.nil_append, List.append_nil, List.drop_nil, List.take_nil, Nat.reduceAdd, Nat.reduceLeDiff, Nat.zero_add, Nat.add_zero, ↓reduceIte, Bool.not_true, Bool.not_false, decide_true, decide_false, eq_self, bne_self_eq_false, List.getElem?_cons_zero, List.getElem?_cons_succ, decide_eq_true_eq, Bool.false_eq_true, Bool.true_eq_false, reduceCtorEq, Nat.le_refl, Int.toNat_natCast]
  obtain ⟨s', ⟨g, rows, fps, hs', fl⟩, l1⟩ := loop_goes (F := F) (Z := Z) (live := [0, 3, 4]) (b := r205L0) xs.length (fun i s => ∃ g rows fps, s = ⟨[(0, .c x), (3, .c (.sl 16 h.next 0 xs.length)), (4, .c (.int .i64 (i : Nat)))], [], [], g⟩ ∧ Filled Shard.RI h g h.next Shard.zeroC xs i rows fps) (fun i s hi ⟨g, rows, fps, hs, fl⟩ => by
    subst hs
    have wg := w.mono Shard.okL fl.on.ext
    obtain ⟨r, f, hld, hr, _⟩ := wg.one hi
    obtain ⟨l1, l2, l3⟩ := Shard.lenL hr
    obtain ⟨cs', g', fq, e, o', v, fr⟩ := toShard_c (Z := Z) hLShard hLBook hLAccount hLFin (fl.on.le hf) hr (sm _ (List.getElem_mem hi))
    obtain ⟨vl, _, _⟩ := Shard.lenI v
    obtain ⟨st, fl'⟩ := fl.step Shard.okI hf hi vl o' v fr
    have hlt : (i : Int) < xs.length := by omega
    have h0 : (0 : Int) ≤ i := by omega
    rw [loop_run]
    conv in (codeF _ _ r205L0 _) => unfold r205L0
    simp only [run0, run1, run2, run3, run4, noSlot, ownS, ownK, memN, RO.dst, lk, drop, forget, number, Nat.reduceBEq, cut?, splice?, builds, List.length_cons, List.length_nil, List.drop_succ_cons, List.drop_zero, List.take_succ_cons, List.take_zero, List.cons_append, List.nil_append, List.append_nil, List.drop_nil, List.take_nil, Nat.reduceAdd, Nat.reduceLeDiff, Nat.zero_add, Nat.add_zero, ↓reduceIte, Bool.not_true, Bool.not_false, decide_true, decide_false, eq_self, bne_self_eq_false, List.getElem?_cons_zero, List.getElem?_cons_succ, decide_eq_true_eq, Bool.false_eq_true, Bool.true_eq_false, reduceCtorEq, Nat.le_refl, w.len, hlt, w.idx hi, hld, l1, l2, e, h0, and_self, Int.toNat_natCast, vl, st, wrapS i (by omega)]
    exact ⟨_, ⟨_, _, _, rfl, fl'⟩, rfl⟩) (s := ⟨[(0, .c x), (3, .c (.sl 16 h.next 0 xs.length)), (4, .c (.int .i64 (0 : Nat)))], [], [], h.push (List.replicate xs.length Shard.zeroC)⟩) ⟨_, _, _, rfl, Filled.start h Shard.zeroC xs⟩
  subst hs'
  simp only [show ((0 : Nat) : Int) = 0 from rfl, Shard.zeroC] at l1
  rw [l1, loop_run]
  conv in (codeF _ _ r205L0 _) => unfold r205L0
  have hlt : ¬ (xs.length : Int) < xs.length := by omega
  simp only [run0, run1, run2, run3, run4, noSlot, ownS, ownK, memN, RO.dst, lk, drop, forget, number, Nat.reduceBEq, cut?, splice?, builds, List.length_cons, List.length_nil, List.drop_succ_cons, List.drop_zero, List.take_succ_cons, List.take_zero, List.cons_append, List.nil_append, List.append_nil, List.drop_nil, List.take_nil, Nat.reduceAdd, Nat.reduceLeDiff, Nat.zero_add, Nat.add_zero, ↓reduceIte, Bool.not_true, Bool.not_false, decide_true, decide_false, eq_self, bne_self_eq_false, List.getElem?_cons_zero, List.getElem?_cons_succ, decide_eq_true_eq, Bool.false_eq_true, Bool.true_eq_false, reduceCtorEq, Nat.le_refl, w.len, hlt]
  obtain ⟨o, v, f⟩ := fl.all hn 16
  exact ⟨_, _, _, rfl, o, v, f⟩
theorem eqShardS_r (hLShard : Has F tLShard) (hLBook : Has F tLBook) (hLAccount : Has F tLAccount) (hLFin : Has F tLFin) (w : SlR 16 Shard.RI h x xs fp) (v : SlR 16 Shard.RI h y ys fq) : call F Z 207 [.c x, .c y] h = some (.c (.bool (decide (xs = ys))), h) := by
  have hw := w.le2
  have hv := v.le2
  rw [call_run F Z (hLShard.lk (g := 207) rfl) _ _ rfl]
  simp only [run0, run1, run2, run3, run4, noSlot, ownS, ownK, memN, RO.dst, lk, drop, forget, number, Nat.reduceBEq, cut?, splice?, builds, List.length_cons, List.length_nil, List.drop_succ_cons, List.drop_zero, List.take_succ_cons, List.take_zero, List.cons_append, List.nil_append, List.append_nil, List.drop_nil, List.take_nil, Nat.reduceAdd, Nat.reduceLeDiff, Nat.zero_add, Nat.add_zero, ↓reduceIte, Bool.not_true, Bool.not_false, decide_true, decide_false, eq_self, bne_self_eq_false, List.getElem?_cons_zero, List.getElem?_cons_succ, decide_eq_true_eq, Bool.false_eq_true, Bool.true_eq_false, reduceCtorEq, Nat.le_refl, w.len, v.len]
  rw [condC_if]
  split
  · rename_i hne
    have : xs ≠ ys := by rintro rfl; simp at hne
    simp only [run0, run1, run2, run3, run4, noSlot, ownS, ownK, memN, RO.dst, lk, drop, forget, number, Nat.reduceBEq, cut?, splice?, builds, List.length_cons, List.length_nil, List.drop_succ_cons, List.drop_zero, List.take_succ_cons, List.take_zero, List.cons_append, List.nil_append, List.append_nil, List.drop_nil, List.take_nil, Nat.reduceAdd, Nat.reduceLeDiff, Nat.zero_add, Nat.add_zero, ↓reduceIte, Bool.not_true, Bool.not_false, decide_true, decide_false, eq_self, bne_self_eq_false, List.getElem?_cons_zero, List.getElem?_cons_succ, decide_eq_true_eq, Bool.false_eq_true, Bool.true_eq_false, reduceCtorEq, Nat.le_refl, this]
  · rename_i he
    have he : xs.length = ys.length := by simp at he; omega
    simp only [run0, run1, run2, run3, run4, noSlot, ownS, ownK, memN, RO.dst, lk, drop, forget, number, Nat.reduceBEq, cut?, splice?, builds, List.length_cons, List.length_nil, List.drop_succ_cons, List.drop_zero, List.take_succ_cons, List.take_zero, List.cons_append, List.nil_append, List.append_nil, List.drop_nil, List.take_nil, Nat.reduceAdd, Nat.reduceLeDiff, Nat.zero_add, Nat.add_zero, ↓reduceIte, Bool.not_true, Bool.not_false, decide_true, decide_false, eq_self, bne_self_eq_false, List.getElem?_cons_zero, List.getElem?_cons_succ, decide_eq_true_eq, Bool.false_eq_true, Bool.true_eq_false, reduceCtorEq, Nat.le_refl]
    have key := loop_allN (F := F) (Z := Z) (live := [0, 1, 5]) (b := r207L0) xs.length (fun i => ⟨[(0, .c x), (1, .c y), (5, .c (.int .i64 (i : Nat)))], [], [], h⟩) (fun i => decide (xs[i]? = ys[i]?)) (fun s => lk s.env 4 = some (.c (.bool false)) ∧ s.hp = h) fun i hi => by
      have hi' : i < ys.length := by omega
      have hlt : (i : Int) < xs.length := by omega
      obtain ⟨r, f, hld, hr, _⟩ := w.one hi
      obtain ⟨r', f', hld', hr', _⟩ := v.one hi'
      obtain ⟨l1, l2, l3⟩ := Shard.lenI hr
      obtain ⟨l1', l2', l3'⟩ := Shard.lenI hr'
      have e := eqShard_r (Z := Z) (h := ⟨h.next, h.next, h.get⟩) hLShard hLBook hLAccount hLFin (Shard.okI.up hr _) (Shard.okI.up hr' _)
      rw [loop_run]
      conv in (codeF _ _ r207L0 _) => unfold r207L0
      simp only [run0, run1, run2, run3, run4, noSlot, ownS, ownK, memN, RO.dst, lk, drop, forget, number, Nat.reduceBEq, cut?, splice?, builds, List.length_cons, List.length_nil, List.drop_succ_cons, List.drop_zero, List.take_succ_cons, List.take_zero, List.cons_append, List.nil_append, List.append_nil, List.drop_nil, List.take_nil, Nat.reduceAdd, Nat.reduceLeDiff, Nat.zero_add, Nat.add_zero, ↓reduceIte, Bool.not_true, Bool.not_false, decide_true, decide_false, eq_self, bne_self_eq_false, List.getElem?_cons_zero, List.getElem?_cons_succ, decide_eq_true_eq, Bool.false_eq_true, Bool.true_eq_false, reduceCtorEq, Nat.le_refl, w.len, hlt, w.idx hi, v.idx hi', hld, hld', l1, l2, l1', l2', e, wrapS i (by omega)]
      rw [List.getElem?_eq_getElem hi, List.getElem?_eq_getElem hi']
      clear e hld hld' hr hr' l1 l2 l3 l1' l2' l3'
      (repeat' ((first | (rw [gF_if]; split) | (rw [condC_if]; split) | (rw [pickR_if]; split)) <;> (rename_i hh; (try simp only [Bool.not_eq_true, decide_eq_true_eq] at hh); simp only [hh, run0, run1, run2, run3, run4, noSlot, ownS, ownK, memN, RO.dst, lk, drop, forget, number, Nat.reduceBEq, cut?, splice?, builds, List.length_cons, List.length_nil, List.drop_succ_cons, List.drop_zero, List.take_succ_cons, List.take_zero, List.cons_append, List.nil_append, List.append_nil, List.drop_nil, List.take_nil, Nat.reduceAdd, Nat.reduceLeDiff, Nat.zero_add, Nat.add_zero, ↓reduceIte, Bool.not_true, Bool.not_false, decide_true, decide_false, eq_self, bne_self_eq_false, List.getElem?_cons_zero, List.getElem?_cons_succ, decide_eq_true_eq, Bool.false_eq_true, Bool.true_eq_false, reduceCtorEq, Nat.le_refl, wrapS i (by omega)])))
      · exact .inr ⟨by simp_all, _, rfl, rfl, rfl⟩
      · exact .inl ⟨by simp_all, rfl⟩
    rw [all_same he] at key
    rcases key with ⟨k1, k2⟩ | ⟨k1, s, k2, k3, k4⟩
    · simp only [show ((0 : Nat) : Int) = 0 from rfl] at k2
      rw [k2, loop_run]
      conv in (codeF _ _ r207L0 _) => unfold r207L0
      have hlt : ¬ (xs.length : Int) < xs.length := by omega
      simp only [run0, run1, run2, run3, run4, noSlot, ownS, ownK, memN, RO.dst, lk, drop, forget, number, Nat.reduceBEq, cut?, splice?, builds, List.length_cons, List.length_nil, List.drop_succ_cons, List.drop_zero, List.take_succ_cons, List.take_zero, List.cons_append, List.nil_append, List.append_nil, List.drop_nil, List.take_nil, Nat.reduceAdd, Nat.reduceLeDiff, Nat.zero_add, Nat.add_zero, ↓reduceIte, Bool.not_true, Bool.not_false, decide_true, decide_false, eq_self, bne_self_eq_false, List.getElem?_cons_zero, List.getElem?_cons_succ, decide_eq_true_eq, Bool.false_eq_true, Bool.true_eq_false, reduceCtorEq, Nat.le_refl, w.len, hlt, k1]
    · simp only [show ((0 : Nat) : Int) = 0 from rfl] at k2
      rw [k2]
      simp only [run0, run1, run2, run3, run4, noSlot, ownS, ownK, memN, RO.dst, lk, drop, forget, number, Nat.reduceBEq, cut?, splice?, builds, List.length_cons, List.length_nil, List.drop_succ_cons, List.drop_zero, List.take_succ_cons, List.take_zero, List.cons_append, List.nil_append, List.append_nil, List.drop_nil, List.take_nil, Nat.reduceAdd, Nat.reduceLeDiff, Nat.zero_add, Nat.add_zero, ↓reduceIte, Bool.not_true, Bool.not_false, decide_true, decide_false, eq_self, bne_self_eq_false, List.getElem?_cons_zero, List.getElem?_cons_succ, decide_eq_true_eq, Bool.false_eq_true, Bool.true_eq_false, reduceCtorEq, Nat.le_refl, k3, k4, k1]
end
end Go.Proofs.Ytlfepembgjjejaa.A
/- The data of a Store with its memory, and what its converters compute. -/
namespace Go.Proofs.Ytlfepembgjjejaa.A
open Go
set_option linter.unusedSimpArgs false
set_option linter.unusedVariables false
structure Store where
  group : Int
  seen : Int
  shards : List Shard
  deriving DecidableEq
def Store.RL : Rel Store := fun h cs t fp => ∃ x1 p1, cs = [.int .i64 t.group, .int .i64 t.seen, x1] ∧ fp = p1 ∧ SlR 20 (Shard.RL) h x1 t.shards p1
theorem Store.okL : RelOk Store.RL where
  lt := by
    rintro h cs t fp ⟨x1, p1, rfl, rfl, w1⟩ id hid
    exact w1.lt (Shard.okL) id hid
  mv := by
    rintro h h' cs t fp ⟨x1, p1, rfl, rfl, w1⟩ hn hg
    exact ⟨x1, _, rfl, rfl, w1.mv (Shard.okL) hn hg⟩
def Store.RI : Rel Store := fun h cs t fp => ∃ x1 p1, cs = [.int .i64 t.group, .int .i64 t.seen, x1] ∧ fp = p1 ∧ SlR 16 (Shard.RI) h x1 t.shards p1
theorem Store.okI : RelOk Store.RI where
  lt := by
    rintro h cs t fp ⟨x1, p1, rfl, rfl, w1⟩ id hid
    exact w1.lt (Shard.okI) id hid
  mv := by
    rintro h h' cs t fp ⟨x1, p1, rfl, rfl, w1⟩ hn hg
    exact ⟨x1, _, rfl, rfl, w1.mv (Shard.okI) hn hg⟩
theorem Store.lenL {h : Heap} {cs : List Cell} {t : Store} {fp : List Nat} (v : Store.RL h cs t fp) : cs.length = 3 ∧ cs.take 3 = cs ∧ cs.drop 3 = [] := by
  obtain ⟨x1, p1, rfl, _⟩ := v
  exact ⟨rfl, rfl, rfl⟩
theorem Store.lenI {h : Heap} {cs : List Cell} {t : Store} {fp : List Nat} (v : Store.RI h cs t fp) : cs.length = 3 ∧ cs.take 3 = cs ∧ cs.drop 3 = [] := by
  obtain ⟨x1, p1, rfl, _⟩ := v
  exact ⟨rfl, rfl, rfl⟩
namespace Store
/-- The numbers are those of the machine. -/
structure Ok (t : Store) : Prop where
  group : -9223372036854775808 ≤ t.group ∧ t.group ≤ 9223372036854775807
  seen : -9223372036854775808 ≤ t.seen ∧ t.seen ≤ 9223372036854775807
  shards : ∀ a, a ∈ t.shards → a.Ok
def Small (t : Store) : Prop := (t.shards.length ≤ 1048576 ∧ ∀ a, a ∈ t.shards → a.Small)
end Store
theorem Wf.isStore {h : Heap} {n : Nat} {cs : List Cell} (w : Wf h (n + 7) shStore cs) : ∃ t fp, Store.RL h cs t fp ∧ t.Ok := by
  obtain ⟨_, _, rfl, _, ⟨i1, rfl, j1⟩, _, _, rfl, _, ⟨i2, rfl, j2⟩, _, _, rfl, _, m3, rfl⟩ := w
  obtain ⟨x1, l1, p1, rfl, w1, o1⟩ := Wf.isShardS' m3
  exact ⟨⟨i1, i2, l1⟩, _, ⟨x1, _, rfl, rfl, w1⟩, ⟨wfI j1, wfI j2, o1⟩⟩
section
variable {F : Nat → Option RF} {Z : CallF} {h : Heap} {cs cs' : List Cell} {t u : Store} {fp fq : List Nat}
theorem szStore_c (hLStore : Has F tLStore) (hLShard : Has F tLShard) (hLBook : Has F tLBook) (hLAccount : Has F tLAccount) (hLFin : Has F tLFin) (v : Store.RL h cs t fp) (left : Int) (h1 : 0 ≤ left) (h2 : left ≤ 1048576) : ∃ r, call F Z 154 [.agg cs, .c (.int .i64 left)] h = some (.c (.int .i64 r), h) ∧ r ≤ left ∧ (0 ≤ r → t.Small) := by
  obtain ⟨x1, p1, rfl, rfl, w1⟩ := v
  rw [call_run F Z (hLStore.lk (g := 154) rfl) _ _ rfl]
  simp only [run0, run1, run2, run3, run4, noSlot, ownS, ownK, memN, RO.dst, lk, drop, forget, number, Nat.reduceBEq, cut?, splice?, builds, List.length_cons, List.length_nil, List.drop_succ_cons, List.drop_zero, List.take_succ_cons, List.take_zero, List.cons_append, List.nil_append, List.append_nil, List.drop_nil, List.take_nil, Nat.reduceAdd, Nat.reduceLeDiff, Nat.zero_add, Nat.add_zero, ↓reduceIte, Bool.not_true, Bool.not_false, decide_true, decide_false, eq_self, bne_self_eq_false, List.getElem?_cons_zero, List.getElem?_cons_succ, decide_eq_true_eq, Bool.false_eq_true, Bool.true_eq_false, reduceCtorEq, Nat.le_refl]
  obtain ⟨l0, s0, a0, b0⟩ := szShardS_c (Z := Z) hLShard hLBook hLAccount hLFin w1 left (by omega) (by omega)
  simp only [run0, run1, run2, run3, run4, noSlot, ownS, ownK, memN, RO.dst, lk, drop, forget, number, Nat.reduceBEq, cut?, splice?, builds, List.length_cons, List.length_nil, List.drop_succ_cons, List.drop_zero, List.take_succ_cons, List.take_zero, List.cons_append, List.nil_append, List.append_nil, List.drop_nil, List.take_nil, Nat.reduceAdd, Nat.reduceLeDiff, Nat.zero_add, Nat.add_zero, ↓reduceIte, Bool.not_true, Bool.not_false, decide_true, decide_false, eq_self, bne_self_eq_false, List.getElem?_cons_zero, List.getElem?_cons_succ, decide_eq_true_eq, Bool.false_eq_true, Bool.true_eq_false, reduceCtorEq, Nat.le_refl, s0]
  by_cases n0 : l0 < 0
  · simp only [run0, run1, run2, run3, run4, noSlot, ownS, ownK, memN, RO.dst, lk, drop, forget, number, Nat.reduceBEq, cut?, splice?, builds, List.length_cons, List.length_nil, List.drop_succ_cons, List.drop_zero, List.take_succ_cons, List.take_zero, List.cons_append, List.nil_append, List.append_nil, List.drop_nil, List.take_nil, Nat.reduceAdd, Nat.reduceLeDiff, Nat.zero_add, Nat.add_zero, ↓reduceIte, Bool.not_true, Bool.not_false, decide_true, decide_false, eq_self, bne_self_eq_false, List.getElem?_cons_zero, List.getElem?_cons_succ, decide_eq_true_eq, Bool.false_eq_true, Bool.true_eq_false, reduceCtorEq, Nat.le_refl, n0]
    exact ⟨_, rfl, by omega, by omega⟩
  simp only [run0, run1, run2, run3, run4, noSlot, ownS, ownK, memN, RO.dst, lk, drop, forget, number, Nat.reduceBEq, cut?, splice?, builds, List.length_cons, List.length_nil, List.drop_succ_cons, List.drop_zero, List.take_succ_cons, List.take_zero, List.cons_append, List.nil_append, List.append_nil, List.drop_nil, List.take_nil, Nat.reduceAdd, Nat.reduceLeDiff, Nat.zero_add, Nat.add_zero, ↓reduceIte, Bool.not_true, Bool.not_false, decide_true, decide_false, eq_self, bne_self_eq_false, List.getElem?_cons_zero, List.getElem?_cons_succ, decide_eq_true_eq, Bool.false_eq_true, Bool.true_eq_false, reduceCtorEq, Nat.le_refl, n0]
  exact ⟨_, rfl, by omega, fun _ => b0 (by omega)⟩
theorem toStore_c (hLStore : Has F tLStore) (hLShard : Has F tLShard) (hLBook : Has F tLBook) (hLAccount : Has F tLAccount) (hLFin : Has F tLFin) (hf : h.floor ≤ h.next) (v : Store.RL h cs t fp) (sm : t.Small) : ∃ cs' h' fq, call F Z 155 [.agg cs] h = some (.agg cs', h') ∧ On h h' ∧ Store.RI h' cs' t fq ∧ Fre h fq := by
  obtain ⟨x1, p1, rfl, rfl, w1⟩ := v
  have sm0 := sm
  obtain ⟨y1, g0, q1, e0, o0, u1, r0⟩ := toShardS_c (Z := Z) hLShard hLBook hLAccount hLFin hf w1 sm0
  rw [call_run F Z (hLStore.lk (g := 155) rfl) _ _ rfl]
  simp only [run0, run1, run2, run3, run4, noSlot, ownS, ownK, memN, RO.dst, lk, drop, forget, number, Nat.reduceBEq, cut?, splice?, builds, List.length_cons, List.length_nil, List.drop_succ_cons, List.drop_zero, List.take_succ_cons, List.take_zero, List.cons_append, List.nil_append, List.append_nil, List.drop_nil, List.take_nil, Nat.reduceAdd, Nat.reduceLeDiff, Nat.zero_add, Nat.add_zero, ↓reduceIte, Bool.not_true, Bool.not_false, decide_true, decide_false, eq_self, bne_self_eq_false, List.getElem?_cons_zero, List.getElem?_cons_succ, decide_eq_true_eq, Bool.false_eq_true, Bool.true_eq_false, reduceCtorEq, Nat.le_refl, e0]
  exact ⟨_, _, _, rfl, o0, ⟨y1, _, rfl, rfl, u1⟩, r0⟩
set_option maxHeartbeats 1000000 in
theorem eqStore_r (hLStore : Has F tLStore) (hLShard : Has F tLShard) (hLBook : Has F tLBook) (hLAccount : Has F tLAccount) (hLFin : Has F tLFin) (v : Store.RI h cs t fp) (v' : Store.RI h cs' u fq) : call F Z 158 [.agg cs, .agg cs'] h = some (.c (.bool (decide (t = u))), h) := by
  obtain ⟨x1, p1, rfl, rfl, w1⟩ := v
  obtain ⟨x1', p1', rfl, rfl, w1'⟩ := v'
  obtain ⟨group1, seen1, shards1⟩ := t
  obtain ⟨group2, seen2, shards2⟩ := u
  have e0 := eqShardS_r (Z := Z) hLShard hLBook hLAccount hLFin w1 w1'
  clear w1 w1'
  rw [call_run F Z (hLStore.lk (g := 158) rfl) _ _ rfl]
  simp only [run0, run1, run2, run3, run4, noSlot, ownS, ownK, memN, RO.dst, lk, drop, forget, number, Nat.reduceBEq, cut?, splice?, builds, List.length_cons, List.length_nil, List.drop_succ_cons, List.drop_zero, List.take_succ_cons, List.take_zero, List.cons_append, List.nil_append, List.append_nil, List.drop_nil, List.take_nil, Nat.reduceAdd, Nat.reduceLeDiff, Nat.zero_add, Nat.add_zero, ↓reduceIte, Bool.not_true, Bool.not_false, decide_true, decide_false, eq_self, bne_self_eq_false, List.getElem?_cons_zero, List.getElem?_cons_succ, decide_eq_true_eq, Bool.false_eq_true, Bool.true_eq_false, reduceCtorEq, Nat.le_refl, e0]
  (repeat' ((first | (rw [gF_if]; split) | (rw [condC_if]; split) | (rw [pickR_if]; split)) <;> (rename_i hh; (try simp only [Bool.not_eq_true, decide_eq_true_eq] at hh); simp only [hh, run0, run1, run2, run3, run4, noSlot, ownS, ownK, memN, RO.dst, lk, drop, forget, number, Nat.reduceBEq, cut?, splice?, builds, List.length_cons, List.length_nil, List.drop_succ_cons, List.drop_zero, List.take_succ_cons, List.take_zero, List.cons_append, List.nil_append, List.append_nil, List.drop_nil, List.take_nil, Nat.reduceAdd, Nat.reduceLeDiff, Nat.zero_add, Nat.add_zero, ↓reduceIte, Bool.not_true, Bool.not_false, decide_true, decide_false, eq_self, bne_self_eq_false, List.getElem?_cons_zero, List.getElem?_cons_succ, decide_eq_true_eq, Bool.false_eq_true, Bool.true_eq_false, reduceCtorEq, Nat.le_refl, e0]))) <;> clear e0 <;> refine fin_bool ?_ <;> simp_all <;> (try (intros; omega))
end
end Go.Proofs.Ytlfepembgjjejaa.A
/- Loops behind which the heap goes on. -/
namespace Go.Proofs.Ytlfepembgjjejaa.A
open Go
set_option linter.unusedSimpArgs false
set_option linter.unusedVariables false
/-- One turn goes on with a heap that goes on, or returns. -/
def TurnO (r : Option (Ex × St)) (next : Heap → Option (Ex × St)) (g : Heap) (p : Bool) (Q : St → Prop) : Prop :=
  (p = true ∧ ∃ g', On g g' ∧ r = next g') ∨ (p = false ∧ ∃ s', r = some (.ret, s') ∧ On g s'.hp ∧ Q s')
section
variable {F : Nat → Option RF} {Z : CallF} {live : List Nat} {b : RC}
theorem loop_on (n : Nat) (st : Nat → Heap → St) (h : Heap) (P : Nat → Bool) (Q : St → Prop)
    (hs : ∀ i g, i < n → On h g → TurnO (loop F Z live b (st i g)) (fun g' => loop F Z live b (st (i + 1) g')) g (P i) Q) :
    TurnO (loop F Z live b (st 0 h)) (fun g' => loop F Z live b (st n g')) h ((List.range n).all P) Q := by
  induction n with
  | zero => exact .inl ⟨rfl, h, On.refl h, rfl⟩
  | succ n ih =>
    have hl : (List.range (n + 1)).all P = ((List.range n).all P && P n) := by rw [List.range_succ, List.all_append]; simp
    rcases ih fun i g hi => hs i g (by omega) with ⟨h1, g1, o1, e1⟩ | ⟨h1, s', e1, o1, q1⟩
    · rcases hs n g1 (by omega) o1 with ⟨h3, g2, o2, e2⟩ | ⟨h3, s', e2, o2, q2⟩
      · exact .inl ⟨by rw [hl, h1, h3]; rfl, g2, o1.trans o2, e1.trans e2⟩
      · exact .inr ⟨by rw [hl, h1, h3]; rfl, s', e1.trans e2, o1.trans o2, q2⟩
    · exact .inr ⟨by rw [hl, h1]; rfl, s', e1, o1, q1⟩
end
theorem On.mkup {h h' : Heap} (o : On ⟨h.next, h.next, h.get⟩ h') : On h ⟨h'.next, h.floor, h'.get⟩ := ⟨⟨o.ext.1, o.ext.2⟩, rfl⟩
end Go.Proofs.Ytlfepembgjjejaa.A
/- Is a store right? -/
namespace Go.Proofs.Ytlfepembgjjejaa.A
open Go
set_option linter.unusedSimpArgs false
set_option linter.unusedVariables false
/-- The functions that the program's shards reach. -/
structure KI (F : Nat → Option RF) : Prop where
  i10 : Has F tI10
  i11 : Has F tI11
  i13 : Has F tI13
  c1 : Has F tLibcmpCompareint
  c2 : Has F tLibcmpCompareuint64
  c3 : Has F tLibcmpOrint
  c4 : Has F tLibcmpisNaNint
  c5 : Has F tLibcmpisNaNuint64
  li : Has F tLibslicesIndeximplFinimplFin
  lc : Has F tLibslicesContainsimplFinimplFin
/-- The functions that the reference's shards reach. -/
structure KS (F : Nat → Option RF) : Prop where
  s01 : Has F tS01d
  s10 : Has F tS10
  s13 : Has F tS13
def Shard.none_ : Shard := ⟨0, 0, 0, 0, ⟨[]⟩, []⟩
def Shard.at_ (xs : List Shard) (i : Nat) : Shard := xs[i]?.getD Shard.none_
theorem Shard.at_get {xs : List Shard} {i : Nat} (hi : i < xs.length) : Shard.at_ xs i = xs[i] := by simp [Shard.at_, List.getElem?_eq_getElem hi]
def Store.fits (s : Store) (i : Nat) : Bool := (Shard.at_ s.shards i).good && (decide ((Shard.at_ s.shards i).epoch ≤ s.seen) && (i == 0 || decide ((Shard.at_ s.shards (i - 1)).hi < (Shard.at_ s.shards i).lo)))
def Store.good (s : Store) : Bool := inR s.group 0 99 && (inR s.seen 0 1000000 && (decide ((s.shards.length : Int) ≤ 8) && (List.range s.shards.length).all s.fits))
section
variable {F : Nat → Option RF} {Z : CallF} {h : Heap} {cs : List Cell} {s : Store} {fp : List Nat} {x : Cell}
theorem isShard_q (k : KI F) {t : Shard} {cs : List Cell} {fp : List Nat} (v : Shard.RI h cs t fp) (ok : t.Ok) :
    ∃ h' g, call F Z 244 [.agg cs] ⟨h.next, h.next, h.get⟩ = some (.c (.bool t.good), h') ∧ Heap.mk h'.next h.floor h'.get = g ∧ On h g := by
  obtain ⟨h', e, o⟩ := isShard_run (Z := Z) k.i10 k.i13 k.c1 k.c2 k.c3 k.c4 k.c5 k.li k.lc (Shard.okI.up v h.next) ok
  exact quietly e o
set_option maxHeartbeats 4000000 in
theorem isStore_turn (k : KI F) (w : SlR 16 Shard.RI h x s.shards fp) (ok : ∀ a, a ∈ s.shards → a.Ok) (i : Nat) (hi : i < s.shards.length) :
    TurnO (loop F Z [1, 26, 27, 28] r206L0 ⟨[(26, .c x), (27, .c (.int .i64 (s.shards.length : Nat))), (28, .c (.int .i64 (i : Nat)))], [(1, 1, 0)], [(1, [.int .i64 s.group, .int .i64 s.seen, x])], h⟩)
      (fun g => loop F Z [1, 26, 27, 28] r206L0 ⟨[(26, .c x), (27, .c (.int .i64 (s.shards.length : Nat))), (28, .c (.int .i64 ((i + 1 : Nat) : Int)))], [(1, 1, 0)], [(1, [.int .i64 s.group, .int .i64 s.seen, x])], g⟩)
      h (s.fits i) (fun s' => lk s'.env 2 = some (.c (.bool false))) := by
  have hle := w.le2
  have hlt : (i : Int) < s.shards.length := by omega
  have hws := wrapS i (by omega)
  have hxi := w.idx hi
  obtain ⟨r, f, hld, hR, _⟩ := w.one hi
  rw [← Shard.at_get hi] at hR
  have aok := ok _ (List.getElem_mem hi)
  rw [← Shard.at_get hi] at aok
  obtain ⟨h', g, hc, hg, og⟩ := isShard_q (Z := Z) k hR aok
  have hpre : 0 < i → IntKind.i64.wrap ((i : Int) - 1) = ((i - 1 : Nat) : Int) := fun hp => by rw [wrapI _ (by omega) (by omega)]; omega
  have hpi : 0 < i → idxR 16 (some x) (some ((i - 1 : Nat) : Int)) = some (.ptr x.sid (i - 1) 0) := fun hp => w.idx (by omega)
  have hpl : 0 < i → ∃ r', (∀ j n, loadP g x.sid (i - 1) j n = cut? r' j n) ∧ ∃ f', Shard.RI g r' (Shard.at_ s.shards (i - 1)) f' := fun hp => by
    obtain ⟨r', f', h1, h2, _⟩ := (w.on Shard.okI og).one (show i - 1 < s.shards.length by omega)
    rw [← Shard.at_get] at h2
    exact ⟨r', h1, f', h2⟩
  have hfit : s.fits i = ((Shard.at_ s.shards i).good && (decide ((Shard.at_ s.shards i).epoch ≤ s.seen) && (i == 0 || decide ((Shard.at_ s.shards (i - 1)).hi < (Shard.at_ s.shards i).lo)))) := rfl
  obtain ⟨x1, p1, x2, p2, rfl, _⟩ := hR
  clear w ok aok
  generalize s.fits i = fa at *
  generalize (Shard.at_ s.shards i).good = gd at *
  generalize Shard.at_ s.shards (i - 1) = pa at *
  generalize Shard.at_ s.shards i = a at *
  rw [loop_run]
  conv in (codeF _ _ r206L0 _) => unfold r206L0
  simp only [run0, run1, run2, run3, run4, noSlot, ownS, ownK, memN, RO.dst, lk, drop, forget, number, Nat.reduceBEq, cut?, splice?, builds, List.length_cons, List.length_nil, List.drop_succ_cons, List.drop_zero, List.take_succ_cons, List.take_zero, List.cons_append, List.nil_append, List.append_nil, List.drop_nil, List.take_nil, Nat.reduceAdd, Nat.reduceLeDiff, Nat.zero_add, Nat.add_zero, ↓reduceIte, Bool.not_true, Bool.not_false, decide_true, decide_false, eq_self, bne_self_eq_false, List.getElem?_cons_zero, List.getElem?_cons_succ, decide_eq_true_eq, Bool.false_eq_true, Bool.true_eq_false, reduceCtorEq, Nat.le_refl, hlt, hxi, hld]
  cases gd with
  | false =>
    simp only [run0, run1, run2, run3, run4, noSlot, ownS, ownK, memN, RO.dst, lk, drop, forget, number, Nat.reduceBEq, cut?, splice?, builds, List.length_cons, List.length_nil, List.drop_succ_cons, List.drop_zero, List.take_succ_cons, List.take_zero, List.cons_append, List.nil_append, List.append_nil, List.drop_nil, List.take_nil, Nat.reduceAdd, Nat.reduceLeDiff, Nat.zero_add, Nat.add_zero, ↓reduceIte, Bool.not_true, Bool.not_false, decide_true, decide_false, eq_self, bne_self_eq_false, List.getElem?_cons_zero, List.getElem?_cons_succ, decide_eq_true_eq, Bool.false_eq_true, Bool.true_eq_false, reduceCtorEq, Nat.le_refl, hc, hg]
    exact .inr ⟨by simp_all, _, rfl, og, rfl⟩
  | true =>
    by_cases hp : 0 < i
    · have g1 : (i : Int) > 0 := by omega
      have hi0 : (i == 0) = false := by simp; omega
      have q1 := hpre hp
      have q2 := hpi hp
      obtain ⟨r', q3, f', y1, y2, y3, y4, rfl, _⟩ := hpl hp
      clear hxi hpre hpi hpl hld
      simp only [run0, run1, run2, run3, run4, noSlot, ownS, ownK, memN, RO.dst, lk, drop, forget, number, Nat.reduceBEq, cut?, splice?, builds, List.length_cons, List.length_nil, List.drop_succ_cons, List.drop_zero, List.take_succ_cons, List.take_zero, List.cons_append, List.nil_append, List.append_nil, List.drop_nil, List.take_nil, Nat.reduceAdd, Nat.reduceLeDiff, Nat.zero_add, Nat.add_zero, ↓reduceIte, Bool.not_true, Bool.not_false, decide_true, decide_false, eq_self, bne_self_eq_false, List.getElem?_cons_zero, List.getElem?_cons_succ, decide_eq_true_eq, Bool.false_eq_true, Bool.true_eq_false, reduceCtorEq, Nat.le_refl, hws, g1, q1, q2, q3, hc, hg]
      (repeat' ((first | (rw [gF_if]; split) | (rw [condC_if]; split) | (rw [pickR_if]; split)) <;> (rename_i hh; (try simp only [Bool.not_eq_true, decide_eq_true_eq] at hh); simp only [hh, run0, run1, run2, run3, run4, noSlot, ownS, ownK, memN, RO.dst, lk, drop, forget, number, Nat.reduceBEq, cut?, splice?, builds, List.length_cons, List.length_nil, List.drop_succ_cons, List.drop_zero, List.take_succ_cons, List.take_zero, List.cons_append, List.nil_append, List.append_nil, List.drop_nil, List.take_nil, Nat.reduceAdd, Nat.reduceLeDiff, Nat.zero_add, Nat.add_zero, ↓reduceIte, Bool.not_true, Bool.not_false, decide_true, decide_false, eq_self, bne_self_eq_false, List.getElem?_cons_zero, List.getElem?_cons_succ, decide_eq_true_eq, Bool.false_eq_true, Bool.true_eq_false, reduceCtorEq, Nat.le_refl, hws, g1, q1, q2, q3, hc, hg])))
      all_goals clear q2 q3 hc hg
      all_goals first
        | exact .inl ⟨by simp_all <;> omega, _, og, rfl⟩
        | exact .inr ⟨by simp_all <;> omega, _, rfl, og, rfl⟩
    · have g1 : ¬ (i : Int) > 0 := by omega
      have hi0 : (i == 0) = true := by simp; omega
      clear hxi hpre hpi hpl hld
      simp only [run0, run1, run2, run3, run4, noSlot, ownS, ownK, memN, RO.dst, lk, drop, forget, number, Nat.reduceBEq, cut?, splice?, builds, List.length_cons, List.length_nil, List.drop_succ_cons, List.drop_zero, List.take_succ_cons, List.take_zero, List.cons_append, List.nil_append, List.append_nil, List.drop_nil, List.take_nil, Nat.reduceAdd, Nat.reduceLeDiff, Nat.zero_add, Nat.add_zero, ↓reduceIte, Bool.not_true, Bool.not_false, decide_true, decide_false, eq_self, bne_self_eq_false, List.getElem?_cons_zero, List.getElem?_cons_succ, decide_eq_true_eq, Bool.false_eq_true, Bool.true_eq_false, reduceCtorEq, Nat.le_refl, hws, g1, hc, hg]
      (repeat' ((first | (rw [gF_if]; split) | (rw [condC_if]; split) | (rw [pickR_if]; split)) <;> (rename_i hh; (try simp only [Bool.not_eq_true, decide_eq_true_eq] at hh); simp only [hh, run0, run1, run2, run3, run4, noSlot, ownS, ownK, memN, RO.dst, lk, drop, forget, number, Nat.reduceBEq, cut?, splice?, builds, List.length_cons, List.length_nil, List.drop_succ_cons, List.drop_zero, List.take_succ_cons, List.take_zero, List.cons_append, List.nil_append, List.append_nil, List.drop_nil, List.take_nil, Nat.reduceAdd, Nat.reduceLeDiff, Nat.zero_add, Nat.add_zero, ↓reduceIte, Bool.not_true, Bool.not_false, decide_true, decide_false, eq_self, bne_self_eq_false, List.getElem?_cons_zero, List.getElem?_cons_succ, decide_eq_true_eq, Bool.false_eq_true, Bool.true_eq_false, reduceCtorEq, Nat.le_refl, hws, g1, hc, hg])))
      all_goals clear hc hg
      all_goals first
        | exact .inl ⟨by simp_all <;> omega, _, og, rfl⟩
        | exact .inr ⟨by simp_all <;> omega, _, rfl, og, rfl⟩
set_option maxHeartbeats 4000000 in
theorem isStore_run (k : KI F) (v : Store.RI h cs s fp) (ok : s.Ok) : ∃ h', call F Z 206 [.agg cs] h = some (.c (.bool s.good), h') ∧ On h h' := by
  obtain ⟨x, p, rfl, rfl, w⟩ := v
  have key := loop_on (F := F) (Z := Z) (live := [1, 26, 27, 28]) (b := r206L0) s.shards.length (fun i g => ⟨[(26, .c x), (27, .c (.int .i64 (s.shards.length : Nat))), (28, .c (.int .i64 (i : Nat)))], [(1, 1, 0)], [(1, [.int .i64 s.group, .int .i64 s.seen, x])], g⟩) h s.fits (fun s' => lk s'.env 2 = some (.c (.bool false)))
    fun i g hi og => isStore_turn k (w.on Shard.okI og) ok.shards i hi
  have l1 := w.len
  have n1 : ¬ (s.shards.length : Int) < s.shards.length := by omega
  clear w ok
  simp only [show ((0 : Nat) : Int) = 0 from rfl] at key
  have hg := isGroupId_run (Z := Z) k.i11
  have hgd : s.good = (inR s.group 0 99 && (inR s.seen 0 1000000 && (decide ((s.shards.length : Int) ≤ 8) && (List.range s.shards.length).all s.fits))) := rfl
  generalize s.good = sg at *
  generalize (List.range s.shards.length).all s.fits = al at *
  rw [call_run F Z (k.i13.lk (g := 206) rfl) _ _ rfl]
  simp only [run0, run1, run2, run3, run4, noSlot, ownS, ownK, memN, RO.dst, lk, drop, forget, number, Nat.reduceBEq, cut?, splice?, builds, List.length_cons, List.length_nil, List.drop_succ_cons, List.drop_zero, List.take_succ_cons, List.take_zero, List.cons_append, List.nil_append, List.append_nil, List.drop_nil, List.take_nil, Nat.reduceAdd, Nat.reduceLeDiff, Nat.zero_add, Nat.add_zero, ↓reduceIte, Bool.not_true, Bool.not_false, decide_true, decide_false, eq_self, bne_self_eq_false, List.getElem?_cons_zero, List.getElem?_cons_succ, decide_eq_true_eq, Bool.false_eq_true, Bool.true_eq_false, reduceCtorEq, Nat.le_refl, hg, l1]
  clear k
  (repeat' ((first | (rw [gF_if]; split) | (rw [condC_if]; split) | (rw [pickR_if]; split)) <;> (rename_i hh; (try simp only [Bool.not_eq_true, decide_eq_true_eq] at hh); simp only [hh, run0, run1, run2, run3, run4, noSlot, ownS, ownK, memN, RO.dst, lk, drop, forget, number, Nat.reduceBEq, cut?, splice?, builds, List.length_cons, List.length_nil, List.drop_succ_cons, List.drop_zero, List.take_succ_cons, List.take_zero, List.cons_append, List.nil_append, List.append_nil, List.drop_nil, List.take_nil, Nat.reduceAdd, Nat.reduceLeDiff, Nat.zero_add, Nat.add_zero, ↓reduceIte, Bool.not_true, Bool.not_false, decide_true, decide_false, eq_self, bne_self_eq_false, List.getElem?_cons_zero, List.getElem?_cons_succ, decide_eq_true_eq, Bool.false_eq_true, Bool.true_eq_false, reduceCtorEq, Nat.le_refl, hg, l1])))
  all_goals clear hg l1
  all_goals first
    | (refine ⟨_, ?_, On.refl h⟩; simp_all [inR]; done)
    | (refine ⟨_, ?_, On.refl h⟩; simp_all [inR]; omega)
    | (rcases key with ⟨a1, g, og, a2⟩ | ⟨a1, s', a2, og, a3⟩
       · dsimp only at a2
         rw [a2, loop_run]
         conv in (codeF _ _ r206L0 _) => unfold r206L0
         simp only [run0, run1, run2, run3, run4, noSlot, ownS, ownK, memN, RO.dst, lk, drop, forget, number, Nat.reduceBEq, cut?, splice?, builds, List.length_cons, List.length_nil, List.drop_succ_cons, List.drop_zero, List.take_succ_cons, List.take_zero, List.cons_append, List.nil_append, List.append_nil, List.drop_nil, List.take_nil, Nat.reduceAdd, Nat.reduceLeDiff, Nat.zero_add, Nat.add_zero, ↓reduceIte, Bool.not_true, Bool.not_false, decide_true, decide_false, eq_self, bne_self_eq_false, List.getElem?_cons_zero, List.getElem?_cons_succ, decide_eq_true_eq, Bool.false_eq_true, Bool.true_eq_false, reduceCtorEq, Nat.le_refl, n1]
         refine ⟨_, ?_, og⟩
         simp_all [inR] <;> omega
       · rw [a2]
         simp only [run0, run1, run2, run3, run4, noSlot, ownS, ownK, memN, RO.dst, lk, drop, forget, number, Nat.reduceBEq, cut?, splice?, builds, List.length_cons, List.length_nil, List.drop_succ_cons, List.drop_zero, List.take_succ_cons, List.take_zero, List.cons_append, List.nil_append, List.append_nil, List.drop_nil, List.take_nil, Nat.reduceAdd, Nat.reduceLeDiff, Nat.zero_add, Nat.add_zero, ↓reduceIte, Bool.not_true, Bool.not_false, decide_true, decide_false, eq_self, bne_self_eq_false, List.getElem?_cons_zero, List.getElem?_cons_succ, decide_eq_true_eq, Bool.false_eq_true, Bool.true_eq_false, reduceCtorEq, Nat.le_refl, a3]
         refine ⟨_, ?_, og⟩
         simp_all [inR] <;> omega)
end
end Go.Proofs.Ytlfepembgjjejaa.A
/- Is a store right, by the reference? -/
namespace Go.Proofs.Ytlfepembgjjejaa.A
open Go
set_option linter.unusedSimpArgs false
set_option linter.unusedVariables false
section
variable {F : Nat → Option RF} {Z : CallF} {h : Heap} {cs : List Cell} {s : Store} {fp : List Nat} {x : Cell}
theorem l13Shard_q (k : KS F) {t : Shard} {cs : List Cell} {fp : List Nat} (v : Shard.RI h cs t fp) (ok : t.Ok) :
    call F Z 204 [.agg cs] ⟨h.next, h.next, h.get⟩ = some (.c (.bool t.good), ⟨h.next, h.next, h.get⟩) := l13Shard_run (Z := Z) k.s01 k.s10 k.s13 (Shard.okI.up v h.next) ok
set_option maxHeartbeats 4000000 in
theorem sStoreOk_turn (k : KS F) (w : SlR 16 Shard.RI h x s.shards fp) (ok : ∀ a, a ∈ s.shards → a.Ok) (i : Nat) (hi : i < s.shards.length) :
    Turn (loop F Z [1, 3] r156L0 ⟨[(3, .c (.int .i64 (i : Nat)))], [(1, 1, 0)], [(1, [.int .i64 s.group, .int .i64 s.seen, x])], h⟩)
      (loop F Z [1, 3] r156L0 ⟨[(3, .c (.int .i64 ((i + 1 : Nat) : Int)))], [(1, 1, 0)], [(1, [.int .i64 s.group, .int .i64 s.seen, x])], h⟩)
      (s.fits i) (fun s' => lk s'.env 2 = some (.c (.bool false)) ∧ s'.hp = h) := by
  have hle := w.le2
  have hlt : (i : Int) < s.shards.length := by omega
  have hws := wrapS i (by omega)
  have hxi := w.idx hi
  have hwl := w.len
  obtain ⟨r, f, hld, hR, _⟩ := w.one hi
  rw [← Shard.at_get hi] at hR
  have aok := ok _ (List.getElem_mem hi)
  rw [← Shard.at_get hi] at aok
  have hc := l13Shard_q (Z := Z) k hR aok
  have hpre : 0 < i → IntKind.i64.wrap ((i : Int) - 1) = ((i - 1 : Nat) : Int) := fun hp => by rw [wrapI _ (by omega) (by omega)]; omega
  have hpi : 0 < i → idxR 16 (some x) (some ((i - 1 : Nat) : Int)) = some (.ptr x.sid (i - 1) 0) := fun hp => w.idx (by omega)
  have hpl : 0 < i → ∃ r', (∀ j n, loadP h x.sid (i - 1) j n = cut? r' j n) ∧ ∃ f', Shard.RI h r' (Shard.at_ s.shards (i - 1)) f' := fun hp => by
    obtain ⟨r', f', h1, h2, _⟩ := w.one (show i - 1 < s.shards.length by omega)
    rw [← Shard.at_get] at h2
    exact ⟨r', h1, f', h2⟩
  have hfit : s.fits i = ((Shard.at_ s.shards i).good && (decide ((Shard.at_ s.shards i).epoch ≤ s.seen) && (i == 0 || decide ((Shard.at_ s.shards (i - 1)).hi < (Shard.at_ s.shards i).lo)))) := rfl
  obtain ⟨x1, p1, x2, p2, rfl, _⟩ := hR
  clear w ok aok
  generalize s.fits i = fa at *
  generalize (Shard.at_ s.shards i).good = gd at *
  generalize Shard.at_ s.shards (i - 1) = pa at *
  generalize Shard.at_ s.shards i = a at *
  rw [loop_run]
  conv in (codeF _ _ r156L0 _) => unfold r156L0
  simp only [run0, run1, run2, run3, run4, noSlot, ownS, ownK, memN, RO.dst, lk, drop, forget, number, Nat.reduceBEq, cut?, splice?, builds, List.length_cons, List.length_nil, List.drop_succ_cons, List.drop_zero, List.take_succ_cons, List.take_zero, List.cons_append, List.nil_append, List.append_nil, List.drop_nil, List.take_nil, Nat.reduceAdd, Nat.reduceLeDiff, Nat.zero_add, Nat.add_zero, ↓reduceIte, Bool.not_true, Bool.not_false, decide_true, decide_false, eq_self, bne_self_eq_false, List.getElem?_cons_zero, List.getElem?_cons_succ, decide_eq_true_eq, Bool.false_eq_true, Bool.true_eq_false, reduceCtorEq, Nat.le_refl, hwl, hlt, hxi, hld]
  cases gd with
  | false =>
    simp only [run0, run1, run2, run3, run4, noSlot, ownS, ownK, memN, RO.dst, lk, drop, forget, number, Nat.reduceBEq, cut?, splice?, builds, List.length_cons, List.length_nil, List.drop_succ_cons, List.drop_zero, List.take_succ_cons, List.take_zero, List.cons_append, List.nil_append, List.append_nil, List.drop_nil, List.take_nil, Nat.reduceAdd, Nat.reduceLeDiff, Nat.zero_add, Nat.add_zero, ↓reduceIte, Bool.not_true, Bool.not_false, decide_true, decide_false, eq_self, bne_self_eq_false, List.getElem?_cons_zero, List.getElem?_cons_succ, decide_eq_true_eq, Bool.false_eq_true, Bool.true_eq_false, reduceCtorEq, Nat.le_refl, hc]
    exact .inr ⟨by simp_all, _, rfl, rfl, rfl⟩
  | true =>
    by_cases hp : 0 < i
    · have g1 : (i : Int) > 0 := by omega
      have hi0 : (i == 0) = false := by simp; omega
      have q1 := hpre hp
      have q2 := hpi hp
      obtain ⟨r', q3, f', y1, y2, y3, y4, rfl, _⟩ := hpl hp
      clear hxi hpre hpi hpl hld
      simp only [run0, run1, run2, run3, run4, noSlot, ownS, ownK, memN, RO.dst, lk, drop, forget, number, Nat.reduceBEq, cut?, splice?, builds, List.length_cons, List.length_nil, List.drop_succ_cons, List.drop_zero, List.take_succ_cons, List.take_zero, List.cons_append, List.nil_append, List.append_nil, List.drop_nil, List.take_nil, Nat.reduceAdd, Nat.reduceLeDiff, Nat.zero_add, Nat.add_zero, ↓reduceIte, Bool.not_true, Bool.not_false, decide_true, decide_false, eq_self, bne_self_eq_false, List.getElem?_cons_zero, List.getElem?_cons_succ, decide_eq_true_eq, Bool.false_eq_true, Bool.true_eq_false, reduceCtorEq, Nat.le_refl, hws, g1, q1, q2, q3, hc]
      (repeat' ((first | (rw [gF_if]; split) | (rw [condC_if]; split) | (rw [pickR_if]; split)) <;> (rename_i hh; (try simp only [Bool.not_eq_true, decide_eq_true_eq] at hh); simp only [hh, run0, run1, run2, run3, run4, noSlot, ownS, ownK, memN, RO.dst, lk, drop, forget, number, Nat.reduceBEq, cut?, splice?, builds, List.length_cons, List.length_nil, List.drop_succ_cons, List.drop_zero, List.take_succ_cons, List.take_zero, List.cons_append, List.nil_append, List.append_nil, List.drop_nil, List.take_nil, Nat.reduceAdd, Nat.reduceLeDiff, Nat.zero_add, Nat.add_zero, ↓reduceIte, Bool.not_true, Bool.not_false, decide_true, decide_false, eq_self, bne_self_eq_false, List.getElem?_cons_zero, List.getElem?_cons_succ, decide_eq_true_eq, Bool.false_eq_true, Bool.true_eq_false, reduceCtorEq, Nat.le_refl, hws, g1, q1, q2, q3, hc])))
      all_goals clear q2 q3 hc
      all_goals first
        | exact .inl ⟨by simp_all <;> omega, rfl⟩
        | exact .inr ⟨by simp_all <;> omega, _, rfl, rfl, rfl⟩
    · have g1 : ¬ (i : Int) > 0 := by omega
      have hi0 : (i == 0) = true := by simp; omega
      clear hxi hpre hpi hpl hld
      simp only [run0, run1, run2, run3, run4, noSlot, ownS, ownK, memN, RO.dst, lk, drop, forget, number, Nat.reduceBEq, cut?, splice?, builds, List.length_cons, List.length_nil, List.drop_succ_cons, List.drop_zero, List.take_succ_cons, List.take_zero, List.cons_append, List.nil_append, List.append_nil, List.drop_nil, List.take_nil, Nat.reduceAdd, Nat.reduceLeDiff, Nat.zero_add, Nat.add_zero, ↓reduceIte, Bool.not_true, Bool.not_false, decide_true, decide_false, eq_self, bne_self_eq_false, List.getElem?_cons_zero, List.getElem?_cons_succ, decide_eq_true_eq, Bool.false_eq_true, Bool.true_eq_false, reduceCtorEq, Nat.le_refl, hws, g1, hc]
      (repeat' ((first | (rw [gF_if]; split) | (rw [condC_if]; split) | (rw [pickR_if]; split)) <;> (rename_i hh; (try simp only [Bool.not_eq_true, decide_eq_true_eq] at hh); simp only [hh, run0, run1, run2, run3, run4, noSlot, ownS, ownK, memN, RO.dst, lk, drop, forget, number, Nat.reduceBEq, cut?, splice?, builds, List.length_cons, List.length_nil, List.drop_succ_cons, List.drop_zero, List.take_succ_cons, List.take_zero, List.cons_append, List.nil_append, List.append_nil, List.drop_nil, List.take_nil, Nat.reduceAdd, Nat.reduceLeDiff, Nat.zero_add, Nat.add_zero, ↓reduceIte, Bool.not_true, Bool.not_false, decide_true, decide_false, eq_self, bne_self_eq_false, List.getElem?_cons_zero, List.getElem?_cons_succ, decide_eq_true_eq, Bool.false_eq_true, Bool.true_eq_false, reduceCtorEq, Nat.le_refl, hws, g1, hc])))
      all_goals clear hc
      all_goals first
        | exact .inl ⟨by simp_all <;> omega, rfl⟩
        | exact .inr ⟨by simp_all <;> omega, _, rfl, rfl, rfl⟩
set_option maxHeartbeats 4000000 in
theorem sStoreOk_run (k : KS F) (v : Store.RI h cs s fp) (ok : s.Ok) : call F Z 156 [.agg cs] h = some (.c (.bool s.good), h) := by
  obtain ⟨x, p, rfl, rfl, w⟩ := v
  have key := loop_allN (F := F) (Z := Z) (live := [1, 3]) (b := r156L0) s.shards.length (fun i => ⟨[(3, .c (.int .i64 (i : Nat)))], [(1, 1, 0)], [(1, [.int .i64 s.group, .int .i64 s.seen, x])], h⟩) s.fits (fun s' => lk s'.env 2 = some (.c (.bool false)) ∧ s'.hp = h)
    fun i hi => sStoreOk_turn k w ok.shards i hi
  have l1 := w.len
  have n1 : ¬ (s.shards.length : Int) < s.shards.length := by omega
  clear w ok
  simp only [show ((0 : Nat) : Int) = 0 from rfl] at key
  have hg := fun n lo hi => l01In_run (Z := Z) k.s01 n lo hi h
  have hgd : s.good = (inR s.group 0 99 && (inR s.seen 0 1000000 && (decide ((s.shards.length : Int) ≤ 8) && (List.range s.shards.length).all s.fits))) := rfl
  generalize s.good = sg at *
  generalize (List.range s.shards.length).all s.fits = al at *
  rw [call_run F Z (k.s13.lk (g := 156) rfl) _ _ rfl]
  simp only [run0, run1, run2, run3, run4, noSlot, ownS, ownK, memN, RO.dst, lk, drop, forget, number, Nat.reduceBEq, cut?, splice?, builds, List.length_cons, List.length_nil, List.drop_succ_cons, List.drop_zero, List.take_succ_cons, List.take_zero, List.cons_append, List.nil_append, List.append_nil, List.drop_nil, List.take_nil, Nat.reduceAdd, Nat.reduceLeDiff, Nat.zero_add, Nat.add_zero, ↓reduceIte, Bool.not_true, Bool.not_false, decide_true, decide_false, eq_self, bne_self_eq_false, List.getElem?_cons_zero, List.getElem?_cons_succ, decide_eq_true_eq, Bool.false_eq_true, Bool.true_eq_false, reduceCtorEq, Nat.le_refl, hg, l1]
  clear k
  (repeat' ((first | (rw [gF_if]; split) | (rw [condC_if]; split) | (rw [pickR_if]; split)) <;> (rename_i hh; (try simp only [Bool.not_eq_true, decide_eq_true_eq] at hh); simp only [hh, run0, run1, run2, run3, run4, noSlot, ownS, ownK, memN, RO.dst, lk, drop, forget, number, Nat.reduceBEq, cut?, splice?, builds, List.length_cons, List.length_nil, List.drop_succ_cons, List.drop_zero, List.take_succ_cons, List.take_zero, List.cons_append, List.nil_append, List.append_nil, List.drop_nil, List.take_nil, Nat.reduceAdd, Nat.reduceLeDiff, Nat.zero_add, Nat.add_zero, ↓reduceIte, Bool.not_true, Bool.not_false, decide_true, decide_false, eq_self, bne_self_eq_false, List.getElem?_cons_zero, List.getElem?_cons_succ, decide_eq_true_eq, Bool.false_eq_true, Bool.true_eq_false, reduceCtorEq, Nat.le_refl, hg, l1])))
  all_goals clear hg
  all_goals first
    | (simp_all [inR] <;> omega)
    | (rcases key with ⟨a1, a2⟩ | ⟨a1, s', a2, a3, a4⟩
       · rw [a2, loop_run]
         conv in (codeF _ _ r156L0 _) => unfold r156L0
         simp only [run0, run1, run2, run3, run4, noSlot, ownS, ownK, memN, RO.dst, lk, drop, forget, number, Nat.reduceBEq, cut?, splice?, builds, List.length_cons, List.length_nil, List.drop_succ_cons, List.drop_zero, List.take_succ_cons, List.take_zero, List.cons_append, List.nil_append, List.append_nil, List.drop_nil, List.take_nil, Nat.reduceAdd, Nat.reduceLeDiff, Nat.zero_add, Nat.add_zero, ↓reduceIte, Bool.not_true, Bool.not_false, decide_true, decide_false, eq_self, bne_self_eq_false, List.getElem?_cons_zero, List.getElem?_cons_succ, decide_eq_true_eq, Bool.false_eq_true, Bool.true_eq_false, reduceCtorEq, Nat.le_refl, l1, n1]
         simp_all [inR] <;> omega
       · rw [a2]
         simp only [run0, run1, run2, run3, run4, noSlot, ownS, ownK, memN, RO.dst, lk, drop, forget, number, Nat.reduceBEq, cut?, splice?, builds, List.length_cons, List.length_nil, List.drop_succ_cons, List.drop_zero, List.take_succ_cons, List.take_zero, List.cons_append, List.nil_append, List.append_nil, List.drop_nil, List.take_nil, Nat.reduceAdd, Nat.reduceLeDiff, Nat.zero_add, Nat.add_zero, ↓reduceIte, Bool.not_true, Bool.not_false, decide_true, decide_false, eq_self, bne_self_eq_false, List.getElem?_cons_zero, List.getElem?_cons_succ, decide_eq_true_eq, Bool.false_eq_true, Bool.true_eq_false, reduceCtorEq, Nat.le_refl, a3, a4]
         simp_all [inR] <;> omega)
variable {c : Heap}
theorem StoreOk_c (k : KI F) (hf : h.floor ≤ h.next) (v : Store.RI h cs s fp) (ok : s.Ok) : ∃ h', call F Z 157 [.agg cs] h = some (.c (.bool s.good), h') ∧ On h h' := by
  obtain ⟨l1, l2, l3⟩ := Store.lenI v
  obtain ⟨h', e, o⟩ := isStore_run (Z := Z) k v ok
  refine ⟨h', ?_, o⟩
  rw [call_run F Z (k.i13.lk (g := 157) rfl) _ _ rfl]
  simp only [run0, run1, run2, run3, run4, noSlot, ownS, ownK, memN, RO.dst, lk, drop, forget, number, Nat.reduceBEq, cut?, splice?, builds, List.length_cons, List.length_nil, List.drop_succ_cons, List.drop_zero, List.take_succ_cons, List.take_zero, List.cons_append, List.nil_append, List.append_nil, List.drop_nil, List.take_nil, Nat.reduceAdd, Nat.reduceLeDiff, Nat.zero_add, Nat.add_zero, ↓reduceIte, Bool.not_true, Bool.not_false, decide_true, decide_false, eq_self, bne_self_eq_false, List.getElem?_cons_zero, List.getElem?_cons_succ, decide_eq_true_eq, Bool.false_eq_true, Bool.true_eq_false, reduceCtorEq, Nat.le_refl, l1, l2, l3, e]
theorem sStoreOk_c (k : KS F) (hf : h.floor ≤ h.next) (v : Store.RI h cs s fp) (ok : s.Ok) : ∃ h', call F Z 156 [.agg cs] h = some (.c (.bool s.good), h') ∧ On h h' := ⟨h, sStoreOk_run k v ok, On.refl h⟩
end
end Go.Proofs.Ytlfepembgjjejaa.A
