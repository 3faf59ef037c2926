/- Slices that show data: relations between cells of a heap and data, with their footprints; loops by their turns. -/
import Derived.Test.YtgogajbfiocdbaaCB
import Derived.Test.YtgogajbfiocdbaaB5
namespace Go.Proofs.Ytgogajbfiocdbaa.A
open Go
set_option linter.unusedSimpArgs false
set_option linter.unusedVariables false

/-! ### numbers -/
theorem wrapI (z : Int) (h1 : -9223372036854775808 ≤ z) (h2 : z ≤ 9223372036854775807) : IntKind.i64.wrap z = z := by
  show (if (true && decide (z % 18446744073709551616 ≥ 9223372036854775808)) = true then z % 18446744073709551616 - 18446744073709551616 else z % 18446744073709551616) = z
  simp only [Bool.true_and, decide_eq_true_eq]
  split <;> omega
theorem wrapU (z : Int) (h1 : 0 ≤ z) (h2 : z ≤ 18446744073709551615) : IntKind.u64.wrap z = z := by
  show (if (false && decide (z % 18446744073709551616 ≥ 9223372036854775808)) = true then z % 18446744073709551616 - 18446744073709551616 else z % 18446744073709551616) = z
  rw [if_neg (by simp)]
  omega
theorem wrapS (i : Nat) (h : i < 9223372036854775807) : IntKind.i64.wrap ((i : Int) + 1) = ((i + 1 : Nat) : Int) := by rw [wrapI _ (by omega) (by omega)]; rfl

/-! ### cells that show data -/
/-- Cells of a heap show data; the rows that they lie in. -/
abbrev Rel (α : Type) := Heap → List Cell → α → List Nat → Prop
structure RelOk {α : Type} (R : Rel α) : Prop where
  lt : ∀ {h cs a fp}, R h cs a fp → ∀ id, id ∈ fp → id < h.next
  mv : ∀ {h h' cs a fp}, R h cs a fp → h.next ≤ h'.next → (∀ id, id ∈ fp → h'.get id = h.get id) → R h' cs a fp
def Fl {α : Type} (enc : α → List Cell) : Rel α := fun _ cs a fp => cs = enc a ∧ fp = []
theorem Fl.ok {α : Type} (enc : α → List Cell) : RelOk (Fl enc) where
  lt := by rintro h cs a fp ⟨rfl, rfl⟩ id hid; cases hid
  mv := fun e _ _ => e
def AllR {α : Type} (R : Rel α) (h : Heap) : List (List Cell) → List α → List (List Nat) → Prop
  | [], [], [] => True
  | r :: rs, a :: as, f :: fs => R h r a f ∧ AllR R h rs as fs
  | _, _, _ => False
def Cell.sid : Cell → Nat
  | .sl _ id _ _ => id
  | _ => 0
/-- A cell shows a list. -/
def SlR {α : Type} (tag : Nat) (R : Rel α) (h : Heap) (x : Cell) (xs : List α) (fp : List Nat) : Prop :=
  xs.length ≤ maxLen ∧ ((x = .nil ∧ xs = [] ∧ fp = []) ∨ ∃ id rows fps, x = .sl tag id 0 xs.length ∧ h.get id = some rows ∧ id < h.next ∧ fp = id :: fps.flatten ∧ AllR R h rows xs fps)

section
variable {α : Type} {R : Rel α} {h h' : Heap}
theorem AllR.len : ∀ {rows : List (List Cell)} {xs : List α} {fps : List (List Nat)}, AllR R h rows xs fps → rows.length = xs.length
  | [], [], [], _ => rfl
  | _ :: _, _ :: _, _ :: _, ⟨_, w⟩ => by simp only [List.length_cons, AllR.len w]
  | [], [], _ :: _, w => w.elim
  | [], _ :: _, _, w => w.elim
  | _ :: _, [], _, w => w.elim
  | _ :: _, _ :: _, [], w => w.elim
theorem AllR.at : ∀ {rows : List (List Cell)} {xs : List α} {fps : List (List Nat)}, AllR R h rows xs fps → ∀ (i : Nat) (hi : i < xs.length), ∃ r f, rows[i]? = some r ∧ fps[i]? = some f ∧ R h r xs[i] f
  | [], [], [], _ => fun i hi => absurd hi (Nat.not_lt_zero _)
  | r :: _, _ :: _, f :: _, ⟨w1, w⟩ => fun i hi => by
    cases i with
    | zero => exact ⟨r, f, rfl, rfl, w1⟩
    | succ i => exact AllR.at w i (by simpa using hi)
  | [], [], _ :: _, w => w.elim
  | [], _ :: _, _, w => w.elim
  | _ :: _, [], _, w => w.elim
  | _ :: _, _ :: _, [], w => w.elim
theorem AllR.mv (ok : RelOk R) : ∀ {rows : List (List Cell)} {xs : List α} {fps : List (List Nat)}, AllR R h rows xs fps → h.next ≤ h'.next → (∀ id, id ∈ fps.flatten → h'.get id = h.get id) → AllR R h' rows xs fps
  | [], [], [], _ => fun _ _ => trivial
  | _ :: _, _ :: _, _ :: _, ⟨w1, w⟩ => fun hn hg => ⟨ok.mv w1 hn fun id hid => hg id (by simp [hid]), w.mv ok hn fun id hid => hg id (by rw [List.flatten_cons]; exact List.mem_append_right _ hid)⟩
  | [], [], _ :: _, w => w.elim
  | [], _ :: _, _, w => w.elim
  | _ :: _, [], _, w => w.elim
  | _ :: _, _ :: _, [], w => w.elim
theorem AllR.lt (ok : RelOk R) : ∀ {rows : List (List Cell)} {xs : List α} {fps : List (List Nat)}, AllR R h rows xs fps → ∀ id, id ∈ fps.flatten → id < h.next
  | [], [], [], _ => fun id hid => by simp at hid
  | _ :: _, _ :: _, _ :: _, ⟨w1, w⟩ => fun id hid => by
    rw [List.flatten_cons] at hid
    rcases List.mem_append.1 hid with hid | hid
    · exact ok.lt w1 id hid
    · exact w.lt ok id hid
  | [], [], _ :: _, w => w.elim
  | [], _ :: _, _, w => w.elim
  | _ :: _, [], _, w => w.elim
  | _ :: _, _ :: _, [], w => w.elim
theorem AllR.flat {enc : α → List Cell} : ∀ {rows : List (List Cell)} {xs : List α} {fps : List (List Nat)}, AllR (Fl enc) h rows xs fps → rows = xs.map enc ∧ fps.flatten = []
  | [], [], [], _ => ⟨rfl, rfl⟩
  | _ :: _, _ :: _, _ :: _, ⟨⟨rfl, rfl⟩, w⟩ => ⟨by rw [w.flat.1]; rfl, by rw [List.flatten_cons, w.flat.2]; rfl⟩
  | [], [], _ :: _, w => w.elim
  | [], _ :: _, _, w => w.elim
  | _ :: _, [], _, w => w.elim
  | _ :: _, _ :: _, [], w => w.elim
theorem AllR.ofFlat {enc : α → List Cell} : ∀ (xs : List α), AllR (Fl enc) h (xs.map enc) xs (xs.map fun _ => [])
  | [] => trivial
  | _ :: r => ⟨⟨rfl, rfl⟩, AllR.ofFlat r⟩
variable {tag : Nat} {x : Cell} {xs : List α} {fp : List Nat}
theorem SlR.le (w : SlR tag R h x xs fp) : xs.length ≤ maxLen := w.1
theorem SlR.le2 (w : SlR tag R h x xs fp) : xs.length ≤ 9223372036854775807 := by have := w.1; unfold maxLen at this; omega
theorem SlR.lt (ok : RelOk R) (w : SlR tag R h x xs fp) : ∀ id, id ∈ fp → id < h.next := by
  rcases w with ⟨_, ⟨_, _, rfl⟩ | ⟨id, rows, fps, _, _, h1, rfl, h2⟩⟩
  · intro id hid; cases hid
  · intro i hi
    rcases List.mem_cons.1 hi with rfl | hi
    · exact h1
    · exact h2.lt ok i hi
theorem SlR.mv (ok : RelOk R) (w : SlR tag R h x xs fp) (hn : h.next ≤ h'.next) (hg : ∀ id, id ∈ fp → h'.get id = h.get id) : SlR tag R h' x xs fp := by
  rcases w with ⟨hl, ⟨h1, h2, rfl⟩ | ⟨id, rows, fps, h1, h2, h3, rfl, h4⟩⟩
  · exact ⟨hl, .inl ⟨h1, h2, rfl⟩⟩
  · exact ⟨hl, .inr ⟨id, rows, fps, h1, (hg id (by simp)).trans h2, Nat.lt_of_lt_of_le h3 hn, rfl, h4.mv ok hn fun i hi => hg i (by simp [hi])⟩⟩
theorem SlR.mono (ok : RelOk R) (w : SlR tag R h x xs fp) (hx : HExt h h') : SlR tag R h' x xs fp := w.mv ok hx.1 fun id hid => hx.2 id (w.lt ok id hid)
theorem RelOk.mono (ok : RelOk R) {cs : List Cell} {a : α} (w : R h cs a fp) (hx : HExt h h') : R h' cs a fp := ok.mv w hx.1 fun id hid => hx.2 id (ok.lt w id hid)
theorem SlR.len (w : SlR tag R h x xs fp) : lenR (some x) = some (.int .i64 (xs.length : Nat)) := by
  rcases w with ⟨_, ⟨rfl, rfl, _⟩ | ⟨id, rows, fps, rfl, _⟩⟩ <;> rfl
theorem SlR.idx (w : SlR tag R h x xs fp) {i : Nat} (hi : i < xs.length) : idxR tag (some x) (some (i : Int)) = some (.ptr x.sid i 0) := by
  rcases w with ⟨_, ⟨rfl, rfl, _⟩ | ⟨id, rows, fps, rfl, _⟩⟩
  · exact absurd hi (Nat.not_lt_zero _)
  · rw [idxR_s, if_pos (by omega)]; simp [Cell.sid]
theorem SlR.row (w : SlR tag R h x xs fp) {i : Nat} (hi : i < xs.length) : ∃ r f, rowOf h x.sid i = some r ∧ R h r xs[i] f ∧ ∀ id, id ∈ f → id ∈ fp := by
  rcases w with ⟨_, ⟨rfl, rfl, _⟩ | ⟨id, rows, fps, rfl, h1, _, rfl, h2⟩⟩
  · exact absurd hi (Nat.not_lt_zero _)
  · obtain ⟨r, f, q1, q2, q3⟩ := h2.at i hi
    refine ⟨r, f, by simp [rowOf, Cell.sid, h1, q1], q3, fun id hid => List.mem_cons_of_mem _ (List.mem_flatten.2 ⟨f, List.mem_of_getElem? q2, hid⟩)⟩
theorem SlR.flat {enc : α → List Cell} (w : SlR tag (Fl enc) h x xs fp) : (x = .nil ∧ xs = [] ∧ fp = []) ∨ x = .sl tag x.sid 0 xs.length ∧ h.get x.sid = some (xs.map enc) ∧ x.sid < h.next ∧ fp = [x.sid] := by
  rcases w with ⟨_, h0 | ⟨id, rows, fps, rfl, h1, h2, rfl, h3⟩⟩
  · exact .inl h0
  · obtain ⟨rfl, h4⟩ := h3.flat
    exact .inr ⟨rfl, h1, h2, by rw [h4]; rfl⟩
theorem SlR.ofFlat {enc : α → List Cell} (hl : xs.length ≤ maxLen) {id : Nat} (h1 : h.get id = some (xs.map enc)) (h2 : id < h.next) : SlR tag (Fl enc) h (.sl tag id 0 xs.length) xs [id] :=
  ⟨hl, .inr ⟨id, _, _, rfl, h1, h2, by simp, AllR.ofFlat xs⟩⟩
theorem SlR.nil (tag : Nat) (R : Rel α) (h : Heap) : SlR tag R h .nil [] [] := ⟨Nat.zero_le _, .inl ⟨rfl, rfl, rfl⟩⟩
theorem SlR.load {enc : α → List Cell} (w : SlR tag (Fl enc) h x xs fp) {i : Nat} (hi : i < xs.length) (j n : Nat) : loadP h x.sid i j n = cut? (enc xs[i]) j n := by
  obtain ⟨r, f, h1, ⟨rfl, _⟩, _⟩ := w.row hi
  simp [loadP, h1]
theorem SlR.loadD {enc : α → List Cell} (w : SlR tag (Fl enc) h x xs fp) (d : α) {i : Nat} (hi : i < xs.length) (j n : Nat) : loadP h x.sid i j n = cut? (enc (xs[i]?.getD d)) j n := by
  rw [w.load hi, List.getElem?_eq_getElem hi]; rfl
theorem SlR.rows {enc : α → List Cell} (w : SlR tag (Fl enc) h x xs fp) : rowsOf h x = some (xs.map enc) := by
  rcases w.flat with ⟨rfl, rfl, _⟩ | ⟨h1, h2, _⟩
  · rfl
  · rw [h1]; simp only [rowsOf]; rw [h2]; simp [List.take_of_length_le]
theorem SlR.isTag (w : SlR tag R h x xs fp) : A.isTag tag x = true := by
  rcases w with ⟨_, ⟨rfl, rfl, _⟩ | ⟨id, rows, fps, rfl, _⟩⟩ <;> simp [A.isTag]
theorem AllR.ofWf {A : α → Prop} {W : List Cell → Prop} (hr : ∀ r, W r → ∃ a f, R h r a f ∧ A a) : ∀ (rows : List (List Cell)), (∀ r, r ∈ rows → W r) → ∃ xs fps, AllR R h rows xs fps ∧ ∀ a, a ∈ xs → A a
  | [], _ => ⟨[], [], trivial, fun _ h => nomatch h⟩
  | r :: rs, w => by
    obtain ⟨a, f, h1, h2⟩ := hr r (w r (by simp))
    obtain ⟨as, fs, h3, h4⟩ := AllR.ofWf hr rs fun r hr => w r (by simp [hr])
    exact ⟨a :: as, f :: fs, ⟨h1, h3⟩, fun b hb => by (rcases List.mem_cons.1 hb with rfl | hb); exact h2; exact h4 b hb⟩
theorem SlR.ofWf {A : α → Prop} {n sz : Nat} {e : Sh} (hr : ∀ r, r.length = sz ∧ Wf h n e r → ∃ a f, R h r a f ∧ A a) (w : Wf h (n + 1) (.slice tag sz e) [x]) : ∃ xs fp, SlR tag R h x xs fp ∧ ∀ a, a ∈ xs → A a := by
  rcases w with w | ⟨id, rows, h1, h2, h3, h4, h5⟩
  · cases w; exact ⟨[], [], SlR.nil _ _ _, fun _ h => nomatch h⟩
  · cases h1
    obtain ⟨xs, fps, q1, q2⟩ := AllR.ofWf hr rows h5
    exact ⟨xs, _, ⟨q1.len ▸ h4, .inr ⟨id, rows, fps, by rw [q1.len], h3, h2, rfl, q1⟩⟩, q2⟩
end

/-! ### the heap -/
theorem push_put (h : Heap) (a b : List (List Cell)) : (h.push a).put h.next b = h.push b := by
  simp only [Heap.push, Heap.put]
  congr 1; funext i; split <;> rfl
theorem push_get (h : Heap) (a : List (List Cell)) : (h.push a).get h.next = some a := by simp [Heap.push]
theorem push_next (h : Heap) (a : List (List Cell)) : (h.push a).next = h.next + 1 := rfl
theorem push_floor (h : Heap) (a : List (List Cell)) : (h.push a).floor = h.floor := rfl
theorem put_put (h : Heap) (id : Nat) (a b : List (List Cell)) : (h.put id a).put id b = h.put id b := by
  simp only [Heap.put]
  congr 1; funext i; split <;> rfl
theorem push_kill (h : Heap) (a : List (List Cell)) : (h.push a).kill h.next = { h with next := h.next + 1, get := fun i => if i = h.next then none else h.get i } := by
  simp only [Heap.push, Heap.kill]
  congr 1; funext i; split <;> rfl

theorem storeP_push {h : Heap} {rows : List (List Cell)} (hf : h.floor ≤ h.next) {i : Nat} {old new : List Cell} (h1 : rows[i]? = some old) (h2 : new.length = old.length) : storeP (h.push rows) h.next i 0 new = some (h.push (rows.set i new)) := by
  simp only [storeP, push_floor, push_get]
  rw [if_pos hf]
  simp only [Option.bind_some, h1, splice?, List.take_zero, List.nil_append, Nat.zero_add]
  rw [if_pos (by omega), h2, List.drop_length]
  simp only [List.append_nil, Option.bind_some, push_put]
/-- A store into a row that may be written. -/
theorem storeP_at {h : Heap} {id : Nat} {rows : List (List Cell)} (hf : h.floor ≤ id) (hr : h.get id = some rows) {i j : Nat} {old new r : List Cell} (h1 : rows[i]? = some old) (h2 : splice? old j new = some r) : storeP h id i j new = some (h.put id (rows.set i r)) := by
  simp only [storeP]
  rw [if_pos hf, hr]
  simp only [Option.bind_some, h1, h2]
theorem HExt.fl {h h' : Heap} (hx : HExt h h') (hf : h'.floor = h.floor) (h0 : h.floor ≤ h.next) : h'.floor ≤ h'.next := by rw [hf]; exact Nat.le_trans h0 hx.1

/-- The heap goes on: what was there is there. -/
structure On (h h' : Heap) : Prop where
  ext : HExt h h'
  fl : h'.floor = h.floor
theorem On.refl (h : Heap) : On h h := ⟨HExt.refl h, rfl⟩
theorem On.trans {a b c : Heap} (p : On a b) (q : On b c) : On a c := ⟨p.ext.trans q.ext, q.fl.trans p.fl⟩
theorem On.push (h : Heap) (rows : List (List Cell)) : On h (h.push rows) := ⟨HExt.push h rows, rfl⟩
theorem On.le {h h' : Heap} (o : On h h') (hf : h.floor ≤ h.next) : h'.floor ≤ h'.next := o.ext.fl o.fl hf
/-- Rows that were made behind h, each named once. -/
structure Fre (h : Heap) (fp : List Nat) : Prop where
  lo : ∀ id, id ∈ fp → h.next ≤ id
  nd : fp.Nodup
theorem Fre.one (h : Heap) : Fre h [h.next] := ⟨fun id hid => by simp at hid; omega, by simp⟩
theorem Fre.nil (h : Heap) : Fre h [] := ⟨fun id hid => (nomatch hid), List.nodup_nil⟩
theorem RelOk.on {α : Type} {R : Rel α} (ok : RelOk R) {h h' : Heap} {cs : List Cell} {a : α} {fp : List Nat} (w : R h cs a fp) (o : On h h') : R h' cs a fp := ok.mono w o.ext
theorem SlR.on {α : Type} {R : Rel α} {tag : Nat} {h h' : Heap} {x : Cell} {xs : List α} {fp : List Nat} (w : SlR tag R h x xs fp) (ok : RelOk R) (o : On h h') : SlR tag R h' x xs fp := w.mono ok o.ext

/-! ### rows that are filled one by one -/
def fillR {α : Type} (f : α → List Cell) (z : List Cell) (xs : List α) (i : Nat) : List (List Cell) := (xs.take i).map f ++ List.replicate (xs.length - i) z
theorem fillR_0 {α : Type} (f : α → List Cell) (z : List Cell) (xs : List α) : fillR f z xs 0 = List.replicate xs.length z := by simp [fillR]
theorem fillR_n {α : Type} (f : α → List Cell) (z : List Cell) (xs : List α) : fillR f z xs xs.length = xs.map f := by simp [fillR]
theorem fillR_get {α : Type} (f : α → List Cell) (z : List Cell) (xs : List α) {i : Nat} (hi : i < xs.length) : (fillR f z xs i)[i]? = some z := by
  simp only [fillR]
  rw [List.getElem?_append_right (by simp; omega)]
  rw [List.getElem?_replicate, if_pos]
  simp only [List.length_map, List.length_take]; omega
theorem fillR_set {α : Type} (f : α → List Cell) (z : List Cell) (xs : List α) {i : Nat} (hi : i < xs.length) : (fillR f z xs i).set i (f xs[i]) = fillR f z xs (i + 1) := by
  simp only [fillR]
  rw [List.set_append_right _ _ (by simp; omega), show i - ((xs.take i).map f).length = 0 from by simp; omega, show xs.length - i = (xs.length - (i + 1)) + 1 from by omega, List.replicate_succ, List.set_cons_zero,
    show xs.take (i + 1) = xs.take i ++ [xs[i]] from by rw [List.take_add_one, List.getElem?_eq_getElem hi]; rfl, List.map_append, List.append_assoc]
  rfl

/-! ### rows that are turned one by one, in place -/
def putM (h : Heap) (id : Nat) (rows : List (List Cell)) (i : Nat) : Option (List Cell) → Option Heap
  | some r => some (h.put id (rows.set i r))
  | none => none
theorem putM_s (h : Heap) (id : Nat) (rows : List (List Cell)) (i : Nat) (r : List Cell) : putM h id rows i (some r) = some (h.put id (rows.set i r)) := rfl
theorem storeP_put {h : Heap} {id : Nat} (hf : h.floor ≤ id) {rows : List (List Cell)} {i : Nat} (hi : i < rows.length) (old new : List Cell) (j : Nat) : storeP (h.put id (rows.set i old)) id i j new = putM h id rows i (splice? old j new) := by
  have hf' : (h.put id (rows.set i old)).floor ≤ id := hf
  have hg : (h.put id (rows.set i old)).get id = some (rows.set i old) := by simp [Heap.put]
  simp only [storeP]
  rw [if_pos hf', hg]
  simp only [Option.bind_some, List.getElem?_set_self hi]
  cases splice? old j new with
  | none => rfl
  | some r => simp only [Option.bind_some, List.set_set, put_put, putM]
theorem put_same {h : Heap} {id : Nat} {rows : List (List Cell)} (hr : h.get id = some rows) : h.put id rows = h := by
  obtain ⟨a, b, g⟩ := h
  simp only [Heap.put]
  congr 1; funext i; split
  · rename_i he; subst he; exact hr.symm
  · rfl
def mixR {α : Type} (f : α → List Cell) (ms xs : List α) (i : Nat) : List (List Cell) := (ms.take i).map f ++ (xs.drop i).map f
theorem mixR_0 {α : Type} (f : α → List Cell) (ms xs : List α) : mixR f ms xs 0 = xs.map f := by simp [mixR]
theorem mixR_n {α : Type} (f : α → List Cell) {ms xs : List α} (hl : ms.length = xs.length) : mixR f ms xs xs.length = ms.map f := by simp [mixR, ← hl]
theorem mixR_len {α : Type} (f : α → List Cell) {ms xs : List α} (hl : ms.length = xs.length) (i : Nat) : (mixR f ms xs i).length = xs.length := by simp [mixR]; omega
theorem mixR_split {α : Type} (f : α → List Cell) {ms xs : List α} (hl : ms.length = xs.length) {i : Nat} (hi : i < xs.length) (c : List Cell) : (mixR f ms xs i).set i c = (ms.take i).map f ++ c :: (xs.drop (i + 1)).map f := by
  simp only [mixR]
  rw [List.set_append_right _ _ (by simp; omega), show i - ((ms.take i).map f).length = 0 from by simp; omega, List.drop_eq_getElem_cons hi, List.map_cons, List.set_cons_zero]
theorem mixR_cur {α : Type} (f : α → List Cell) {ms xs : List α} (hl : ms.length = xs.length) {i : Nat} (hi : i < xs.length) : (mixR f ms xs i).set i (f xs[i]) = mixR f ms xs i := by
  rw [mixR_split f hl hi, mixR, List.drop_eq_getElem_cons hi]; rfl
theorem mixR_set {α : Type} (f : α → List Cell) {ms xs : List α} (hl : ms.length = xs.length) {i : Nat} (hi : i < xs.length) : (mixR f ms xs i).set i (f (ms[i]'(by omega))) = mixR f ms xs (i + 1) := by
  have hi' : i < ms.length := by omega
  rw [mixR_split f hl hi, mixR, show ms.take (i + 1) = ms.take i ++ [ms[i]] from by rw [List.take_add_one, List.getElem?_eq_getElem hi']; rfl, List.map_append, List.append_assoc]
  rfl
/-- Only these rows have turned. -/
structure Mk (h h' : Heap) (fp : List Nat) : Prop where
  next : h'.next = h.next
  fl : h'.floor = h.floor
  get : ∀ id, id ∉ fp → h'.get id = h.get id
theorem Mk.refl (h : Heap) (fp : List Nat) : Mk h h fp := ⟨rfl, rfl, fun _ _ => rfl⟩
theorem Mk.put (h : Heap) (id : Nat) (rows : List (List Cell)) : Mk h (h.put id rows) [id] := ⟨rfl, rfl, fun k hk => by simp only [Heap.put]; rw [if_neg (by simpa using hk)]⟩
theorem RelOk.mk' {α : Type} {R : Rel α} (ok : RelOk R) {h h' : Heap} {cs : List Cell} {a : α} {fp fq : List Nat} (w : R h cs a fp) (m : Mk h h' fq) (hd : ∀ id, id ∈ fp → id ∉ fq) : R h' cs a fp := ok.mv w (by rw [m.next]; exact Nat.le_refl _) fun id hid => m.get id (hd id hid)
theorem SlR.mk {α : Type} {R : Rel α} {tag : Nat} {h h' : Heap} {x : Cell} {xs : List α} {fp fq : List Nat} (w : SlR tag R h x xs fp) (ok : RelOk R) (m : Mk h h' fq) (hd : ∀ id, id ∈ fp → id ∉ fq) : SlR tag R h' x xs fp := w.mv ok (by rw [m.next]; exact Nat.le_refl _) fun id hid => m.get id (hd id hid)

/-! ### what integers may be -/
theorem wfU {x : Int} (h : (Lit.int .u64 x).wf = true) : 0 ≤ x ∧ x ≤ 18446744073709551615 := by
  simp only [Lit.wf, Bool.and_eq_true, decide_eq_true_eq] at h; exact h
theorem wfI {x : Int} (h : (Lit.int .i64 x).wf = true) : -9223372036854775808 ≤ x ∧ x ≤ 9223372036854775807 := by
  simp only [Lit.wf, Bool.and_eq_true, decide_eq_true_eq] at h; exact h
theorem wrapI1 (z : Int) (h1 : 0 ≤ z) (h2 : z ≤ 4611686018427387904) : IntKind.i64.wrap (z + 1) = z + 1 := wrapI _ (by omega) (by omega)
theorem wrapU1 (z : Int) (h1 : 0 ≤ z) (h2 : z ≤ 4611686018427387904) : IntKind.u64.wrap z = z := wrapU _ (by omega) (by omega)
theorem wrapII (z : Int) (h1 : 0 ≤ z) (h2 : z ≤ 4611686018427387904) : IntKind.i64.wrap z = z := wrapI _ (by omega) (by omega)
theorem b_rem (k : IntKind) (a b : Int) (h : b ≠ 0) : binF .rem (.int k a) (.int k b) = some (.int k (a.tmod b)) := by simp [binF, h]
theorem b_quo (k : IntKind) (a b : Int) (h : b ≠ 0) : binF .quo (.int k a) (.int k b) = some (.int k (k.wrap (a.tdiv b))) := by simp [binF, h]

/-! ### loops -/
/-- One turn goes on, or returns. -/
def Turn (r next : Option (Ex × St)) (p : Bool) (Q : St → Prop) : Prop := (p = true ∧ r = next) ∨ (p = false ∧ ∃ s, r = some (.ret, s) ∧ Q s)
section
variable {F : Nat → Option RF} {Z : CallF} {live : List Nat} {b : RC}
theorem loop_allN (n : Nat) (st : Nat → St) (P : Nat → Bool) (Q : St → Prop) (hs : ∀ i, i < n → Turn (loop F Z live b (st i)) (loop F Z live b (st (i + 1))) (P i) Q) :
    Turn (loop F Z live b (st 0)) (loop F Z live b (st n)) ((List.range n).all P) Q := by
  induction n with
  | zero => exact .inl ⟨rfl, rfl⟩
  | succ n ih =>
    have hl : (List.range (n + 1)).all P = ((List.range n).all P && P n) := by rw [List.range_succ, List.all_append]; simp
    rcases ih fun i hi => hs i (by omega) with ⟨h1, h2⟩ | ⟨h1, h2⟩
    · rcases hs n (by omega) with ⟨h3, h4⟩ | ⟨h3, s, h4, h5⟩
      · exact .inl ⟨by rw [hl, h1, h3]; rfl, h2.trans h4⟩
      · exact .inr ⟨by rw [hl, h1, h3]; rfl, s, h2.trans h4, h5⟩
    · exact .inr ⟨by rw [hl, h1]; rfl, h2⟩
theorem loop_all {α : Type} (xs : List α) (st : Nat → St) (P : α → Bool) (Q : St → Prop) (hs : ∀ i (hi : i < xs.length), Turn (loop F Z live b (st i)) (loop F Z live b (st (i + 1))) (P xs[i]) Q) :
    Turn (loop F Z live b (st 0)) (loop F Z live b (st xs.length)) (xs.all P) Q := by
  have he : xs.all P = (List.range xs.length).all (fun i => (xs[i]?).all P) := by
    rw [Bool.eq_iff_iff, List.all_eq_true, List.all_eq_true]
    constructor
    · intro h i hi
      have hi' : i < xs.length := by simpa using hi
      rw [List.getElem?_eq_getElem hi']
      exact h _ (List.getElem_mem hi')
    · intro h a ha
      obtain ⟨i, hi, rfl⟩ := List.mem_iff_getElem.1 ha
      have := h i (by simpa using hi)
      rwa [List.getElem?_eq_getElem hi] at this
  rw [he]
  exact loop_allN _ _ _ _ fun i hi => by rw [List.getElem?_eq_getElem hi]; exact hs i hi
theorem all_same {α : Type} [DecidableEq α] {xs ys : List α} (he : xs.length = ys.length) : (List.range xs.length).all (fun i => decide (xs[i]? = ys[i]?)) = decide (xs = ys) := by
  rw [Bool.eq_iff_iff, List.all_eq_true, decide_eq_true_eq]
  constructor
  · intro hall
    apply List.ext_getElem? 
    intro i
    by_cases hi : i < xs.length
    · simpa using hall i (by simpa using hi)
    · rw [List.getElem?_eq_none (by omega), List.getElem?_eq_none (by omega)]
  · rintro rfl i _; simp
/-- A loop of so many turns, none of which leaves. -/
theorem loop_goes (n : Nat) (I : Nat → St → Prop) (hs : ∀ i s, i < n → I i s → ∃ s', I (i + 1) s' ∧ loop F Z live b s = loop F Z live b s') {s : St} (h0 : I 0 s) : ∃ s', I n s' ∧ loop F Z live b s = loop F Z live b s' := by
  induction n with
  | zero => exact ⟨s, h0, rfl⟩
  | succ n ih =>
    obtain ⟨s1, h1, h2⟩ := ih fun i s hi => hs i s (by omega)
    obtain ⟨s2, h3, h4⟩ := hs n s1 (by omega) h1
    exact ⟨s2, h3, h2.trans h4⟩
theorem loop_goesF (n : Nat) (st : Nat → St) (hs : ∀ i, i < n → loop F Z live b (st i) = loop F Z live b (st (i + 1))) : loop F Z live b (st 0) = loop F Z live b (st n) := by
  induction n with
  | zero => rfl
  | succ n ih => exact (ih fun i hi => hs i (by omega)).trans (hs n (by omega))
end
end Go.Proofs.Ytgogajbfiocdbaa.A
