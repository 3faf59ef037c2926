/- Slices that are built by appending: raw rows, made behind a heap. -/
import Derived.Test.YtgogajbfiocdbaaS1
namespace Go.Proofs.Ytgogajbfiocdbaa.A
open Go
set_option linter.unusedSimpArgs false
set_option linter.unusedVariables false

/-- A cell shows rows that were made behind h0. -/
structure Acc (tag : Nat) (h0 h : Heap) (x : Cell) (rows : List (List Cell)) : Prop where
  on : On h0 h
  sh : ∃ fp, SlR tag (Fl fun r => r) h x rows fp ∧ Fre h0 fp
/-- What append answers, and the heap behind it. -/
def catX (tag : Nat) (h : Heap) (x : Cell) (n : Nat) : Cell := match x with
  | .sl _ _ _ m => .sl tag h.next 0 (m + n)
  | _ => if n = 0 then .nil else .sl tag h.next 0 n
def catH (h : Heap) (x : Cell) (new : List (List Cell)) : Heap := match x with
  | .sl _ id _ _ => (h.kill id).push (((h.get id).getD []) ++ new)
  | _ => if new.length = 0 then h else h.push new
theorem Fre.app {h h1 : Heap} {p q : List Nat} (f : Fre h p) (hl : ∀ id, id ∈ p → id < h1.next) (f1 : Fre h1 q) (hn : h.next ≤ h1.next) : Fre h (p ++ q) :=
  ⟨fun id hid => by
    rcases List.mem_append.1 hid with hid | hid
    · exact f.lo id hid
    · have := f1.lo id hid
      omega, List.nodup_append.2 ⟨f.nd, f1.nd, fun a ha b hb => by
        have := hl a ha
        have := f1.lo b hb
        omega⟩⟩
section
variable {tag : Nat} {h0 h : Heap} {x y : Cell} {rows new : List (List Cell)}
theorem Acc.nil (tag : Nat) (h : Heap) : Acc tag h h .nil [] := ⟨On.refl h, [], SlR.nil _ _ _, Fre.nil h⟩
theorem Acc.none (o : On h0 h) : Acc tag h0 h .nil [] := ⟨o, [], SlR.nil _ _ _, Fre.nil h0⟩
theorem Fre.at {h0 h : Heap} (hn : h0.next ≤ h.next) : Fre h0 [h.next] := ⟨fun id hid => by simp at hid; omega, by simp⟩
theorem Acc.lit (o : On h0 h) (rows : List (List Cell)) (hl : rows.length ≤ 140737488355328) : Acc tag h0 (h.push rows) (.sl tag h.next 0 rows.length) rows :=
  ⟨o.trans (On.push h rows), [h.next], SlR.ofFlat (enc := fun r => r) (by unfold maxLen; omega) (by rw [push_get]; simp) (by rw [push_next]; omega), Fre.at o.ext.1⟩
theorem Acc.lit0 (o : On h0 h) : Acc tag h0 (h.push []) (.sl tag h.next 0 0) [] := Acc.lit o [] (by simp)
theorem Acc.push (a : Acc tag h0 h x rows) (r : List (List Cell)) : Acc tag h0 (h.push r) x rows := by
  obtain ⟨o, fp, w, f⟩ := a
  exact ⟨o.trans (On.push h r), fp, w.on (Fl.ok _) (On.push h r), f⟩
theorem Acc.go {h' : Heap} (a : Acc tag h0 h x rows) (o' : On h h') : Acc tag h0 h' x rows := by
  obtain ⟨o, fp, w, f⟩ := a
  exact ⟨o.trans o', fp, w.on (Fl.ok _) o', f⟩
theorem Acc.cat_eq (a : Acc tag h0 h x rows) (hf : h0.floor ≤ h0.next) {bytes : Nat} (hy : A.isTag tag y = true) (hr : rowsOf h y = some new) (hb : (rows.length + new.length) * bytes ≤ 140737488355328) :
    appF h tag bytes x y = some (catX tag h x new.length, catH h x new) := by
  obtain ⟨o, fp, w, f⟩ := a
  rw [appF, if_pos hy, hr]
  simp only [Option.bind_some]
  rcases w.flat with ⟨rfl, rfl, rfl⟩ | ⟨hx, hg, hn, rfl⟩
  · simp only [List.length_nil, Nat.zero_add] at hb
    simp only [catX, catH]
    split
    · rfl
    · simp [hb]
  · have hfl : h.floor ≤ x.sid := by rw [o.fl]; exact Nat.le_trans hf (f.lo _ (by simp))
    rw [hx]
    simp only [Cell.sid, catX, catH] at hg hfl hb ⊢
    simp only [hg, Option.bind_some, List.length_map]
    simp [hfl, hb]
theorem Acc.cat (a : Acc tag h0 h x rows) (hf : h0.floor ≤ h0.next) (hl : rows.length + new.length ≤ 140737488355328) : Acc tag h0 (catH h x new) (catX tag h x new.length) (rows ++ new) := by
  obtain ⟨o, fp, w, f⟩ := a
  rcases w.flat with ⟨rfl, rfl, rfl⟩ | ⟨hx, hg, hn, rfl⟩
  · simp only [catX, catH]
    split
    · rename_i h0'
      have : new = [] := List.eq_nil_of_length_eq_zero h0'
      subst this
      exact Acc.none o
    · simp only [List.nil_append]
      exact Acc.lit o new (by simp at hl; omega)
  · have hlo : h0.next ≤ x.sid := f.lo _ (by simp)
    have o1 : On h0 (h.kill x.sid) := ⟨⟨o.ext.1, fun id hid => by
      simp only [Heap.kill]
      rw [if_neg (by omega)]
      exact o.ext.2 id hid⟩, o.fl⟩
    rw [hx] at o1 ⊢
    simp only [Cell.sid, catX, catH] at hg o1 ⊢
    simp only [hg, Option.getD_some, List.map_id_fun', id]
    have := Acc.lit (tag := tag) o1 (rows ++ new) (by simpa using hl)
    rw [List.length_append] at this
    exact this
/-- One element, laid and appended. -/
theorem Acc.one_eq (a : Acc tag h0 h x rows) (hf : h0.floor ≤ h0.next) {bytes : Nat} (hb : (rows.length + 1) * bytes ≤ 140737488355328) (row : List Cell) :
    appF (h.push [row]) tag bytes x (.sl tag h.next 0 1) = some (catX tag (h.push [row]) x 1, catH (h.push [row]) x [row]) :=
  (a.push [row]).cat_eq (y := .sl tag h.next 0 1) (new := [row]) hf (by simp [A.isTag]) (by simp [rowsOf, push_get]) hb
theorem Acc.one (a : Acc tag h0 h x rows) (hf : h0.floor ≤ h0.next) (hl : rows.length + 1 ≤ 140737488355328) (row : List Cell) : Acc tag h0 (catH (h.push [row]) x [row]) (catX tag (h.push [row]) x 1) (rows ++ [row]) :=
  (a.push [row]).cat hf (new := [row]) hl
theorem SlR.ofRaw {α : Type} {enc : α → List Cell} {xs : List α} {fp : List Nat} (w : SlR tag (Fl fun r => r) h x (xs.map enc) fp) : SlR tag (Fl enc) h x xs fp := by
  have hl := w.le
  rw [List.length_map] at hl
  rcases w.flat with ⟨rfl, h2, rfl⟩ | ⟨hx, hg, hn, rfl⟩
  · have : xs = [] := List.map_eq_nil_iff.1 h2
    subst this
    exact SlR.nil _ _ _
  · rw [List.length_map] at hx
    rw [hx]
    exact SlR.ofFlat hl (by rw [hg]; simp) hn
theorem Acc.flat {α : Type} {enc : α → List Cell} {xs : List α} (a : Acc tag h0 h x (xs.map enc)) : On h0 h ∧ ∃ fp, SlR tag (Fl enc) h x xs fp ∧ Fre h0 fp := by
  obtain ⟨o, fp, w, f⟩ := a
  exact ⟨o, fp, w.ofRaw, f⟩
end
end Go.Proofs.Ytgogajbfiocdbaa.A
