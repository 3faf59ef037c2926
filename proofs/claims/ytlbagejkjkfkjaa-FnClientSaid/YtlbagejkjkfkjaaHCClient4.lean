/- The functions that the statement reaches, part 4: bodies and what they compute. No condition. -/
import Derived.Test.YtlbagejkjkfkjaaHCClient3
import Derived.Test.YtlbagejkjkfkjaaD
/- A client hears a reply: by the program and by the reference. -/
namespace Go.Proofs.Ytlbagejkjkfkjaa.A
open Go
set_option linter.unusedSimpArgs false
set_option linter.unusedVariables false
section
variable {F : Nat → Option RF} {Z : CallF} {h : Heap} {cs ds : List Cell} {c : Client} {r : Reply} {fp fq : List Nat}
set_option maxHeartbeats 4000000 in
theorem ClientHear_c (hI11 : Has F tI11) (hI12 : Has F tI12) (hI16 : Has F tI16) (hLi : Has F tLibslicesIndexFuncimplRangeimplRange) (hf : h.floor ≤ h.next) (v : Client.RI h cs c fp) (u : Reply.RI h ds r fq) (ok : c.Ok) (sm : c.Small) (okr : r.Ok) (smr : r.Small) :
    ∃ cs' h' fq, call F Z 176 [.agg cs, .agg ds] h = some (.tup [.agg cs', .c (.int .i64 (clientHear c r).2)], h') ∧ On h h' ∧ Client.RI h' cs' (clientHear c r).1 fq ∧ Fre h fq := by
  obtain ⟨_, h1, _, e1, o1, ⟨y, q, rfl, rfl, u1⟩, f⟩ := copyClient_c (Z := Z) hI12 hI16 hf v sm
  have f1 := o1.le hf
  have st : ∀ old new : List Cell, old.length = 14 → new.length = 14 → storeP (h1.push [old]) h1.next 0 0 new = some (h1.push [new]) := fun old new q1 q2 => storeP_push (rows := [old]) (i := 0) f1 rfl (by omega)
  have op : On h1 (h1.push [c.cells y]) := On.push _ _
  obtain ⟨h2, e2, o2⟩ := isClient_run (Z := Z) (h := h1.push [c.cells y]) hI11 hI12 hI16 hLi (Client.okI.on v (o1.trans op)) ok.chart
  have o02 := (o1.trans op).trans o2
  obtain ⟨xr, pr, rfl, rfl, wr⟩ := u
  have vr : Chart.RI h [.int .i64 r.chart.epoch, xr, .bool r.chart.moving, .int .u64 r.chart.lo, .int .i64 r.chart.to] r.chart _ := ⟨xr, _, rfl, rfl, wr⟩
  obtain ⟨h3, e3, o3⟩ := isChart_run (Z := Z) hI11 hI12 hLi (Chart.okI.on vr o02) okr.chart
  have hg2 : h2.get h1.next = some [c.cells y] := by
    rw [o2.ext.2 _ (by rw [push_next]; omega)]; exact push_get _ _
  have lt2 : h1.next < h2.next := by have := o2.ext.1; rw [push_next] at this; omega
  have hg3 : h3.get h1.next = some [c.cells y] := by rw [o3.ext.2 _ lt2]; exact hg2
  have lg2 := fun j n => loadP_get1 hg2 j n
  have o03 := o02.trans o3
  have o13 := (op.trans o2).trans o3
  have h1n := o1.ext.1
  have hw8 : inR r.code 8 10 = true → (r.code == 8) = true ∨ ((r.code == 8) = false ∧ (r.code == 9) = true) ∨ ((r.code == 8) = false ∧ (r.code == 9) = false ∧ (r.code == 10) = true) := fun hi => by
    simp only [inR, Bool.and_eq_true, decide_eq_true_eq] at hi
    rcases (by omega : r.code = 8 ∨ r.code = 9 ∨ r.code = 10) with q | q | q <;> simp [q]
  have hn8 : inR r.code 8 10 = false → (r.code == 8) = false ∧ (r.code == 9) = false ∧ (r.code == 10) = false := fun hi => by
    have hi' : ¬ (8 ≤ r.code ∧ r.code ≤ 10) := fun hc => by simp [inR, hc.1, hc.2] at hi
    refine ⟨?_, ?_, ?_⟩ <;> simp <;> omega
  obtain ⟨x, p, rfl, rfl, w⟩ := v
  simp only [Client.cells] at *
  rw [call_run F Z (hI16.lk (g := 176) rfl) _ _ rfl]
  cases hgd : c.good with
  | false =>
    rw [hgd] at e2
    rw [hear_bad hgd]
    simp only [run0, run1, run2, run3, run4, noSlot, ownS, ownK, memN, RO.dst, lk, drop, forget, number, Nat.reduceBEq, cut?, splice?, builds, List.length_cons, List.length_nil, List.drop_succ_cons, List.drop_zero, List.take_succ_cons, List.take_zero, List.cons_append, List.nil_append, List.append_nil, List.drop_nil, List.take_nil, Nat.reduceAdd, Nat.reduceLeDiff, Nat.zero_add, Nat.add_zero, ↓reduceIte, Bool.not_true, Bool.not_false, decide_true, decide_false, eq_self, bne_self_eq_false, List.getElem?_cons_zero, List.getElem?_cons_succ, decide_eq_true_eq, Bool.false_eq_true, Bool.true_eq_false, reduceCtorEq, Nat.le_refl, e1, st, e2, lg2]
    exact ⟨_, _, _, rfl, o02, ⟨y, _, rfl, rfl, u1.on (Fl.ok _) (op.trans o2)⟩, f⟩
  | true =>
    rw [hgd] at e2
    cases hrg : r.chart.good with
    | false =>
      rw [hrg] at e3
      have hD : c.takes r = c := by simp [Client.takes, hrg]
      have hgT : h3.get h1.next = some [c.cells y] := hg3
      have hfT : h3.floor ≤ h1.next := by rw [o03.fl]; exact Nat.le_trans hf h1n
      have es := stop_run (Z := Z) (c := c) hI16 hfT hgT
      have lgT := fun j n => loadP_get1 hgT j n
      simp only [Client.cells] at lgT es
      by_cases hb : c.busy = true
      case neg =>
        replace hb : c.busy = false := by simpa using hb
        have hnb : (!c.busy) = true := by simp [hb]
        have hoff : c.off r = true := by simp [Client.off, hb]
        rw [hear_off hgd hoff, hD]
        cases a1 : (r.client != c.id) <;> (simp only [run0, run1, run2, run3, run4, noSlot, ownS, ownK, memN, RO.dst, lk, drop, forget, number, Nat.reduceBEq, cut?, splice?, builds, List.length_cons, List.length_nil, List.drop_succ_cons, List.drop_zero, List.take_succ_cons, List.take_zero, List.cons_append, List.nil_append, List.append_nil, List.drop_nil, List.take_nil, Nat.reduceAdd, Nat.reduceLeDiff, Nat.zero_add, Nat.add_zero, ↓reduceIte, Bool.not_true, Bool.not_false, decide_true, decide_false, eq_self, bne_self_eq_false, List.getElem?_cons_zero, List.getElem?_cons_succ, decide_eq_true_eq, Bool.false_eq_true, Bool.true_eq_false, reduceCtorEq, Nat.le_refl, e1, st, e2, lg2, e3, hnb, a1, hgd, lgT]; exact ⟨_, _, _, rfl, o03, ⟨y, _, rfl, rfl, u1.on (Fl.ok _) o13⟩, f⟩)
      case pos =>
        have hnb : (!c.busy) = false := by simp [hb]
        cases a1 : (r.client != c.id) with
        | true =>
          have hoff : c.off r = true := by simp [Client.off, a1]
          rw [hear_off hgd hoff, hD]
          simp only [run0, run1, run2, run3, run4, noSlot, ownS, ownK, memN, RO.dst, lk, drop, forget, number, Nat.reduceBEq, cut?, splice?, builds, List.length_cons, List.length_nil, List.drop_succ_cons, List.drop_zero, List.take_succ_cons, List.take_zero, List.cons_append, List.nil_append, List.append_nil, List.drop_nil, List.take_nil, Nat.reduceAdd, Nat.reduceLeDiff, Nat.zero_add, Nat.add_zero, ↓reduceIte, Bool.not_true, Bool.not_false, decide_true, decide_false, eq_self, bne_self_eq_false, List.getElem?_cons_zero, List.getElem?_cons_succ, decide_eq_true_eq, Bool.false_eq_true, Bool.true_eq_false, reduceCtorEq, Nat.le_refl, e1, st, e2, lg2, e3, hnb, a1, hgd, lgT]
          exact ⟨_, _, _, rfl, o03, ⟨y, _, rfl, rfl, u1.on (Fl.ok _) o13⟩, f⟩
        | false =>
          cases a2 : (r.seq != c.seq) with
          | true =>
            have hoff : c.off r = true := by simp [Client.off, a2]
            rw [hear_off hgd hoff, hD]
            simp only [run0, run1, run2, run3, run4, noSlot, ownS, ownK, memN, RO.dst, lk, drop, forget, number, Nat.reduceBEq, cut?, splice?, builds, List.length_cons, List.length_nil, List.drop_succ_cons, List.drop_zero, List.take_succ_cons, List.take_zero, List.cons_append, List.nil_append, List.append_nil, List.drop_nil, List.take_nil, Nat.reduceAdd, Nat.reduceLeDiff, Nat.zero_add, Nat.add_zero, ↓reduceIte, Bool.not_true, Bool.not_false, decide_true, decide_false, eq_self, bne_self_eq_false, List.getElem?_cons_zero, List.getElem?_cons_succ, decide_eq_true_eq, Bool.false_eq_true, Bool.true_eq_false, reduceCtorEq, Nat.le_refl, e1, st, e2, lg2, e3, hnb, a1, a2, hgd, lgT]
            exact ⟨_, _, _, rfl, o03, ⟨y, _, rfl, rfl, u1.on (Fl.ok _) o13⟩, f⟩
          | false =>
            have hoff : c.off r = false := by simp [Client.off, a1, a2, hb]
            cases hi : inR r.code 8 10 with
            | true =>
              rw [hear_again hgd hoff hi, hD]
              rcases hw8 hi with k1 | ⟨k1, k2⟩ | ⟨k1, k2, k3⟩
              · simp only [run0, run1, run2, run3, run4, noSlot, ownS, ownK, memN, RO.dst, lk, drop, forget, number, Nat.reduceBEq, cut?, splice?, builds, List.length_cons, List.length_nil, List.drop_succ_cons, List.drop_zero, List.take_succ_cons, List.take_zero, List.cons_append, List.nil_append, List.append_nil, List.drop_nil, List.take_nil, Nat.reduceAdd, Nat.reduceLeDiff, Nat.zero_add, Nat.add_zero, ↓reduceIte, Bool.not_true, Bool.not_false, decide_true, decide_false, eq_self, bne_self_eq_false, List.getElem?_cons_zero, List.getElem?_cons_succ, decide_eq_true_eq, Bool.false_eq_true, Bool.true_eq_false, reduceCtorEq, Nat.le_refl, e1, st, e2, lg2, e3, hnb, a1, a2, hgd, lgT, k1]
                exact ⟨_, _, _, rfl, o03, ⟨y, _, rfl, rfl, u1.on (Fl.ok _) o13⟩, f⟩
              · simp only [run0, run1, run2, run3, run4, noSlot, ownS, ownK, memN, RO.dst, lk, drop, forget, number, Nat.reduceBEq, cut?, splice?, builds, List.length_cons, List.length_nil, List.drop_succ_cons, List.drop_zero, List.take_succ_cons, List.take_zero, List.cons_append, List.nil_append, List.append_nil, List.drop_nil, List.take_nil, Nat.reduceAdd, Nat.reduceLeDiff, Nat.zero_add, Nat.add_zero, ↓reduceIte, Bool.not_true, Bool.not_false, decide_true, decide_false, eq_self, bne_self_eq_false, List.getElem?_cons_zero, List.getElem?_cons_succ, decide_eq_true_eq, Bool.false_eq_true, Bool.true_eq_false, reduceCtorEq, Nat.le_refl, e1, st, e2, lg2, e3, hnb, a1, a2, hgd, lgT, k1, k2]
                exact ⟨_, _, _, rfl, o03, ⟨y, _, rfl, rfl, u1.on (Fl.ok _) o13⟩, f⟩
              · simp only [run0, run1, run2, run3, run4, noSlot, ownS, ownK, memN, RO.dst, lk, drop, forget, number, Nat.reduceBEq, cut?, splice?, builds, List.length_cons, List.length_nil, List.drop_succ_cons, List.drop_zero, List.take_succ_cons, List.take_zero, List.cons_append, List.nil_append, List.append_nil, List.drop_nil, List.take_nil, Nat.reduceAdd, Nat.reduceLeDiff, Nat.zero_add, Nat.add_zero, ↓reduceIte, Bool.not_true, Bool.not_false, decide_true, decide_false, eq_self, bne_self_eq_false, List.getElem?_cons_zero, List.getElem?_cons_succ, decide_eq_true_eq, Bool.false_eq_true, Bool.true_eq_false, reduceCtorEq, Nat.le_refl, e1, st, e2, lg2, e3, hnb, a1, a2, hgd, lgT, k1, k2, k3]
                exact ⟨_, _, _, rfl, o03, ⟨y, _, rfl, rfl, u1.on (Fl.ok _) o13⟩, f⟩
            | false =>
              obtain ⟨k1, k2, k3⟩ := hn8 hi
              by_cases k4 : r.code < 0
              · rw [hear_err hgd hoff hi k4, hD]
                simp only [run0, run1, run2, run3, run4, noSlot, ownS, ownK, memN, RO.dst, lk, drop, forget, number, Nat.reduceBEq, cut?, splice?, builds, List.length_cons, List.length_nil, List.drop_succ_cons, List.drop_zero, List.take_succ_cons, List.take_zero, List.cons_append, List.nil_append, List.append_nil, List.drop_nil, List.take_nil, Nat.reduceAdd, Nat.reduceLeDiff, Nat.zero_add, Nat.add_zero, ↓reduceIte, Bool.not_true, Bool.not_false, decide_true, decide_false, eq_self, bne_self_eq_false, List.getElem?_cons_zero, List.getElem?_cons_succ, decide_eq_true_eq, Bool.false_eq_true, Bool.true_eq_false, reduceCtorEq, Nat.le_refl, e1, st, e2, lg2, e3, hnb, a1, a2, hgd, lgT, k1, k2, k3, es, k4, loadP_put1]
                exact ⟨_, _, _, rfl, o03.put (by omega) _, ⟨y, _, rfl, rfl, (u1.on (Fl.ok _) o13).mv (Fl.ok _) (Nat.le_refl _) fun id hid => put_ne _ (by have := u1.lt (Fl.ok _) id hid; omega)⟩, f⟩
              · rw [hear_done hgd hoff hi k4, hD]
                simp only [run0, run1, run2, run3, run4, noSlot, ownS, ownK, memN, RO.dst, lk, drop, forget, number, Nat.reduceBEq, cut?, splice?, builds, List.length_cons, List.length_nil, List.drop_succ_cons, List.drop_zero, List.take_succ_cons, List.take_zero, List.cons_append, List.nil_append, List.append_nil, List.drop_nil, List.take_nil, Nat.reduceAdd, Nat.reduceLeDiff, Nat.zero_add, Nat.add_zero, ↓reduceIte, Bool.not_true, Bool.not_false, decide_true, decide_false, eq_self, bne_self_eq_false, List.getElem?_cons_zero, List.getElem?_cons_succ, decide_eq_true_eq, Bool.false_eq_true, Bool.true_eq_false, reduceCtorEq, Nat.le_refl, e1, st, e2, lg2, e3, hnb, a1, a2, hgd, lgT, k1, k2, k3, es, k4, loadP_put1]
                exact ⟨_, _, _, rfl, o03.put (by omega) _, ⟨y, _, rfl, rfl, (u1.on (Fl.ok _) o13).mv (Fl.ok _) (Nat.le_refl _) fun id hid => put_ne _ (by have := u1.lt (Fl.ok _) id hid; omega)⟩, f⟩
    | true =>
      rw [hrg] at e3
      by_cases hgt : r.chart.epoch > c.chart.epoch
      case neg =>
        have hlt : ¬ c.chart.epoch < r.chart.epoch := hgt
        have hD : c.takes r = c := by simp [Client.takes, hrg, hlt]
        have hgT : h3.get h1.next = some [c.cells y] := hg3
        have hfT : h3.floor ≤ h1.next := by rw [o03.fl]; exact Nat.le_trans hf h1n
        have es := stop_run (Z := Z) (c := c) hI16 hfT hgT
        have lgT := fun j n => loadP_get1 hgT j n
        simp only [Client.cells] at lgT es
        by_cases hb : c.busy = true
        case neg =>
          replace hb : c.busy = false := by simpa using hb
          have hnb : (!c.busy) = true := by simp [hb]
          have hoff : c.off r = true := by simp [Client.off, hb]
          rw [hear_off hgd hoff, hD]
          cases a1 : (r.client != c.id) <;> (simp only [run0, run1, run2, run3, run4, noSlot, ownS, ownK, memN, RO.dst, lk, drop, forget, number, Nat.reduceBEq, cut?, splice?, builds, List.length_cons, List.length_nil, List.drop_succ_cons, List.drop_zero, List.take_succ_cons, List.take_zero, List.cons_append, List.nil_append, List.append_nil, List.drop_nil, List.take_nil, Nat.reduceAdd, Nat.reduceLeDiff, Nat.zero_add, Nat.add_zero, ↓reduceIte, Bool.not_true, Bool.not_false, decide_true, decide_false, eq_self, bne_self_eq_false, List.getElem?_cons_zero, List.getElem?_cons_succ, decide_eq_true_eq, Bool.false_eq_true, Bool.true_eq_false, reduceCtorEq, Nat.le_refl, e1, st, e2, lg2, e3, hnb, a1, hgt, lgT]; exact ⟨_, _, _, rfl, o03, ⟨y, _, rfl, rfl, u1.on (Fl.ok _) o13⟩, f⟩)
        case pos =>
          have hnb : (!c.busy) = false := by simp [hb]
          cases a1 : (r.client != c.id) with
          | true =>
            have hoff : c.off r = true := by simp [Client.off, a1]
            rw [hear_off hgd hoff, hD]
            simp only [run0, run1, run2, run3, run4, noSlot, ownS, ownK, memN, RO.dst, lk, drop, forget, number, Nat.reduceBEq, cut?, splice?, builds, List.length_cons, List.length_nil, List.drop_succ_cons, List.drop_zero, List.take_succ_cons, List.take_zero, List.cons_append, List.nil_append, List.append_nil, List.drop_nil, List.take_nil, Nat.reduceAdd, Nat.reduceLeDiff, Nat.zero_add, Nat.add_zero, ↓reduceIte, Bool.not_true, Bool.not_false, decide_true, decide_false, eq_self, bne_self_eq_false, List.getElem?_cons_zero, List.getElem?_cons_succ, decide_eq_true_eq, Bool.false_eq_true, Bool.true_eq_false, reduceCtorEq, Nat.le_refl, e1, st, e2, lg2, e3, hnb, a1, hgt, lgT]
            exact ⟨_, _, _, rfl, o03, ⟨y, _, rfl, rfl, u1.on (Fl.ok _) o13⟩, f⟩
          | false =>
            cases a2 : (r.seq != c.seq) with
            | true =>
              have hoff : c.off r = true := by simp [Client.off, a2]
              rw [hear_off hgd hoff, hD]
              simp only [run0, run1, run2, run3, run4, noSlot, ownS, ownK, memN, RO.dst, lk, drop, forget, number, Nat.reduceBEq, cut?, splice?, builds, List.length_cons, List.length_nil, List.drop_succ_cons, List.drop_zero, List.take_succ_cons, List.take_zero, List.cons_append, List.nil_append, List.append_nil, List.drop_nil, List.take_nil, Nat.reduceAdd, Nat.reduceLeDiff, Nat.zero_add, Nat.add_zero, ↓reduceIte, Bool.not_true, Bool.not_false, decide_true, decide_false, eq_self, bne_self_eq_false, List.getElem?_cons_zero, List.getElem?_cons_succ, decide_eq_true_eq, Bool.false_eq_true, Bool.true_eq_false, reduceCtorEq, Nat.le_refl, e1, st, e2, lg2, e3, hnb, a1, a2, hgt, lgT]
              exact ⟨_, _, _, rfl, o03, ⟨y, _, rfl, rfl, u1.on (Fl.ok _) o13⟩, f⟩
            | false =>
              have hoff : c.off r = false := by simp [Client.off, a1, a2, hb]
              cases hi : inR r.code 8 10 with
              | true =>
                rw [hear_again hgd hoff hi, hD]
                rcases hw8 hi with k1 | ⟨k1, k2⟩ | ⟨k1, k2, k3⟩
                · simp only [run0, run1, run2, run3, run4, noSlot, ownS, ownK, memN, RO.dst, lk, drop, forget, number, Nat.reduceBEq, cut?, splice?, builds, List.length_cons, List.length_nil, List.drop_succ_cons, List.drop_zero, List.take_succ_cons, List.take_zero, List.cons_append, List.nil_append, List.append_nil, List.drop_nil, List.take_nil, Nat.reduceAdd, Nat.reduceLeDiff, Nat.zero_add, Nat.add_zero, ↓reduceIte, Bool.not_true, Bool.not_false, decide_true, decide_false, eq_self, bne_self_eq_false, List.getElem?_cons_zero, List.getElem?_cons_succ, decide_eq_true_eq, Bool.false_eq_true, Bool.true_eq_false, reduceCtorEq, Nat.le_refl, e1, st, e2, lg2, e3, hnb, a1, a2, hgt, lgT, k1]
                  exact ⟨_, _, _, rfl, o03, ⟨y, _, rfl, rfl, u1.on (Fl.ok _) o13⟩, f⟩
                · simp only [run0, run1, run2, run3, run4, noSlot, ownS, ownK, memN, RO.dst, lk, drop, forget, number, Nat.reduceBEq, cut?, splice?, builds, List.length_cons, List.length_nil, List.drop_succ_cons, List.drop_zero, List.take_succ_cons, List.take_zero, List.cons_append, List.nil_append, List.append_nil, List.drop_nil, List.take_nil, Nat.reduceAdd, Nat.reduceLeDiff, Nat.zero_add, Nat.add_zero, ↓reduceIte, Bool.not_true, Bool.not_false, decide_true, decide_false, eq_self, bne_self_eq_false, List.getElem?_cons_zero, List.getElem?_cons_succ, decide_eq_true_eq, Bool.false_eq_true, Bool.true_eq_false, reduceCtorEq, Nat.le_refl, e1, st, e2, lg2, e3, hnb, a1, a2, hgt, lgT, k1, k2]
                  exact ⟨_, _, _, rfl, o03, ⟨y, _, rfl, rfl, u1.on (Fl.ok _) o13⟩, f⟩
                · simp only [run0, run1, run2, run3, run4, noSlot, ownS, ownK, memN, RO.dst, lk, drop, forget, number, Nat.reduceBEq, cut?, splice?, builds, List.length_cons, List.length_nil, List.drop_succ_cons, List.drop_zero, List.take_succ_cons, List.take_zero, List.cons_append, List.nil_append, List.append_nil, List.drop_nil, List.take_nil, Nat.reduceAdd, Nat.reduceLeDiff, Nat.zero_add, Nat.add_zero, ↓reduceIte, Bool.not_true, Bool.not_false, decide_true, decide_false, eq_self, bne_self_eq_false, List.getElem?_cons_zero, List.getElem?_cons_succ, decide_eq_true_eq, Bool.false_eq_true, Bool.true_eq_false, reduceCtorEq, Nat.le_refl, e1, st, e2, lg2, e3, hnb, a1, a2, hgt, lgT, k1, k2, k3]
                  exact ⟨_, _, _, rfl, o03, ⟨y, _, rfl, rfl, u1.on (Fl.ok _) o13⟩, f⟩
              | false =>
                obtain ⟨k1, k2, k3⟩ := hn8 hi
                by_cases k4 : r.code < 0
                · rw [hear_err hgd hoff hi k4, hD]
                  simp only [run0, run1, run2, run3, run4, noSlot, ownS, ownK, memN, RO.dst, lk, drop, forget, number, Nat.reduceBEq, cut?, splice?, builds, List.length_cons, List.length_nil, List.drop_succ_cons, List.drop_zero, List.take_succ_cons, List.take_zero, List.cons_append, List.nil_append, List.append_nil, List.drop_nil, List.take_nil, Nat.reduceAdd, Nat.reduceLeDiff, Nat.zero_add, Nat.add_zero, ↓reduceIte, Bool.not_true, Bool.not_false, decide_true, decide_false, eq_self, bne_self_eq_false, List.getElem?_cons_zero, List.getElem?_cons_succ, decide_eq_true_eq, Bool.false_eq_true, Bool.true_eq_false, reduceCtorEq, Nat.le_refl, e1, st, e2, lg2, e3, hnb, a1, a2, hgt, lgT, k1, k2, k3, es, k4, loadP_put1]
                  exact ⟨_, _, _, rfl, o03.put (by omega) _, ⟨y, _, rfl, rfl, (u1.on (Fl.ok _) o13).mv (Fl.ok _) (Nat.le_refl _) fun id hid => put_ne _ (by have := u1.lt (Fl.ok _) id hid; omega)⟩, f⟩
                · rw [hear_done hgd hoff hi k4, hD]
                  simp only [run0, run1, run2, run3, run4, noSlot, ownS, ownK, memN, RO.dst, lk, drop, forget, number, Nat.reduceBEq, cut?, splice?, builds, List.length_cons, List.length_nil, List.drop_succ_cons, List.drop_zero, List.take_succ_cons, List.take_zero, List.cons_append, List.nil_append, List.append_nil, List.drop_nil, List.take_nil, Nat.reduceAdd, Nat.reduceLeDiff, Nat.zero_add, Nat.add_zero, ↓reduceIte, Bool.not_true, Bool.not_false, decide_true, decide_false, eq_self, bne_self_eq_false, List.getElem?_cons_zero, List.getElem?_cons_succ, decide_eq_true_eq, Bool.false_eq_true, Bool.true_eq_false, reduceCtorEq, Nat.le_refl, e1, st, e2, lg2, e3, hnb, a1, a2, hgt, lgT, k1, k2, k3, es, k4, loadP_put1]
                  exact ⟨_, _, _, rfl, o03.put (by omega) _, ⟨y, _, rfl, rfl, (u1.on (Fl.ok _) o13).mv (Fl.ok _) (Nat.le_refl _) fun id hid => put_ne _ (by have := u1.lt (Fl.ok _) id hid; omega)⟩, f⟩
      case pos =>
        have hD : c.takes r = { c with chart := r.chart } := by
          have : c.chart.epoch < r.chart.epoch := hgt
          simp [Client.takes, hrg, this]
        obtain ⟨_, h4, q4, e4, o4, ⟨z, _, rfl, rfl, u4⟩, f4⟩ := copyChart_c (Z := Z) hI12 (o03.le hf) (Chart.okI.on vr o03) smr
        have lt3 : h1.next < h3.next := by have := o3.ext.1; omega
        have hg4 : h4.get h1.next = some [c.cells y] := by rw [o4.ext.2 _ lt3]; exact hg3
        have hf4 : h4.floor ≤ h1.next := by rw [(o03.trans o4).fl]; exact Nat.le_trans hf h1n
        have e5 := storeP_at (h := h4) (id := h1.next) (i := 0) (j := 2) (new := [.int .i64 r.chart.epoch, z, .bool r.chart.moving, .int .u64 r.chart.lo, .int .i64 r.chart.to]) hf4 hg4 rfl rfl
        simp only [List.set_cons_zero] at e5
        have o4' := (o03.trans o4).put h1n [({ c with chart := r.chart } : Client).cells z]
        have f4' : Fre h q4 := ⟨fun id hid => Nat.le_trans o03.ext.1 (f4.lo id hid), f4.nd⟩
        have ne4 : ∀ id, id ∈ q4 → id ≠ h1.next := fun id hid => by have := f4.lo id hid; omega
        have u4' : SlR 7 (Fl Range.enc) (h4.put h1.next [({ c with chart := r.chart } : Client).cells z]) z r.chart.ranges q4 := u4.mv (Fl.ok _) (Nat.le_refl _) fun id hid => put_ne _ (ne4 id hid)
        simp only [Client.cells] at e5 o4' u4'
        have hgT : (h4.put h1.next [[.int .i64 c.id, .int .i64 c.seq, .int .i64 r.chart.epoch, z, .bool r.chart.moving, .int .u64 r.chart.lo, .int .i64 r.chart.to, .bool c.busy, .int .i64 c.tries, .int .i64 c.ask.epoch, .int .i64 c.ask.op, .int .u64 c.ask.id, .int .u64 c.ask.amount, .int .i64 c.ask.tx]]).get h1.next = some [({ c with chart := r.chart } : Client).cells z] := by simp [Heap.put, Client.cells]
        have hfT : (h4.put h1.next [[.int .i64 c.id, .int .i64 c.seq, .int .i64 r.chart.epoch, z, .bool r.chart.moving, .int .u64 r.chart.lo, .int .i64 r.chart.to, .bool c.busy, .int .i64 c.tries, .int .i64 c.ask.epoch, .int .i64 c.ask.op, .int .u64 c.ask.id, .int .u64 c.ask.amount, .int .i64 c.ask.tx]]).floor ≤ h1.next := by rw [o4'.fl]; exact Nat.le_trans hf h1n
        have es := stop_run (Z := Z) (c := ({ c with chart := r.chart } : Client)) hI16 hfT hgT
        have lgT := fun j n => loadP_get1 hgT j n
        simp only [Client.cells] at lgT es
        by_cases hb : c.busy = true
        case neg =>
          replace hb : c.busy = false := by simpa using hb
          have hnb : (!c.busy) = true := by simp [hb]
          have hoff : c.off r = true := by simp [Client.off, hb]
          rw [hear_off hgd hoff, hD]
          cases a1 : (r.client != c.id) <;> (simp only [run0, run1, run2, run3, run4, noSlot, ownS, ownK, memN, RO.dst, lk, drop, forget, number, Nat.reduceBEq, cut?, splice?, builds, List.length_cons, List.length_nil, List.drop_succ_cons, List.drop_zero, List.take_succ_cons, List.take_zero, List.cons_append, List.nil_append, List.append_nil, List.drop_nil, List.take_nil, Nat.reduceAdd, Nat.reduceLeDiff, Nat.zero_add, Nat.add_zero, ↓reduceIte, Bool.not_true, Bool.not_false, decide_true, decide_false, eq_self, bne_self_eq_false, List.getElem?_cons_zero, List.getElem?_cons_succ, decide_eq_true_eq, Bool.false_eq_true, Bool.true_eq_false, reduceCtorEq, Nat.le_refl, e1, st, e2, lg2, e3, hnb, a1, hgt, e4, e5, lgT]; exact ⟨_, _, _, rfl, o4', ⟨z, _, rfl, rfl, u4'⟩, f4'⟩)
        case pos =>
          have hnb : (!c.busy) = false := by simp [hb]
          cases a1 : (r.client != c.id) with
          | true =>
            have hoff : c.off r = true := by simp [Client.off, a1]
            rw [hear_off hgd hoff, hD]
            simp only [run0, run1, run2, run3, run4, noSlot, ownS, ownK, memN, RO.dst, lk, drop, forget, number, Nat.reduceBEq, cut?, splice?, builds, List.length_cons, List.length_nil, List.drop_succ_cons, List.drop_zero, List.take_succ_cons, List.take_zero, List.cons_append, List.nil_append, List.append_nil, List.drop_nil, List.take_nil, Nat.reduceAdd, Nat.reduceLeDiff, Nat.zero_add, Nat.add_zero, ↓reduceIte, Bool.not_true, Bool.not_false, decide_true, decide_false, eq_self, bne_self_eq_false, List.getElem?_cons_zero, List.getElem?_cons_succ, decide_eq_true_eq, Bool.false_eq_true, Bool.true_eq_false, reduceCtorEq, Nat.le_refl, e1, st, e2, lg2, e3, hnb, a1, hgt, e4, e5, lgT]
            exact ⟨_, _, _, rfl, o4', ⟨z, _, rfl, rfl, u4'⟩, f4'⟩
          | false =>
            cases a2 : (r.seq != c.seq) with
            | true =>
              have hoff : c.off r = true := by simp [Client.off, a2]
              rw [hear_off hgd hoff, hD]
              simp only [run0, run1, run2, run3, run4, noSlot, ownS, ownK, memN, RO.dst, lk, drop, forget, number, Nat.reduceBEq, cut?, splice?, builds, List.length_cons, List.length_nil, List.drop_succ_cons, List.drop_zero, List.take_succ_cons, List.take_zero, List.cons_append, List.nil_append, List.append_nil, List.drop_nil, List.take_nil, Nat.reduceAdd, Nat.reduceLeDiff, Nat.zero_add, Nat.add_zero, ↓reduceIte, Bool.not_true, Bool.not_false, decide_true, decide_false, eq_self, bne_self_eq_false, List.getElem?_cons_zero, List.getElem?_cons_succ, decide_eq_true_eq, Bool.false_eq_true, Bool.true_eq_false, reduceCtorEq, Nat.le_refl, e1, st, e2, lg2, e3, hnb, a1, a2, hgt, e4, e5, lgT]
              exact ⟨_, _, _, rfl, o4', ⟨z, _, rfl, rfl, u4'⟩, f4'⟩
            | false =>
              have hoff : c.off r = false := by simp [Client.off, a1, a2, hb]
              cases hi : inR r.code 8 10 with
              | true =>
                rw [hear_again hgd hoff hi, hD]
                rcases hw8 hi with k1 | ⟨k1, k2⟩ | ⟨k1, k2, k3⟩
                · simp only [run0, run1, run2, run3, run4, noSlot, ownS, ownK, memN, RO.dst, lk, drop, forget, number, Nat.reduceBEq, cut?, splice?, builds, List.length_cons, List.length_nil, List.drop_succ_cons, List.drop_zero, List.take_succ_cons, List.take_zero, List.cons_append, List.nil_append, List.append_nil, List.drop_nil, List.take_nil, Nat.reduceAdd, Nat.reduceLeDiff, Nat.zero_add, Nat.add_zero, ↓reduceIte, Bool.not_true, Bool.not_false, decide_true, decide_false, eq_self, bne_self_eq_false, List.getElem?_cons_zero, List.getElem?_cons_succ, decide_eq_true_eq, Bool.false_eq_true, Bool.true_eq_false, reduceCtorEq, Nat.le_refl, e1, st, e2, lg2, e3, hnb, a1, a2, hgt, e4, e5, lgT, k1]
                  exact ⟨_, _, _, rfl, o4', ⟨z, _, rfl, rfl, u4'⟩, f4'⟩
                · simp only [run0, run1, run2, run3, run4, noSlot, ownS, ownK, memN, RO.dst, lk, drop, forget, number, Nat.reduceBEq, cut?, splice?, builds, List.length_cons, List.length_nil, List.drop_succ_cons, List.drop_zero, List.take_succ_cons, List.take_zero, List.cons_append, List.nil_append, List.append_nil, List.drop_nil, List.take_nil, Nat.reduceAdd, Nat.reduceLeDiff, Nat.zero_add, Nat.add_zero, ↓reduceIte, Bool.not_true, Bool.not_false, decide_true, decide_false, eq_self, bne_self_eq_false, List.getElem?_cons_zero, List.getElem?_cons_succ, decide_eq_true_eq, Bool.false_eq_true, Bool.true_eq_false, reduceCtorEq, Nat.le_refl, e1, st, e2, lg2, e3, hnb, a1, a2, hgt, e4, e5, lgT, k1, k2]
                  exact ⟨_, _, _, rfl, o4', ⟨z, _, rfl, rfl, u4'⟩, f4'⟩
                · simp only [run0, run1, run2, run3, run4, noSlot, ownS, ownK, memN, RO.dst, lk, drop, forget, number, Nat.reduceBEq, cut?, splice?, builds, List.length_cons, List.length_nil, List.drop_succ_cons, List.drop_zero, List.take_succ_cons, List.take_zero, List.cons_append, List.nil_append, List.append_nil, List.drop_nil, List.take_nil, Nat.reduceAdd, Nat.reduceLeDiff, Nat.zero_add, Nat.add_zero, ↓reduceIte, Bool.not_true, Bool.not_false, decide_true, decide_false, eq_self, bne_self_eq_false, List.getElem?_cons_zero, List.getElem?_cons_succ, decide_eq_true_eq, Bool.false_eq_true, Bool.true_eq_false, reduceCtorEq, Nat.le_refl, e1, st, e2, lg2, e3, hnb, a1, a2, hgt, e4, e5, lgT, k1, k2, k3]
                  exact ⟨_, _, _, rfl, o4', ⟨z, _, rfl, rfl, u4'⟩, f4'⟩
              | false =>
                obtain ⟨k1, k2, k3⟩ := hn8 hi
                by_cases k4 : r.code < 0
                · rw [hear_err hgd hoff hi k4, hD]
                  simp only [run0, run1, run2, run3, run4, noSlot, ownS, ownK, memN, RO.dst, lk, drop, forget, number, Nat.reduceBEq, cut?, splice?, builds, List.length_cons, List.length_nil, List.drop_succ_cons, List.drop_zero, List.take_succ_cons, List.take_zero, List.cons_append, List.nil_append, List.append_nil, List.drop_nil, List.take_nil, Nat.reduceAdd, Nat.reduceLeDiff, Nat.zero_add, Nat.add_zero, ↓reduceIte, Bool.not_true, Bool.not_false, decide_true, decide_false, eq_self, bne_self_eq_false, List.getElem?_cons_zero, List.getElem?_cons_succ, decide_eq_true_eq, Bool.false_eq_true, Bool.true_eq_false, reduceCtorEq, Nat.le_refl, e1, st, e2, lg2, e3, hnb, a1, a2, hgt, e4, e5, lgT, k1, k2, k3, es, k4, loadP_put1]
                  exact ⟨_, _, _, rfl, o4'.put (by omega) _, ⟨z, _, rfl, rfl, u4'.mv (Fl.ok _) (Nat.le_refl _) fun id hid => put_ne _ (ne4 id hid)⟩, f4'⟩
                · rw [hear_done hgd hoff hi k4, hD]
                  simp only [run0, run1, run2, run3, run4, noSlot, ownS, ownK, memN, RO.dst, lk, drop, forget, number, Nat.reduceBEq, cut?, splice?, builds, List.length_cons, List.length_nil, List.drop_succ_cons, List.drop_zero, List.take_succ_cons, List.take_zero, List.cons_append, List.nil_append, List.append_nil, List.drop_nil, List.take_nil, Nat.reduceAdd, Nat.reduceLeDiff, Nat.zero_add, Nat.add_zero, ↓reduceIte, Bool.not_true, Bool.not_false, decide_true, decide_false, eq_self, bne_self_eq_false, List.getElem?_cons_zero, List.getElem?_cons_succ, decide_eq_true_eq, Bool.false_eq_true, Bool.true_eq_false, reduceCtorEq, Nat.le_refl, e1, st, e2, lg2, e3, hnb, a1, a2, hgt, e4, e5, lgT, k1, k2, k3, es, k4, loadP_put1]
                  exact ⟨_, _, _, rfl, o4'.put (by omega) _, ⟨z, _, rfl, rfl, u4'.mv (Fl.ok _) (Nat.le_refl _) fun id hid => put_ne _ (ne4 id hid)⟩, f4'⟩
set_option maxHeartbeats 4000000 in
theorem sClientHear_c (hS : Has F tS01d) (hS11 : Has F tS11) (hS12 : Has F tS12) (hS16 : Has F tS16) (hf : h.floor ≤ h.next) (v : Client.RI h cs c fp) (u : Reply.RI h ds r fq) (ok : c.Ok) (sm : c.Small) (okr : r.Ok) (smr : r.Small) :
    ∃ cs' h' fq, call F Z 253 [.agg cs, .agg ds] h = some (.tup [.agg cs', .c (.int .i64 (clientHear c r).2)], h') ∧ On h h' ∧ Client.RI h' cs' (clientHear c r).1 fq ∧ Fre h fq := by
  obtain ⟨_, h1, _, e1, o1, ⟨y, q, rfl, rfl, u1⟩, f⟩ := l16Copy_c (Z := Z) hS12 hS16 hf v sm
  have e2 := sClientOk_run (Z := Z) hS hS11 hS12 hS16 (Client.okI.on v o1) ok.chart
  obtain ⟨xr, pr, rfl, rfl, wr⟩ := u
  have vr : Chart.RI h [.int .i64 r.chart.epoch, xr, .bool r.chart.moving, .int .u64 r.chart.lo, .int .i64 r.chart.to] r.chart _ := ⟨xr, _, rfl, rfl, wr⟩
  have e3 := sChartOk_run (Z := Z) hS hS11 hS12 (Chart.okI.on vr o1) okr.chart
  have e6 := fun h => l01In_run (Z := Z) hS r.code 8 10 h
  obtain ⟨x, p, rfl, rfl, w⟩ := v
  have hfree : ∀ (a b e : Int) (z : Cell) (mv : Bool) (lo to : Int) (bz : Bool) (tr r1 r2 r3 r4 r5 : Int) (g : Heap), call F Z 198 [.agg [.int .i64 a, .int .i64 b, .int .i64 e, z, .bool mv, .int .u64 lo, .int .i64 to, .bool bz, .int .i64 tr, .int .i64 r1, .int .i64 r2, .int .u64 r3, .int .u64 r4, .int .i64 r5]] g = some (.agg [.int .i64 a, .int .i64 b, .int .i64 e, z, .bool mv, .int .u64 lo, .int .i64 to, .bool false, .int .i64 0, .int .i64 0, .int .i64 0, .int .u64 0, .int .u64 0, .int .i64 0], g) := by
    intro a b e z mv lo to bz tr r1 r2 r3 r4 r5 g
    rw [call_run F Z (hS16.lk (g := 198) rfl) _ _ rfl]
    simp only [run0, run1, run2, run3, run4, noSlot, ownS, ownK, memN, RO.dst, lk, drop, forget, number, Nat.reduceBEq, cut?, splice?, builds, List.length_cons, List.length_nil, List.drop_succ_cons, List.drop_zero, List.take_succ_cons, List.take_zero, List.cons_append, List.nil_append, List.append_nil, List.drop_nil, List.take_nil, Nat.reduceAdd, Nat.reduceLeDiff, Nat.zero_add, Nat.add_zero, ↓reduceIte, Bool.not_true, Bool.not_false, decide_true, decide_false, eq_self, bne_self_eq_false, List.getElem?_cons_zero, List.getElem?_cons_succ, decide_eq_true_eq, Bool.false_eq_true, Bool.true_eq_false, reduceCtorEq, Nat.le_refl]
  rw [call_run F Z (hS16.lk (g := 253) rfl) _ _ rfl]
  cases hgd : c.good with
  | false =>
    rw [hgd] at e2
    rw [hear_bad hgd]
    simp only [run0, run1, run2, run3, run4, noSlot, ownS, ownK, memN, RO.dst, lk, drop, forget, number, Nat.reduceBEq, cut?, splice?, builds, List.length_cons, List.length_nil, List.drop_succ_cons, List.drop_zero, List.take_succ_cons, List.take_zero, List.cons_append, List.nil_append, List.append_nil, List.drop_nil, List.take_nil, Nat.reduceAdd, Nat.reduceLeDiff, Nat.zero_add, Nat.add_zero, ↓reduceIte, Bool.not_true, Bool.not_false, decide_true, decide_false, eq_self, bne_self_eq_false, List.getElem?_cons_zero, List.getElem?_cons_succ, decide_eq_true_eq, Bool.false_eq_true, Bool.true_eq_false, reduceCtorEq, Nat.le_refl, e1, e2]
    exact ⟨_, _, _, rfl, o1, ⟨y, _, rfl, rfl, u1⟩, f⟩
  | true =>
    rw [hgd] at e2
    cases hrg : r.chart.good with
    | false =>
      rw [hrg] at e3
      have hD : c.takes r = c := by simp [Client.takes, hrg]
      by_cases hb : c.busy = true
      case neg =>
        replace hb : c.busy = false := by simpa using hb
        have hnb : (!c.busy) = true := by simp [hb]
        have hoff : c.off r = true := by simp [Client.off, hb]
        rw [hear_off hgd hoff, hD]
        cases a1 : (r.client != c.id) <;> (simp only [run0, run1, run2, run3, run4, noSlot, ownS, ownK, memN, RO.dst, lk, drop, forget, number, Nat.reduceBEq, cut?, splice?, builds, List.length_cons, List.length_nil, List.drop_succ_cons, List.drop_zero, List.take_succ_cons, List.take_zero, List.cons_append, List.nil_append, List.append_nil, List.drop_nil, List.take_nil, Nat.reduceAdd, Nat.reduceLeDiff, Nat.zero_add, Nat.add_zero, ↓reduceIte, Bool.not_true, Bool.not_false, decide_true, decide_false, eq_self, bne_self_eq_false, List.getElem?_cons_zero, List.getElem?_cons_succ, decide_eq_true_eq, Bool.false_eq_true, Bool.true_eq_false, reduceCtorEq, Nat.le_refl, e1, e2, e3, hnb, a1, hgd]; exact ⟨_, _, _, rfl, o1, ⟨y, _, rfl, rfl, u1⟩, f⟩)
      case pos =>
        have hnb : (!c.busy) = false := by simp [hb]
        cases a1 : (r.client != c.id) with
        | true =>
          have hoff : c.off r = true := by simp [Client.off, a1]
          rw [hear_off hgd hoff, hD]
          simp only [run0, run1, run2, run3, run4, noSlot, ownS, ownK, memN, RO.dst, lk, drop, forget, number, Nat.reduceBEq, cut?, splice?, builds, List.length_cons, List.length_nil, List.drop_succ_cons, List.drop_zero, List.take_succ_cons, List.take_zero, List.cons_append, List.nil_append, List.append_nil, List.drop_nil, List.take_nil, Nat.reduceAdd, Nat.reduceLeDiff, Nat.zero_add, Nat.add_zero, ↓reduceIte, Bool.not_true, Bool.not_false, decide_true, decide_false, eq_self, bne_self_eq_false, List.getElem?_cons_zero, List.getElem?_cons_succ, decide_eq_true_eq, Bool.false_eq_true, Bool.true_eq_false, reduceCtorEq, Nat.le_refl, e1, e2, e3, hnb, a1, hgd]
          exact ⟨_, _, _, rfl, o1, ⟨y, _, rfl, rfl, u1⟩, f⟩
        | false =>
          cases a2 : (r.seq != c.seq) with
          | true =>
            have hoff : c.off r = true := by simp [Client.off, a2]
            rw [hear_off hgd hoff, hD]
            simp only [run0, run1, run2, run3, run4, noSlot, ownS, ownK, memN, RO.dst, lk, drop, forget, number, Nat.reduceBEq, cut?, splice?, builds, List.length_cons, List.length_nil, List.drop_succ_cons, List.drop_zero, List.take_succ_cons, List.take_zero, List.cons_append, List.nil_append, List.append_nil, List.drop_nil, List.take_nil, Nat.reduceAdd, Nat.reduceLeDiff, Nat.zero_add, Nat.add_zero, ↓reduceIte, Bool.not_true, Bool.not_false, decide_true, decide_false, eq_self, bne_self_eq_false, List.getElem?_cons_zero, List.getElem?_cons_succ, decide_eq_true_eq, Bool.false_eq_true, Bool.true_eq_false, reduceCtorEq, Nat.le_refl, e1, e2, e3, hnb, a1, a2, hgd]
            exact ⟨_, _, _, rfl, o1, ⟨y, _, rfl, rfl, u1⟩, f⟩
          | false =>
            have hoff : c.off r = false := by simp [Client.off, a1, a2, hb]
            cases hi : inR r.code 8 10 with
            | true =>
              rw [hear_again hgd hoff hi, hD]
              simp only [run0, run1, run2, run3, run4, noSlot, ownS, ownK, memN, RO.dst, lk, drop, forget, number, Nat.reduceBEq, cut?, splice?, builds, List.length_cons, List.length_nil, List.drop_succ_cons, List.drop_zero, List.take_succ_cons, List.take_zero, List.cons_append, List.nil_append, List.append_nil, List.drop_nil, List.take_nil, Nat.reduceAdd, Nat.reduceLeDiff, Nat.zero_add, Nat.add_zero, ↓reduceIte, Bool.not_true, Bool.not_false, decide_true, decide_false, eq_self, bne_self_eq_false, List.getElem?_cons_zero, List.getElem?_cons_succ, decide_eq_true_eq, Bool.false_eq_true, Bool.true_eq_false, reduceCtorEq, Nat.le_refl, e1, e2, e3, hnb, a1, a2, hgd, e6, hi]
              exact ⟨_, _, _, rfl, o1, ⟨y, _, rfl, rfl, u1⟩, f⟩
            | false =>
              by_cases k4 : r.code < 0
              · rw [hear_err hgd hoff hi k4, hD]
                simp only [run0, run1, run2, run3, run4, noSlot, ownS, ownK, memN, RO.dst, lk, drop, forget, number, Nat.reduceBEq, cut?, splice?, builds, List.length_cons, List.length_nil, List.drop_succ_cons, List.drop_zero, List.take_succ_cons, List.take_zero, List.cons_append, List.nil_append, List.append_nil, List.drop_nil, List.take_nil, Nat.reduceAdd, Nat.reduceLeDiff, Nat.zero_add, Nat.add_zero, ↓reduceIte, Bool.not_true, Bool.not_false, decide_true, decide_false, eq_self, bne_self_eq_false, List.getElem?_cons_zero, List.getElem?_cons_succ, decide_eq_true_eq, Bool.false_eq_true, Bool.true_eq_false, reduceCtorEq, Nat.le_refl, e1, e2, e3, hnb, a1, a2, hgd, e6, hi, k4, hfree]
                exact ⟨_, _, _, rfl, o1, ⟨y, _, rfl, rfl, u1⟩, f⟩
              · rw [hear_done hgd hoff hi k4, hD]
                simp only [run0, run1, run2, run3, run4, noSlot, ownS, ownK, memN, RO.dst, lk, drop, forget, number, Nat.reduceBEq, cut?, splice?, builds, List.length_cons, List.length_nil, List.drop_succ_cons, List.drop_zero, List.take_succ_cons, List.take_zero, List.cons_append, List.nil_append, List.append_nil, List.drop_nil, List.take_nil, Nat.reduceAdd, Nat.reduceLeDiff, Nat.zero_add, Nat.add_zero, ↓reduceIte, Bool.not_true, Bool.not_false, decide_true, decide_false, eq_self, bne_self_eq_false, List.getElem?_cons_zero, List.getElem?_cons_succ, decide_eq_true_eq, Bool.false_eq_true, Bool.true_eq_false, reduceCtorEq, Nat.le_refl, e1, e2, e3, hnb, a1, a2, hgd, e6, hi, k4, hfree]
                exact ⟨_, _, _, rfl, o1, ⟨y, _, rfl, rfl, u1⟩, f⟩
    | true =>
      rw [hrg] at e3
      by_cases hgt : r.chart.epoch > c.chart.epoch
      case neg =>
        have hlt : ¬ c.chart.epoch < r.chart.epoch := hgt
        have hD : c.takes r = c := by simp [Client.takes, hrg, hlt]
        by_cases hb : c.busy = true
        case neg =>
          replace hb : c.busy = false := by simpa using hb
          have hnb : (!c.busy) = true := by simp [hb]
          have hoff : c.off r = true := by simp [Client.off, hb]
          rw [hear_off hgd hoff, hD]
          cases a1 : (r.client != c.id) <;> (simp only [run0, run1, run2, run3, run4, noSlot, ownS, ownK, memN, RO.dst, lk, drop, forget, number, Nat.reduceBEq, cut?, splice?, builds, List.length_cons, List.length_nil, List.drop_succ_cons, List.drop_zero, List.take_succ_cons, List.take_zero, List.cons_append, List.nil_append, List.append_nil, List.drop_nil, List.take_nil, Nat.reduceAdd, Nat.reduceLeDiff, Nat.zero_add, Nat.add_zero, ↓reduceIte, Bool.not_true, Bool.not_false, decide_true, decide_false, eq_self, bne_self_eq_false, List.getElem?_cons_zero, List.getElem?_cons_succ, decide_eq_true_eq, Bool.false_eq_true, Bool.true_eq_false, reduceCtorEq, Nat.le_refl, e1, e2, e3, hnb, a1, hgt]; exact ⟨_, _, _, rfl, o1, ⟨y, _, rfl, rfl, u1⟩, f⟩)
        case pos =>
          have hnb : (!c.busy) = false := by simp [hb]
          cases a1 : (r.client != c.id) with
          | true =>
            have hoff : c.off r = true := by simp [Client.off, a1]
            rw [hear_off hgd hoff, hD]
            simp only [run0, run1, run2, run3, run4, noSlot, ownS, ownK, memN, RO.dst, lk, drop, forget, number, Nat.reduceBEq, cut?, splice?, builds, List.length_cons, List.length_nil, List.drop_succ_cons, List.drop_zero, List.take_succ_cons, List.take_zero, List.cons_append, List.nil_append, List.append_nil, List.drop_nil, List.take_nil, Nat.reduceAdd, Nat.reduceLeDiff, Nat.zero_add, Nat.add_zero, ↓reduceIte, Bool.not_true, Bool.not_false, decide_true, decide_false, eq_self, bne_self_eq_false, List.getElem?_cons_zero, List.getElem?_cons_succ, decide_eq_true_eq, Bool.false_eq_true, Bool.true_eq_false, reduceCtorEq, Nat.le_refl, e1, e2, e3, hnb, a1, hgt]
            exact ⟨_, _, _, rfl, o1, ⟨y, _, rfl, rfl, u1⟩, f⟩
          | false =>
            cases a2 : (r.seq != c.seq) with
            | true =>
              have hoff : c.off r = true := by simp [Client.off, a2]
              rw [hear_off hgd hoff, hD]
              simp only [run0, run1, run2, run3, run4, noSlot, ownS, ownK, memN, RO.dst, lk, drop, forget, number, Nat.reduceBEq, cut?, splice?, builds, List.length_cons, List.length_nil, List.drop_succ_cons, List.drop_zero, List.take_succ_cons, List.take_zero, List.cons_append, List.nil_append, List.append_nil, List.drop_nil, List.take_nil, Nat.reduceAdd, Nat.reduceLeDiff, Nat.zero_add, Nat.add_zero, ↓reduceIte, Bool.not_true, Bool.not_false, decide_true, decide_false, eq_self, bne_self_eq_false, List.getElem?_cons_zero, List.getElem?_cons_succ, decide_eq_true_eq, Bool.false_eq_true, Bool.true_eq_false, reduceCtorEq, Nat.le_refl, e1, e2, e3, hnb, a1, a2, hgt]
              exact ⟨_, _, _, rfl, o1, ⟨y, _, rfl, rfl, u1⟩, f⟩
            | false =>
              have hoff : c.off r = false := by simp [Client.off, a1, a2, hb]
              cases hi : inR r.code 8 10 with
              | true =>
                rw [hear_again hgd hoff hi, hD]
                simp only [run0, run1, run2, run3, run4, noSlot, ownS, ownK, memN, RO.dst, lk, drop, forget, number, Nat.reduceBEq, cut?, splice?, builds, List.length_cons, List.length_nil, List.drop_succ_cons, List.drop_zero, List.take_succ_cons, List.take_zero, List.cons_append, List.nil_append, List.append_nil, List.drop_nil, List.take_nil, Nat.reduceAdd, Nat.reduceLeDiff, Nat.zero_add, Nat.add_zero, ↓reduceIte, Bool.not_true, Bool.not_false, decide_true, decide_false, eq_self, bne_self_eq_false, List.getElem?_cons_zero, List.getElem?_cons_succ, decide_eq_true_eq, Bool.false_eq_true, Bool.true_eq_false, reduceCtorEq, Nat.le_refl, e1, e2, e3, hnb, a1, a2, hgt, e6, hi]
                exact ⟨_, _, _, rfl, o1, ⟨y, _, rfl, rfl, u1⟩, f⟩
              | false =>
                by_cases k4 : r.code < 0
                · rw [hear_err hgd hoff hi k4, hD]
                  simp only [run0, run1, run2, run3, run4, noSlot, ownS, ownK, memN, RO.dst, lk, drop, forget, number, Nat.reduceBEq, cut?, splice?, builds, List.length_cons, List.length_nil, List.drop_succ_cons, List.drop_zero, List.take_succ_cons, List.take_zero, List.cons_append, List.nil_append, List.append_nil, List.drop_nil, List.take_nil, Nat.reduceAdd, Nat.reduceLeDiff, Nat.zero_add, Nat.add_zero, ↓reduceIte, Bool.not_true, Bool.not_false, decide_true, decide_false, eq_self, bne_self_eq_false, List.getElem?_cons_zero, List.getElem?_cons_succ, decide_eq_true_eq, Bool.false_eq_true, Bool.true_eq_false, reduceCtorEq, Nat.le_refl, e1, e2, e3, hnb, a1, a2, hgt, e6, hi, k4, hfree]
                  exact ⟨_, _, _, rfl, o1, ⟨y, _, rfl, rfl, u1⟩, f⟩
                · rw [hear_done hgd hoff hi k4, hD]
                  simp only [run0, run1, run2, run3, run4, noSlot, ownS, ownK, memN, RO.dst, lk, drop, forget, number, Nat.reduceBEq, cut?, splice?, builds, List.length_cons, List.length_nil, List.drop_succ_cons, List.drop_zero, List.take_succ_cons, List.take_zero, List.cons_append, List.nil_append, List.append_nil, List.drop_nil, List.take_nil, Nat.reduceAdd, Nat.reduceLeDiff, Nat.zero_add, Nat.add_zero, ↓reduceIte, Bool.not_true, Bool.not_false, decide_true, decide_false, eq_self, bne_self_eq_false, List.getElem?_cons_zero, List.getElem?_cons_succ, decide_eq_true_eq, Bool.false_eq_true, Bool.true_eq_false, reduceCtorEq, Nat.le_refl, e1, e2, e3, hnb, a1, a2, hgt, e6, hi, k4, hfree]
                  exact ⟨_, _, _, rfl, o1, ⟨y, _, rfl, rfl, u1⟩, f⟩
      case pos =>
        have hD : c.takes r = { c with chart := r.chart } := by
          have : c.chart.epoch < r.chart.epoch := hgt
          simp [Client.takes, hrg, this]
        obtain ⟨_, h4, q4, e4, o4, ⟨z, _, rfl, rfl, u4⟩, f4⟩ := l12Copy_c (Z := Z) hS12 (o1.le hf) (Chart.okI.on vr o1) smr
        have o4' := o1.trans o4
        have f4' : Fre h q4 := ⟨fun id hid => Nat.le_trans o1.ext.1 (f4.lo id hid), f4.nd⟩
        by_cases hb : c.busy = true
        case neg =>
          replace hb : c.busy = false := by simpa using hb
          have hnb : (!c.busy) = true := by simp [hb]
          have hoff : c.off r = true := by simp [Client.off, hb]
          rw [hear_off hgd hoff, hD]
          cases a1 : (r.client != c.id) <;> (simp only [run0, run1, run2, run3, run4, noSlot, ownS, ownK, memN, RO.dst, lk, drop, forget, number, Nat.reduceBEq, cut?, splice?, builds, List.length_cons, List.length_nil, List.drop_succ_cons, List.drop_zero, List.take_succ_cons, List.take_zero, List.cons_append, List.nil_append, List.append_nil, List.drop_nil, List.take_nil, Nat.reduceAdd, Nat.reduceLeDiff, Nat.zero_add, Nat.add_zero, ↓reduceIte, Bool.not_true, Bool.not_false, decide_true, decide_false, eq_self, bne_self_eq_false, List.getElem?_cons_zero, List.getElem?_cons_succ, decide_eq_true_eq, Bool.false_eq_true, Bool.true_eq_false, reduceCtorEq, Nat.le_refl, e1, e2, e3, hnb, a1, hgt, e4]; exact ⟨_, _, _, rfl, o4', ⟨z, _, rfl, rfl, u4⟩, f4'⟩)
        case pos =>
          have hnb : (!c.busy) = false := by simp [hb]
          cases a1 : (r.client != c.id) with
          | true =>
            have hoff : c.off r = true := by simp [Client.off, a1]
            rw [hear_off hgd hoff, hD]
            simp only [run0, run1, run2, run3, run4, noSlot, ownS, ownK, memN, RO.dst, lk, drop, forget, number, Nat.reduceBEq, cut?, splice?, builds, List.length_cons, List.length_nil, List.drop_succ_cons, List.drop_zero, List.take_succ_cons, List.take_zero, List.cons_append, List.nil_append, List.append_nil, List.drop_nil, List.take_nil, Nat.reduceAdd, Nat.reduceLeDiff, Nat.zero_add, Nat.add_zero, ↓reduceIte, Bool.not_true, Bool.not_false, decide_true, decide_false, eq_self, bne_self_eq_false, List.getElem?_cons_zero, List.getElem?_cons_succ, decide_eq_true_eq, Bool.false_eq_true, Bool.true_eq_false, reduceCtorEq, Nat.le_refl, e1, e2, e3, hnb, a1, hgt, e4]
            exact ⟨_, _, _, rfl, o4', ⟨z, _, rfl, rfl, u4⟩, f4'⟩
          | false =>
            cases a2 : (r.seq != c.seq) with
            | true =>
              have hoff : c.off r = true := by simp [Client.off, a2]
              rw [hear_off hgd hoff, hD]
              simp only [run0, run1, run2, run3, run4, noSlot, ownS, ownK, memN, RO.dst, lk, drop, forget, number, Nat.reduceBEq, cut?, splice?, builds, List.length_cons, List.length_nil, List.drop_succ_cons, List.drop_zero, List.take_succ_cons, List.take_zero, List.cons_append, List.nil_append, List.append_nil, List.drop_nil, List.take_nil, Nat.reduceAdd, Nat.reduceLeDiff, Nat.zero_add, Nat.add_zero, ↓reduceIte, Bool.not_true, Bool.not_false, decide_true, decide_false, eq_self, bne_self_eq_false, List.getElem?_cons_zero, List.getElem?_cons_succ, decide_eq_true_eq, Bool.false_eq_true, Bool.true_eq_false, reduceCtorEq, Nat.le_refl, e1, e2, e3, hnb, a1, a2, hgt, e4]
              exact ⟨_, _, _, rfl, o4', ⟨z, _, rfl, rfl, u4⟩, f4'⟩
            | false =>
              have hoff : c.off r = false := by simp [Client.off, a1, a2, hb]
              cases hi : inR r.code 8 10 with
              | true =>
                rw [hear_again hgd hoff hi, hD]
                simp only [run0, run1, run2, run3, run4, noSlot, ownS, ownK, memN, RO.dst, lk, drop, forget, number, Nat.reduceBEq, cut?, splice?, builds, List.length_cons, List.length_nil, List.drop_succ_cons, List.drop_zero, List.take_succ_cons, List.take_zero, List.cons_append, List.nil_append, List.append_nil, List.drop_nil, List.take_nil, Nat.reduceAdd, Nat.reduceLeDiff, Nat.zero_add, Nat.add_zero, ↓reduceIte, Bool.not_true, Bool.not_false, decide_true, decide_false, eq_self, bne_self_eq_false, List.getElem?_cons_zero, List.getElem?_cons_succ, decide_eq_true_eq, Bool.false_eq_true, Bool.true_eq_false, reduceCtorEq, Nat.le_refl, e1, e2, e3, hnb, a1, a2, hgt, e4, e6, hi]
                exact ⟨_, _, _, rfl, o4', ⟨z, _, rfl, rfl, u4⟩, f4'⟩
              | false =>
                by_cases k4 : r.code < 0
                · rw [hear_err hgd hoff hi k4, hD]
                  simp only [run0, run1, run2, run3, run4, noSlot, ownS, ownK, memN, RO.dst, lk, drop, forget, number, Nat.reduceBEq, cut?, splice?, builds, List.length_cons, List.length_nil, List.drop_succ_cons, List.drop_zero, List.take_succ_cons, List.take_zero, List.cons_append, List.nil_append, List.append_nil, List.drop_nil, List.take_nil, Nat.reduceAdd, Nat.reduceLeDiff, Nat.zero_add, Nat.add_zero, ↓reduceIte, Bool.not_true, Bool.not_false, decide_true, decide_false, eq_self, bne_self_eq_false, List.getElem?_cons_zero, List.getElem?_cons_succ, decide_eq_true_eq, Bool.false_eq_true, Bool.true_eq_false, reduceCtorEq, Nat.le_refl, e1, e2, e3, hnb, a1, a2, hgt, e4, e6, hi, k4, hfree]
                  exact ⟨_, _, _, rfl, o4', ⟨z, _, rfl, rfl, u4⟩, f4'⟩
                · rw [hear_done hgd hoff hi k4, hD]
                  simp only [run0, run1, run2, run3, run4, noSlot, ownS, ownK, memN, RO.dst, lk, drop, forget, number, Nat.reduceBEq, cut?, splice?, builds, List.length_cons, List.length_nil, List.drop_succ_cons, List.drop_zero, List.take_succ_cons, List.take_zero, List.cons_append, List.nil_append, List.append_nil, List.drop_nil, List.take_nil, Nat.reduceAdd, Nat.reduceLeDiff, Nat.zero_add, Nat.add_zero, ↓reduceIte, Bool.not_true, Bool.not_false, decide_true, decide_false, eq_self, bne_self_eq_false, List.getElem?_cons_zero, List.getElem?_cons_succ, decide_eq_true_eq, Bool.false_eq_true, Bool.true_eq_false, reduceCtorEq, Nat.le_refl, e1, e2, e3, hnb, a1, a2, hgt, e4, e6, hi, k4, hfree]
                  exact ⟨_, _, _, rfl, o4', ⟨z, _, rfl, rfl, u4⟩, f4'⟩
end
end Go.Proofs.Ytlbagejkjkfkjaa.A
/- A drawn client. -/
namespace Go.Proofs.Ytlbagejkjkfkjaa.A
open Go
set_option linter.unusedSimpArgs false
set_option linter.unusedVariables false
theorem wrapI_in (z : Int) : -9223372036854775808 ≤ IntKind.i64.wrap z ∧ IntKind.i64.wrap z ≤ 9223372036854775807 := by
  show -9223372036854775808 ≤ (if (true && decide (z % 18446744073709551616 ≥ 9223372036854775808)) = true then z % 18446744073709551616 - 18446744073709551616 else z % 18446744073709551616) ∧ (if (true && decide (z % 18446744073709551616 ≥ 9223372036854775808)) = true then z % 18446744073709551616 - 18446744073709551616 else z % 18446744073709551616) ≤ _
  simp only [Bool.true_and, decide_eq_true_eq]
  split <;> omega
/-! ### what keeps a client right -/
theorem client_parts {c : Client} (g : c.good = true) : (1 ≤ c.id ∧ c.id ≤ 999) ∧ (0 ≤ c.seq ∧ c.seq ≤ 1000000) ∧ c.chart.good = true ∧ (c.busy = true → (0 ≤ c.ask.op ∧ c.ask.op ≤ 8) ∧ c.ask.epoch = 0 ∧ (1 ≤ c.tries ∧ c.tries ≤ 6) ∧ 0 < c.seq) ∧ (c.busy = false → c.tries = 0 ∧ c.ask = Request.none_) := by
  simp only [Client.good, Bool.and_eq_true, inR, decide_eq_true_eq] at g
  obtain ⟨g1, g2, g3, g4⟩ := g
  refine ⟨g1, g2, g3, fun h => ?_, fun h => ?_⟩
  · rw [h, cond_true] at g4; simpa [and_assoc] using g4
  · rw [h, cond_false] at g4; simpa using g4
theorem client_good {c : Client} (h1 : 1 ≤ c.id ∧ c.id ≤ 999) (h2 : 0 ≤ c.seq ∧ c.seq ≤ 1000000) (h3 : c.chart.good = true) (h4 : c.busy = true → (0 ≤ c.ask.op ∧ c.ask.op ≤ 8) ∧ c.ask.epoch = 0 ∧ (1 ≤ c.tries ∧ c.tries ≤ 6) ∧ 0 < c.seq) (h5 : c.busy = false → c.tries = 0 ∧ c.ask = Request.none_) : c.good = true := by
  simp only [Client.good, Bool.and_eq_true, inR, decide_eq_true_eq]
  refine ⟨h1, h2, h3, ?_⟩
  cases hb : c.busy with
  | true => simpa [and_assoc] using h4 hb
  | false => simpa using h5 hb
theorem Request.none_ok : Request.none_.Ok := ⟨by simp [Request.none_], by simp [Request.none_], by simp [Request.none_], by simp [Request.none_], by simp [Request.none_]⟩
/-- A right client, its bounds. -/
structure CGood (c : Client) : Prop where
  good : c.good = true
  ok : c.Ok
  small : c.Small
theorem CGood.ask {c : Client} (w : CGood c) {q : Request} (okq : q.Ok) : CGood (clientAsk c q).1 ∧ c.seq ≤ (clientAsk c q).1.seq ∧ (clientAsk c q).1.seq ≤ c.seq + 1 := by
  cases hc : (c.good && (!c.busy && (inR q.op 0 8 && c.seq != 1000000))) with
  | false => rw [clientAsk_no hc]; exact ⟨w, Int.le_refl _, by show c.seq ≤ c.seq + 1; omega⟩
  | true =>
    rw [clientAsk_yes hc]
    simp only [Bool.and_eq_true, inR, decide_eq_true_eq, bne_iff_ne, Bool.not_eq_true'] at hc
    obtain ⟨hg, hb, hop, hs⟩ := hc
    obtain ⟨p1, p2, p3, _, _⟩ := client_parts w.good
    refine ⟨⟨client_good p1 ⟨by show 0 ≤ c.seq + 1; omega, by show c.seq + 1 ≤ 1000000; omega⟩ p3 (fun _ => ⟨hop, rfl, by simp [Client.asks], by show 0 < c.seq + 1; omega⟩) (fun h => by cases h), ⟨w.ok.id, ⟨by show -9223372036854775808 ≤ c.seq + 1; omega, by show c.seq + 1 ≤ _; omega⟩, w.ok.chart, by simp [Client.asks], ⟨by simp [Client.asks], okq.op, okq.id, okq.amount, okq.tx⟩⟩, w.small⟩, by show c.seq ≤ c.seq + 1; omega, Int.le_refl _⟩
theorem CGood.again {c : Client} (w : CGood c) : CGood (clientAgain c).1 ∧ (clientAgain c).1.seq = c.seq := by
  unfold clientAgain
  cases hc : (c.good && (c.busy && c.tries != 6)) with
  | false => exact ⟨w, rfl⟩
  | true =>
    simp only [Bool.and_eq_true, bne_iff_ne] at hc
    obtain ⟨hg, hb, ht⟩ := hc
    obtain ⟨p1, p2, p3, p4, _⟩ := client_parts w.good
    obtain ⟨q1, q2, q3, q4⟩ := p4 hb
    exact ⟨⟨client_good p1 p2 p3 (fun _ => ⟨q1, q2, ⟨by show 1 ≤ c.tries + 1; omega, by show c.tries + 1 ≤ 6; omega⟩, q4⟩) (fun h => by have h : c.busy = false := h; rw [hb] at h; cases h), ⟨w.ok.id, w.ok.seq, w.ok.chart, ⟨by show -9223372036854775808 ≤ c.tries + 1; omega, by show c.tries + 1 ≤ _; omega⟩, w.ok.ask⟩, w.small⟩, rfl⟩
theorem CGood.stop {c : Client} (w : CGood c) : CGood c.stop := by
  obtain ⟨p1, p2, p3, _, _⟩ := client_parts w.good
  exact ⟨client_good p1 p2 p3 (fun h => by cases h) (fun _ => ⟨rfl, rfl⟩), ⟨w.ok.id, w.ok.seq, w.ok.chart, by simp [Client.stop], Request.none_ok⟩, w.small⟩
theorem CGood.takes {c : Client} (w : CGood c) {r : Reply} (okr : r.Ok) (smr : r.Small) : CGood (c.takes r) := by
  unfold Client.takes
  cases hc : (r.chart.good && decide (c.chart.epoch < r.chart.epoch)) with
  | false => exact w
  | true =>
    simp only [Bool.and_eq_true] at hc
    obtain ⟨p1, p2, p3, p4, p5⟩ := client_parts w.good
    exact ⟨client_good p1 p2 hc.1 p4 p5, ⟨w.ok.id, w.ok.seq, okr.chart, w.ok.tries, w.ok.ask⟩, smr⟩
theorem CGood.hear {c : Client} (w : CGood c) {r : Reply} (okr : r.Ok) (smr : r.Small) : CGood (clientHear c r).1 ∧ (clientHear c r).1.seq = c.seq := by
  have ht := w.takes okr smr
  obtain ⟨_, h2, _⟩ := Client.takes_id (c := c) (r := r)
  cases h0 : c.off r with
  | true => rw [hear_off w.good h0]; exact ⟨ht, h2⟩
  | false =>
    cases h1 : inR r.code 8 10 with
    | true => rw [hear_again w.good h0 h1]; exact ⟨ht, h2⟩
    | false =>
      by_cases h3 : r.code < 0
      · rw [hear_err w.good h0 h1 h3]; exact ⟨ht.stop, h2⟩
      · rw [hear_done w.good h0 h1 h3]; exact ⟨ht.stop, h2⟩
section
variable {F : Nat → Option RF} {Z : CallF} {h0 h : Heap} {k : Nat} {x y : Cell} {code : List Int} {rows : List (List Cell)}
theorem l16DrawRequest_c (hS : Has F tS01d) (hS10 : Has F tS10) (hS16 : Has F tS16) (c : Cur h k x code) : ∃ (q : Request) (h' : Heap), call F Z 220 [.c (.ptr k 0 0)] h = some (.agg q.enc, h') ∧ q.Ok ∧ Dr k h h' ∧ Cur h' k x code := by
  obtain ⟨r1, h1, e1, r10, r1n, _, m1, c1⟩ := l01Below_c (Z := Z) hS c 11
  have r1l := r1n (by omega)
  have hw1 : IntKind.i64.wrap (r1 - 1) = r1 - 1 := wrapI _ (by omega) (by omega)
  obtain ⟨r2, h2, e2, hr2, d2, c2⟩ := pick_lit (Z := Z) hS c1 [0, 2, 3, 8, 4, r1 - 1] (by simp) (by simp)
  obtain ⟨r3, h3, e3, hr3, d3, c3⟩ := l10DrawId_c (Z := Z) hS hS10 c2
  obtain ⟨r4, h4, e4, r40, r4n, _, m4, c4⟩ := l01Below_c (Z := Z) hS c3 3
  obtain ⟨r5, h5, e5, hr5, m5, c5⟩ := l10DrawAmount_c (Z := Z) hS hS10 c4
  obtain ⟨r6, h6, e6, r60, r6n, _, m6, c6⟩ := l01Below_c (Z := Z) hS c5 2
  have r4l := r4n (by omega)
  have r6l := r6n (by omega)
  simp only [List.map_cons, List.map_nil, int_enc, List.length_cons, List.length_nil, Nat.zero_add, Nat.reduceAdd] at e2
  rw [call_run F Z (hS16.lk (g := 220) rfl) _ _ rfl]
  simp only [run0, run1, run2, run3, run4, noSlot, ownS, ownK, memN, RO.dst, lk, drop, forget, number, Nat.reduceBEq, cut?, splice?, builds, List.length_cons, List.length_nil, List.drop_succ_cons, List.drop_zero, List.take_succ_cons, List.take_zero, List.cons_append, List.nil_append, List.append_nil, List.drop_nil, List.take_nil, Nat.reduceAdd, Nat.reduceLeDiff, Nat.zero_add, Nat.add_zero, ↓reduceIte, Bool.not_true, Bool.not_false, decide_true, decide_false, eq_self, bne_self_eq_false, List.getElem?_cons_zero, List.getElem?_cons_succ, decide_eq_true_eq, Bool.false_eq_true, Bool.true_eq_false, reduceCtorEq, Nat.le_refl, List.replicate_succ, List.replicate_zero, fills, and_self, List.set_cons_zero, List.set_cons_succ, Nat.reduceLT, Nat.zero_lt_succ, Nat.zero_lt_one, e1, hw1, e2, e3, e4, e5, e6]
  refine ⟨⟨r6, r2, r3, r5, r4⟩, _, rfl, ⟨by show -9223372036854775808 ≤ r6 ∧ r6 ≤ 9223372036854775807; omega, ?_, hr3, hr5, by show -9223372036854775808 ≤ r4 ∧ r4 ≤ 9223372036854775807; omega⟩, ((((m1.dr.trans d2).trans d3).trans m4.dr).trans m5.dr).trans m6.dr, c6⟩
  simp only [List.mem_cons, List.not_mem_nil, or_false] at hr2
  show -9223372036854775808 ≤ r2 ∧ r2 ≤ 9223372036854775807
  omega
set_option maxHeartbeats 1000000 in
theorem l16DrawReply_c (hS : Has F tS01d) (hS10 : Has F tS10) (hS16 : Has F tS16) (w : Cur h k x code) {cs ds : List Cell} {c : Client} {d : Chart} {fp fq : List Nat} (v : Client.RI h cs c fp) (okc : c.Ok) (u : Chart.RI h ds d fq) (hk : k ∉ fq) (okd : d.Ok) (smd : d.Small) :
    ∃ (r : Reply) (rs : List Cell) (h' : Heap) (fr : List Nat), call F Z 252 [.c (.ptr k 0 0), .agg cs, .agg ds] h = some (.agg rs, h') ∧ Reply.RI h' rs r fr ∧ r.Ok ∧ r.Small ∧ Dr k h h' ∧ Cur h' k x code := by
  obtain ⟨l1, l2, l3⟩ := Chart.lenI u
  obtain ⟨r2, h2, e2, hr2, d2, c2⟩ := pick_lit (Z := Z) hS w [0, 0, 0, 2, 4, 8, 9, 10, 11, -1] (by simp) (by simp)
  obtain ⟨r3, h3, e3, hr3, m3, c3⟩ := l10DrawAmount_c (Z := Z) hS hS10 c2
  obtain ⟨b4, h4, e4, m4, c4⟩ := l01Once_c (Z := Z) hS c3 2
  obtain ⟨r5, h5, e5, _, _, _, m5, c5⟩ := l01Below_c (Z := Z) hS c4 10
  have dr := ((d2.trans m3.dr).trans m4.dr).trans m5.dr
  have u5 := Chart.okI.dr u dr hk
  simp only [List.map_cons, List.map_nil, int_enc, List.length_cons, List.length_nil, Nat.zero_add, Nat.reduceAdd] at e2
  obtain ⟨xc, pc, rfl, _, _⟩ := v
  obtain ⟨xd, pd, rfl, rfl, ud⟩ := u5
  have hr2b : -9223372036854775808 ≤ r2 ∧ r2 ≤ 9223372036854775807 := by
    simp only [List.mem_cons, List.not_mem_nil, or_false] at hr2
    omega
  have z1 : SlR 7 (Fl Range.enc) h5 .nil [] [] := SlR.nil _ _ _
  rw [call_run F Z (hS16.lk (g := 252) rfl) _ _ rfl]
  have v5 := okc.id
  have v6 := okc.seq
  have okz : (⟨0, [], false, 0, 0⟩ : Chart).Ok := by constructor <;> simp
  have smz : (⟨0, [], false, 0, 0⟩ : Chart).Small := by constructor <;> simp
  have wI : ∀ z : Int, -9223372036854775808 ≤ IntKind.i64.wrap z ∧ IntKind.i64.wrap z ≤ 9223372036854775807 := wrapI_in
  have fin : ∀ (id sq : Int) (d' : Chart) (x' : Cell) (fr : List Nat), SlR 7 (Fl Range.enc) h5 x' d'.ranges fr → d'.Ok → d'.Small → (-9223372036854775808 ≤ id ∧ id ≤ 9223372036854775807) → (-9223372036854775808 ≤ sq ∧ sq ≤ 9223372036854775807) →
      ∃ (r : Reply) (rs : List Cell) (h' : Heap) (fr : List Nat), some (V.agg [.int .i64 id, .int .i64 sq, .int .i64 r2, .int .u64 r3, .int .i64 d'.epoch, x', .bool d'.moving, .int .u64 d'.lo, .int .i64 d'.to], h5) = some (.agg rs, h') ∧ Reply.RI h' rs r fr ∧ r.Ok ∧ r.Small ∧ Dr k h h' ∧ Cur h' k x code :=
    fun id sq d' x' fr u' okd' smd' hi hs => ⟨⟨id, sq, r2, r3, d'⟩, _, _, fr, rfl, ⟨x', fr, rfl, rfl, u'⟩, ⟨hi, hs, hr2b, hr3, okd'⟩, smd', dr, c5⟩
  cases b4 with
  | true =>
    cases q0 : (r5 == 0) with
    | true => simp only [run0, run1, run2, run3, run4, noSlot, ownS, ownK, memN, RO.dst, lk, drop, forget, number, Nat.reduceBEq, cut?, splice?, builds, List.length_cons, List.length_nil, List.drop_succ_cons, List.drop_zero, List.take_succ_cons, List.take_zero, List.cons_append, List.nil_append, List.append_nil, List.drop_nil, List.take_nil, Nat.reduceAdd, Nat.reduceLeDiff, Nat.zero_add, Nat.add_zero, ↓reduceIte, Bool.not_true, Bool.not_false, decide_true, decide_false, eq_self, bne_self_eq_false, List.getElem?_cons_zero, List.getElem?_cons_succ, decide_eq_true_eq, Bool.false_eq_true, Bool.true_eq_false, reduceCtorEq, Nat.le_refl, List.replicate_succ, List.replicate_zero, fills, and_self, List.set_cons_zero, List.set_cons_succ, Nat.reduceLT, Nat.zero_lt_succ, Nat.zero_lt_one, e2, e3, e4, e5, q0]; exact fin _ _ d _ _ ud okd smd (wI _) v6
    | false =>
      cases q1 : (r5 == 1) with
      | true => simp only [run0, run1, run2, run3, run4, noSlot, ownS, ownK, memN, RO.dst, lk, drop, forget, number, Nat.reduceBEq, cut?, splice?, builds, List.length_cons, List.length_nil, List.drop_succ_cons, List.drop_zero, List.take_succ_cons, List.take_zero, List.cons_append, List.nil_append, List.append_nil, List.drop_nil, List.take_nil, Nat.reduceAdd, Nat.reduceLeDiff, Nat.zero_add, Nat.add_zero, ↓reduceIte, Bool.not_true, Bool.not_false, decide_true, decide_false, eq_self, bne_self_eq_false, List.getElem?_cons_zero, List.getElem?_cons_succ, decide_eq_true_eq, Bool.false_eq_true, Bool.true_eq_false, reduceCtorEq, Nat.le_refl, List.replicate_succ, List.replicate_zero, fills, and_self, List.set_cons_zero, List.set_cons_succ, Nat.reduceLT, Nat.zero_lt_succ, Nat.zero_lt_one, e2, e3, e4, e5, q0, q1]; exact fin _ _ d _ _ ud okd smd v5 (wI _)
      | false => simp only [run0, run1, run2, run3, run4, noSlot, ownS, ownK, memN, RO.dst, lk, drop, forget, number, Nat.reduceBEq, cut?, splice?, builds, List.length_cons, List.length_nil, List.drop_succ_cons, List.drop_zero, List.take_succ_cons, List.take_zero, List.cons_append, List.nil_append, List.append_nil, List.drop_nil, List.take_nil, Nat.reduceAdd, Nat.reduceLeDiff, Nat.zero_add, Nat.add_zero, ↓reduceIte, Bool.not_true, Bool.not_false, decide_true, decide_false, eq_self, bne_self_eq_false, List.getElem?_cons_zero, List.getElem?_cons_succ, decide_eq_true_eq, Bool.false_eq_true, Bool.true_eq_false, reduceCtorEq, Nat.le_refl, List.replicate_succ, List.replicate_zero, fills, and_self, List.set_cons_zero, List.set_cons_succ, Nat.reduceLT, Nat.zero_lt_succ, Nat.zero_lt_one, e2, e3, e4, e5, q0, q1]; exact fin _ _ d _ _ ud okd smd v5 v6
  | false =>
    cases q0 : (r5 == 0) with
    | true => simp only [run0, run1, run2, run3, run4, noSlot, ownS, ownK, memN, RO.dst, lk, drop, forget, number, Nat.reduceBEq, cut?, splice?, builds, List.length_cons, List.length_nil, List.drop_succ_cons, List.drop_zero, List.take_succ_cons, List.take_zero, List.cons_append, List.nil_append, List.append_nil, List.drop_nil, List.take_nil, Nat.reduceAdd, Nat.reduceLeDiff, Nat.zero_add, Nat.add_zero, ↓reduceIte, Bool.not_true, Bool.not_false, decide_true, decide_false, eq_self, bne_self_eq_false, List.getElem?_cons_zero, List.getElem?_cons_succ, decide_eq_true_eq, Bool.false_eq_true, Bool.true_eq_false, reduceCtorEq, Nat.le_refl, List.replicate_succ, List.replicate_zero, fills, and_self, List.set_cons_zero, List.set_cons_succ, Nat.reduceLT, Nat.zero_lt_succ, Nat.zero_lt_one, e2, e3, e4, e5, q0]; exact fin _ _ ⟨0, [], false, 0, 0⟩ _ _ (SlR.nil _ _ _) okz smz (wI _) v6
    | false =>
      cases q1 : (r5 == 1) with
      | true => simp only [run0, run1, run2, run3, run4, noSlot, ownS, ownK, memN, RO.dst, lk, drop, forget, number, Nat.reduceBEq, cut?, splice?, builds, List.length_cons, List.length_nil, List.drop_succ_cons, List.drop_zero, List.take_succ_cons, List.take_zero, List.cons_append, List.nil_append, List.append_nil, List.drop_nil, List.take_nil, Nat.reduceAdd, Nat.reduceLeDiff, Nat.zero_add, Nat.add_zero, ↓reduceIte, Bool.not_true, Bool.not_false, decide_true, decide_false, eq_self, bne_self_eq_false, List.getElem?_cons_zero, List.getElem?_cons_succ, decide_eq_true_eq, Bool.false_eq_true, Bool.true_eq_false, reduceCtorEq, Nat.le_refl, List.replicate_succ, List.replicate_zero, fills, and_self, List.set_cons_zero, List.set_cons_succ, Nat.reduceLT, Nat.zero_lt_succ, Nat.zero_lt_one, e2, e3, e4, e5, q0, q1]; exact fin _ _ ⟨0, [], false, 0, 0⟩ _ _ (SlR.nil _ _ _) okz smz v5 (wI _)
      | false => simp only [run0, run1, run2, run3, run4, noSlot, ownS, ownK, memN, RO.dst, lk, drop, forget, number, Nat.reduceBEq, cut?, splice?, builds, List.length_cons, List.length_nil, List.drop_succ_cons, List.drop_zero, List.take_succ_cons, List.take_zero, List.cons_append, List.nil_append, List.append_nil, List.drop_nil, List.take_nil, Nat.reduceAdd, Nat.reduceLeDiff, Nat.zero_add, Nat.add_zero, ↓reduceIte, Bool.not_true, Bool.not_false, decide_true, decide_false, eq_self, bne_self_eq_false, List.getElem?_cons_zero, List.getElem?_cons_succ, decide_eq_true_eq, Bool.false_eq_true, Bool.true_eq_false, reduceCtorEq, Nat.le_refl, List.replicate_succ, List.replicate_zero, fills, and_self, List.set_cons_zero, List.set_cons_succ, Nat.reduceLT, Nat.zero_lt_succ, Nat.zero_lt_one, e2, e3, e4, e5, q0, q1]; exact fin _ _ ⟨0, [], false, 0, 0⟩ _ _ (SlR.nil _ _ _) okz smz v5 v6
end
end Go.Proofs.Ytlbagejkjkfkjaa.A
/- A drawn client, a newer chart, a request. -/
namespace Go.Proofs.Ytlbagejkjkfkjaa.A
open Go
set_option linter.unusedSimpArgs false
set_option linter.unusedVariables false
theorem quiet_on {a hq : Heap} (o : On ⟨a.next, a.next, a.get⟩ hq) : On a (Heap.mk hq.next a.floor hq.get) := ⟨⟨o.ext.1, o.ext.2⟩, rfl⟩
def ZCl : List Cell := [.int .i64 0, .int .i64 0, .int .i64 0, .nil, .bool false, .int .u64 0, .int .i64 0, .bool false, .int .i64 0, .int .i64 0, .int .i64 0, .int .u64 0, .int .u64 0, .int .i64 0]
def ZCh : List Cell := [.int .i64 0, .nil, .bool false, .int .u64 0, .int .i64 0]
section
variable {F : Nat → Option RF} {Z : CallF} {h0 g h : Heap} {k : Nat} {x y : Cell} {code : List Int} {rows : List (List Cell)} {cs ds : List Cell} {c : Client} {d : Chart} {fp fq : List Nat}
set_option maxHeartbeats 4000000 in
theorem right_turn (hS : Has F tS01d) (hS10 : Has F tS10) (hS11 : Has F tS11) (hS12 : Has F tS12) (hS16 : Has F tS16) (w : Cur g k x code) (v : Client.RI g cs c fp) (hp : k ∉ fp) (u : Chart.RI g ds d fq) (hk : k ∉ fq) (wc : CGood c) (okd : d.Ok) (smd : d.Small) {i : Int} (hi : 0 < i ∧ i ≤ 100) :
    ∃ cs' c' fp' g', Dr k g g' ∧ Cur g' k x code ∧ Client.RI g' cs' c' fp' ∧ k ∉ fp' ∧ CGood c' ∧ c'.seq ≤ c.seq + 1 ∧
      loop F Z [0, 4, 5, 7, 9, 10] r219L0 ⟨[(0, .c (.ptr k 0 0)), (10, .c (.int .i64 i))], [(4, 4, 0), (5, 5, 0), (7, 7, 0), (9, 9, 0)], [(4, ZCl), (5, ZCh), (7, ds), (9, cs)], g⟩ =
      loop F Z [0, 4, 5, 7, 9, 10] r219L0 ⟨[(0, .c (.ptr k 0 0)), (10, .c (.int .i64 (i - 1)))], [(4, 4, 0), (5, 5, 0), (7, 7, 0), (9, 9, 0)], [(4, ZCl), (5, ZCh), (7, ds), (9, cs')], g'⟩ := by
  have hws : IntKind.i64.wrap (i - 1) = i - 1 := wrapI _ (by omega) (by omega)
  have hpos : i > 0 := hi.1
  obtain ⟨l1, l2, l3⟩ := Client.lenI v
  obtain ⟨k1, k2, k3⟩ := Chart.lenI u
  obtain ⟨n, h1, e1, n0, nn, _, m1, c1⟩ := l01Below_c (Z := Z) hS w 4
  have hn := nn (by omega)
  have v1 := Client.okI.dr v m1.dr hp
  have u1 := Chart.okI.dr u m1.dr hk
  by_cases h01 : n = 0 ∨ n = 1
  · obtain ⟨q, h2, e2, okq, d2, c2⟩ := l16DrawRequest_c (Z := Z) hS hS10 hS16 c1
    have v2 := Client.okI.dr v1 d2 hp
    obtain ⟨cs', hq, fq', e3, o3, v3, f3⟩ := sClientAsk_c (Z := Z) (h := ⟨h2.next, h2.next, h2.get⟩) hS hS11 hS12 hS16 (Nat.le_refl _) (Client.okI.up v2 _) q wc.ok wc.small okq
    have v4 := Client.okI.up v3 h2.floor
    have o4 := quiet_on o3
    obtain ⟨g3, m3⟩ : ∃ g', Heap.mk hq.next h2.floor hq.get = g' := ⟨_, rfl⟩
    rw [m3] at v4 o4
    obtain ⟨wc', s1, s2⟩ := wc.ask okq
    obtain ⟨a1, a2, a3⟩ := Client.lenI v4
    refine ⟨cs', _, fq', g3, (m1.dr.trans d2).trans (o4.dr k), c2.on o4, v4, c2.far ⟨f3.lo, f3.nd⟩, wc', s2, ?_⟩
    rw [loop_run]
    conv in (codeF _ _ r219L0 _) => unfold r219L0
    rcases h01 with rfl | rfl
    · simp only [run0, run1, run2, run3, run4, noSlot, ownS, ownK, memN, RO.dst, lk, drop, forget, number, Nat.reduceBEq, cut?, splice?, builds, List.length_cons, List.length_nil, List.drop_succ_cons, List.drop_zero, List.take_succ_cons, List.take_zero, List.cons_append, List.nil_append, List.append_nil, List.drop_nil, List.take_nil, Nat.reduceAdd, Nat.reduceLeDiff, Nat.zero_add, Nat.add_zero, ↓reduceIte, Bool.not_true, Bool.not_false, decide_true, decide_false, eq_self, bne_self_eq_false, List.getElem?_cons_zero, List.getElem?_cons_succ, decide_eq_true_eq, Bool.false_eq_true, Bool.true_eq_false, reduceCtorEq, Nat.le_refl, hpos, e1, l1, l2, l3, e2, e3, m3, a1, a2, a3, hws, show ((0 : Int) == 0) = true from rfl]
    · simp only [run0, run1, run2, run3, run4, noSlot, ownS, ownK, memN, RO.dst, lk, drop, forget, number, Nat.reduceBEq, cut?, splice?, builds, List.length_cons, List.length_nil, List.drop_succ_cons, List.drop_zero, List.take_succ_cons, List.take_zero, List.cons_append, List.nil_append, List.append_nil, List.drop_nil, List.take_nil, Nat.reduceAdd, Nat.reduceLeDiff, Nat.zero_add, Nat.add_zero, ↓reduceIte, Bool.not_true, Bool.not_false, decide_true, decide_false, eq_self, bne_self_eq_false, List.getElem?_cons_zero, List.getElem?_cons_succ, decide_eq_true_eq, Bool.false_eq_true, Bool.true_eq_false, reduceCtorEq, Nat.le_refl, hpos, e1, l1, l2, l3, e2, e3, m3, a1, a2, a3, hws, show ((1 : Int) == 0) = false from rfl, show ((1 : Int) == 1) = true from rfl]
  have n1 : (n == 0) = false := by simp; omega
  have n2 : (n == 1) = false := by simp; omega
  by_cases h2 : n = 2
  · obtain ⟨cs', hq, fq', e3, o3, v3, f3⟩ := sClientAgain_c (Z := Z) hS hS11 hS12 hS16 c1.le v1 wc.ok wc.small
    obtain ⟨wc', s1⟩ := wc.again
    obtain ⟨a1, a2, a3⟩ := Client.lenI v3
    have n3 : (n == 2) = true := by simp [h2]
    refine ⟨cs', _, fq', hq, m1.dr.trans (o3.dr k), c1.on o3, v3, c1.far f3, wc', by omega, ?_⟩
    rw [loop_run]
    conv in (codeF _ _ r219L0 _) => unfold r219L0
    simp only [run0, run1, run2, run3, run4, noSlot, ownS, ownK, memN, RO.dst, lk, drop, forget, number, Nat.reduceBEq, cut?, splice?, builds, List.length_cons, List.length_nil, List.drop_succ_cons, List.drop_zero, List.take_succ_cons, List.take_zero, List.cons_append, List.nil_append, List.append_nil, List.drop_nil, List.take_nil, Nat.reduceAdd, Nat.reduceLeDiff, Nat.zero_add, Nat.add_zero, ↓reduceIte, Bool.not_true, Bool.not_false, decide_true, decide_false, eq_self, bne_self_eq_false, List.getElem?_cons_zero, List.getElem?_cons_succ, decide_eq_true_eq, Bool.false_eq_true, Bool.true_eq_false, reduceCtorEq, Nat.le_refl, hpos, e1, l1, l2, l3, e3, a1, a2, a3, hws, n1, n2, n3]
  · obtain ⟨r, rs, h3, fr, e2, v2, okr, smr, d2, c2⟩ := l16DrawReply_c (Z := Z) hS hS10 hS16 c1 v1 wc.ok u1 hk okd smd
    have w2 := Client.okI.dr v1 d2 hp
    obtain ⟨cs', hq, fq', e3, o3, v3, f3⟩ := sClientHear_c (Z := Z) (h := ⟨h3.next, h3.next, h3.get⟩) hS hS11 hS12 hS16 (Nat.le_refl _) (Client.okI.up w2 _) (Reply.okI.up v2 _) wc.ok wc.small okr smr
    have v4 := Client.okI.up v3 h3.floor
    have o4 := quiet_on o3
    obtain ⟨g3, m3⟩ : ∃ g', Heap.mk hq.next h3.floor hq.get = g' := ⟨_, rfl⟩
    rw [m3] at v4 o4
    obtain ⟨wc', s1⟩ := wc.hear okr smr
    obtain ⟨a1, a2, a3⟩ := Client.lenI v4
    have n3 : (n == 2) = false := by simp [h2]
    refine ⟨cs', _, fq', g3, (m1.dr.trans d2).trans (o4.dr k), c2.on o4, v4, c2.far ⟨f3.lo, f3.nd⟩, wc', by omega, ?_⟩
    rw [loop_run]
    conv in (codeF _ _ r219L0 _) => unfold r219L0
    simp only [run0, run1, run2, run3, run4, noSlot, ownS, ownK, memN, RO.dst, lk, drop, forget, number, Nat.reduceBEq, cut?, splice?, builds, List.length_cons, List.length_nil, List.drop_succ_cons, List.drop_zero, List.take_succ_cons, List.take_zero, List.cons_append, List.nil_append, List.append_nil, List.drop_nil, List.take_nil, Nat.reduceAdd, Nat.reduceLeDiff, Nat.zero_add, Nat.add_zero, ↓reduceIte, Bool.not_true, Bool.not_false, decide_true, decide_false, eq_self, bne_self_eq_false, List.getElem?_cons_zero, List.getElem?_cons_succ, decide_eq_true_eq, Bool.false_eq_true, Bool.true_eq_false, reduceCtorEq, Nat.le_refl, hpos, e1, l1, l2, l3, k1, k2, k3, e2, e3, m3, a1, a2, a3, hws, n1, n2, n3]
theorem newClient_cgood {id : Int} (hi : 1 ≤ id ∧ id ≤ 999) (hg : d.good = true) (ok : d.Ok) (sm : d.Small) : CGood (newClient id d) ∧ (newClient id d).seq = 0 := by
  have hgd : (⟨id, 0, d, false, 0, Request.none_⟩ : Client).good = true := client_good hi (by simp) hg (fun h => by cases h) (fun _ => ⟨rfl, rfl⟩)
  unfold newClient
  rw [hgd]
  exact ⟨⟨hgd, ⟨by show -9223372036854775808 ≤ id ∧ id ≤ 9223372036854775807; omega, by simp, ok, by simp, Request.none_ok⟩, sm⟩, rfl⟩
set_option maxHeartbeats 4000000 in
theorem l16DrawRight_c (hS : Has F tS01d) (hS10 : Has F tS10) (hS11 : Has F tS11) (hS12 : Has F tS12) (hS16 : Has F tS16) (w : Cur h k x code) :
    ∃ (c : Client) (cs : List Cell) (d : Chart) (ds : List Cell) (h' : Heap) (fp fq : List Nat), call F Z 219 [.c (.ptr k 0 0), .c x] h = some (.tup [.agg cs, .agg ds], h') ∧ Dr k h h' ∧ Cur h' k x code ∧ Client.RI h' cs c fp ∧ k ∉ fp ∧ Chart.RI h' ds d fq ∧ k ∉ fq ∧ CGood c ∧ c.seq ≤ 10 ∧ d.good = true ∧ d.Ok ∧ d.Small := by
  obtain ⟨d0, ds0, h1, f0, e1, d1, c1, v1, r1, g0, ok0, sm0⟩ := l12DrawRight_c (Z := Z) hS hS11 hS12 w
  obtain ⟨y, h2, qs, e2, w2, hql, okq⟩ := l12DrawCmds_c (Z := Z) hS hS11 hS12 c1.le (Cux.self c1)
  obtain ⟨fy, q1, q2, _⟩ := w2.sep
  have hk0 := w.far r1
  have v2 := Chart.okI.dr v1 w2.cux.dr hk0
  obtain ⟨ds, z, hq, f1, f2, e3, o3, v3, r3, _⟩ := sPlayMap_c (Z := Z) (h := ⟨h2.next, h2.next, h2.get⟩) hS hS11 hS12 (Nat.le_refl _) (Chart.okI.up v2 _) ((SlR.ofRaw (enc := MapCmd.enc) q1).up (Fl.ok _) _) ok0 sm0 okq
  have v4 := Chart.okI.up v3 h2.floor
  have o4 := quiet_on o3
  obtain ⟨g3, m3⟩ : ∃ g', Heap.mk hq.next h2.floor hq.get = g' := ⟨_, rfl⟩
  rw [m3] at v4 o4
  have hd : playMap d0 qs = qs.foldl mapStep (d0, []) := by simp only [playMap, g0, Bool.true_and, show decide (qs.length ≤ 200) = true from by simp; omega, cond_true]
  obtain ⟨g1, g2⟩ := playMap_good qs (a := (d0, [])) g0 ok0 okq
  rw [← hd] at g1 g2
  have sm1 : (playMap d0 qs).1.Small := playMap_small sm0 qs
  generalize (playMap d0 qs).1 = d at *
  have c4 := w2.cux.cur.on o4
  have hk1 : k ∉ f1 := w2.cux.cur.far ⟨r3.lo, r3.nd⟩
  have v0' := Chart.okI.on v2 o4
  obtain ⟨n, h4, e4, n0, nn, _, m4, c5⟩ := l01Below_c (Z := Z) hS c4 9
  have hn := nn (by omega)
  have hw1 : IntKind.i64.wrap (1 + n) = 1 + n := wrapI _ (by omega) (by omega)
  have v0 := Chart.okI.dr v0' m4.dr hk0
  have v5 := Chart.okI.dr v4 m4.dr hk1
  obtain ⟨cs, hq', f5, e5, o5, vc, r5⟩ := sNewClient_c (Z := Z) (h := ⟨h4.next, h4.next, h4.get⟩) hS hS11 hS12 hS16 (Nat.le_refl _) (1 + n) (Chart.okI.up v0 _) ok0 (by have := sm0; simp only [Chart.Small] at this; omega)
  have vc5 := Client.okI.up vc h4.floor
  have o6 := quiet_on o5
  obtain ⟨g5, m5⟩ : ∃ g', Heap.mk hq'.next h4.floor hq'.get = g' := ⟨_, rfl⟩
  rw [m5] at vc5 o6
  have c6 := c5.on o6
  have v6 := Chart.okI.on v5 o6
  obtain ⟨wc, hs⟩ := newClient_cgood (d := d0) (id := 1 + n) (by omega) g0 ok0 sm0
  generalize newClient (1 + n) d0 = c0 at *
  obtain ⟨t, h7, e7, t0, tn, _, m7, c7⟩ := l01Below_c (Z := Z) hS c6 8
  have ht := tn (by omega)
  have hkc : k ∉ f5 := c5.far ⟨r5.lo, r5.nd⟩
  have vc7 := Client.okI.dr vc5 m7.dr hkc
  have v7 := Chart.okI.dr v6 m7.dr hk1
  have drt := (((d1.trans w2.cux.dr).trans (o4.dr k)).trans m4.dr).trans ((o6.dr k).trans m7.dr)
  obtain ⟨k1, k2, k3⟩ := Chart.lenI v1
  obtain ⟨l1, l2, l3⟩ := Chart.lenI v7
  obtain ⟨a1, a2, a3⟩ := Client.lenI vc7
  obtain ⟨tn', rfl⟩ : ∃ m : Nat, t = (m : Int) := ⟨t.toNat, by omega⟩
  obtain ⟨s', ⟨csn, cn, fn, gn, rfl, o1, o2, o3', o4', o5', o6'⟩, key⟩ := loop_goes (F := F) (Z := Z) (live := [0, 4, 5, 7, 9, 10]) (b := r219L0) tn' (fun i s => ∃ (cs' : List Cell) (c' : Client) (fp' : List Nat) (g' : Heap), s = ⟨[(0, .c (.ptr k 0 0)), (10, .c (.int .i64 ((tn' : Int) - (i : Nat))))], [(4, 4, 0), (5, 5, 0), (7, 7, 0), (9, 9, 0)], [(4, ZCl), (5, ZCh), (7, ds), (9, cs')], g'⟩ ∧ Dr k h7 g' ∧ Cur g' k x code ∧ Client.RI g' cs' c' fp' ∧ k ∉ fp' ∧ CGood c' ∧ c'.seq ≤ (i : Int)) (fun i s hi ⟨cs', c', fp', g', hs', p1, p2, p3, p4, p5, p6⟩ => by
    subst hs'
    obtain ⟨cs2, c2, fp2, g2, q1, q2, q3, q4, q5, q6, eq⟩ := right_turn (F := F) (Z := Z) hS hS10 hS11 hS12 hS16 p2 p3 p4 (Chart.okI.dr v7 p1 hk1) hk1 p5 g2 sm1 (i := (tn' : Int) - (i : Nat)) (by omega)
    refine ⟨_, ⟨cs2, c2, fp2, g2, rfl, p1.trans q1, q2, q3, q4, q5, by omega⟩, ?_⟩
    rw [eq, show (tn' : Int) - (i : Nat) - 1 = (tn' : Int) - ((i + 1 : Nat) : Int) by omega]) (s := ⟨[(0, .c (.ptr k 0 0)), (10, .c (.int .i64 ((tn' : Int) - ((0 : Nat) : Int))))], [(4, 4, 0), (5, 5, 0), (7, 7, 0), (9, 9, 0)], [(4, ZCl), (5, ZCh), (7, ds), (9, cs)], h7⟩) ⟨cs, c0, f5, h7, rfl, Dr.refl k h7, c7, vc7, hkc, wc, by omega⟩
  rw [show (tn' : Int) - ((0 : Nat) : Int) = (tn' : Int) by omega] at key
  obtain ⟨b1, b2, b3⟩ := Client.lenI o3'
  rw [call_run F Z (hS16.lk (g := 219) rfl) _ _ rfl]
  simp only [ZCl, ZCh] at key
  simp only [run0, run1, run2, run3, run4, noSlot, ownS, ownK, memN, RO.dst, lk, drop, forget, number, Nat.reduceBEq, cut?, splice?, builds, List.length_cons, List.length_nil, List.drop_succ_cons, List.drop_zero, List.take_succ_cons, List.take_zero, List.cons_append, List.nil_append, List.append_nil, List.drop_nil, List.take_nil, Nat.reduceAdd, Nat.reduceLeDiff, Nat.zero_add, Nat.add_zero, ↓reduceIte, Bool.not_true, Bool.not_false, decide_true, decide_false, eq_self, bne_self_eq_false, List.getElem?_cons_zero, List.getElem?_cons_succ, decide_eq_true_eq, Bool.false_eq_true, Bool.true_eq_false, reduceCtorEq, Nat.le_refl, e1, k1, k2, k3, e2, e3, m3, l1, l2, l3, e4, hw1, e5, m5, a1, a2, a3, e7, key]
  rw [loop_run]
  conv in (codeF _ _ r219L0 _) => unfold r219L0
  simp only [run0, run1, run2, run3, run4, noSlot, ownS, ownK, memN, RO.dst, lk, drop, forget, number, Nat.reduceBEq, cut?, splice?, builds, List.length_cons, List.length_nil, List.drop_succ_cons, List.drop_zero, List.take_succ_cons, List.take_zero, List.cons_append, List.nil_append, List.append_nil, List.drop_nil, List.take_nil, Nat.reduceAdd, Nat.reduceLeDiff, Nat.zero_add, Nat.add_zero, ↓reduceIte, Bool.not_true, Bool.not_false, decide_true, decide_false, eq_self, bne_self_eq_false, List.getElem?_cons_zero, List.getElem?_cons_succ, decide_eq_true_eq, Bool.false_eq_true, Bool.true_eq_false, reduceCtorEq, Nat.le_refl, show ¬ ((tn' : Int) - (tn' : Int) > 0) by omega, l1, l2, l3, b1, b2, b3]
  exact ⟨_, _, _, _, _, _, _, rfl, drt.trans o1, o2, o3', o4', Chart.okI.dr v7 o1 hk1, hk1, o5', by omega, g1, g2, sm1⟩
set_option maxHeartbeats 2000000 in
theorem DrawRightClient_c (hS : Has F tS01d) (hS10 : Has F tS10) (hS11 : Has F tS11) (hS12 : Has F tS12) (hS16 : Has F tS16) (hf : h.floor ≤ h.next) (w : Vw 19 byte_enc h x code) :
    ∃ (c : Client) (cs : List Cell) (d : Chart) (ds : List Cell) (q : Request) (h' : Heap) (fp fq : List Nat), call F Z 175 [.c x] h = some (.tup [.agg cs, .agg ds, .agg q.enc], h') ∧ On h h' ∧ Client.RI h' cs c fp ∧ Chart.RI h' ds d fq ∧ CGood c ∧ c.seq ≤ 10 ∧ d.good = true ∧ d.Ok ∧ d.Small ∧ q.Ok ∧ (0 ≤ q.op ∧ q.op ≤ 8) := by
  obtain ⟨h1, e1, o1, c1⟩ := l01New_c (Z := Z) hS hf w
  obtain ⟨c, cs, d, ds, h2, fp, fq, e2, d2, c2, v2, r2, u2, r2', g1, g2, g3, g4, g5⟩ := l16DrawRight_c (Z := Z) hS hS10 hS11 hS12 hS16 c1
  obtain ⟨q, h3, e3, okq, d3, c3⟩ := l16DrawRequest_c (Z := Z) hS hS10 hS16 c2
  have v3 := Client.okI.dr v2 d3 r2
  have u3 := Chart.okI.dr u2 d3 r2'
  have e4 := l01In_run (Z := Z) hS q.op 0 8 h3
  have on := (d2.trans d3).base o1 (Nat.le_refl _)
  obtain ⟨l1, l2, l3⟩ := Client.lenI v2
  obtain ⟨k1, k2, k3⟩ := Chart.lenI u2
  obtain ⟨q1, q2, q3, q4, q5⟩ := q
  simp only [Request.enc] at e3
  rw [call_run F Z (hS16.lk (g := 175) rfl) _ _ rfl]
  cases hi : inR q2 0 8 with
  | true =>
    simp only [hi] at e4
    simp only [run0, run1, run2, run3, run4, noSlot, ownS, ownK, memN, RO.dst, lk, drop, forget, number, Nat.reduceBEq, cut?, splice?, builds, List.length_cons, List.length_nil, List.drop_succ_cons, List.drop_zero, List.take_succ_cons, List.take_zero, List.cons_append, List.nil_append, List.append_nil, List.drop_nil, List.take_nil, Nat.reduceAdd, Nat.reduceLeDiff, Nat.zero_add, Nat.add_zero, ↓reduceIte, Bool.not_true, Bool.not_false, decide_true, decide_false, eq_self, bne_self_eq_false, List.getElem?_cons_zero, List.getElem?_cons_succ, decide_eq_true_eq, Bool.false_eq_true, Bool.true_eq_false, reduceCtorEq, Nat.le_refl, e1, e2, l1, l2, l3, k1, k2, k3, e3, e4]
    exact ⟨c, cs, d, ds, ⟨q1, q2, q3, q4, q5⟩, _, fp, fq, rfl, on, v3, u3, g1, g2, g3, g4, g5, okq, by simpa [inR] using hi⟩
  | false =>
    simp only [hi] at e4
    simp only [run0, run1, run2, run3, run4, noSlot, ownS, ownK, memN, RO.dst, lk, drop, forget, number, Nat.reduceBEq, cut?, splice?, builds, List.length_cons, List.length_nil, List.drop_succ_cons, List.drop_zero, List.take_succ_cons, List.take_zero, List.cons_append, List.nil_append, List.append_nil, List.drop_nil, List.take_nil, Nat.reduceAdd, Nat.reduceLeDiff, Nat.zero_add, Nat.add_zero, ↓reduceIte, Bool.not_true, Bool.not_false, decide_true, decide_false, eq_self, bne_self_eq_false, List.getElem?_cons_zero, List.getElem?_cons_succ, decide_eq_true_eq, Bool.false_eq_true, Bool.true_eq_false, reduceCtorEq, Nat.le_refl, e1, e2, l1, l2, l3, k1, k2, k3, e3, e4]
    exact ⟨c, cs, d, ds, ⟨q1, 8, q3, q4, q5⟩, _, fp, fq, rfl, on, v3, u3, g1, g2, g3, g4, g5, ⟨okq.epoch, by simp, okq.id, okq.amount, okq.tx⟩, by simp⟩
end
end Go.Proofs.Ytlbagejkjkfkjaa.A
/- FnClient: what the law says, on data. -/
namespace Go.Proofs.Ytlbagejkjkfkjaa.A
open Go
set_option linter.unusedSimpArgs false
set_option linter.unusedVariables false
def Client.tried (c : Client) (n : Int) : Client := { c with tries := n }
/-- A chart of nothing. -/
def ch0 : Chart := ⟨0, [], false, 0, 0⟩
theorem ch0_good : ch0.good = false := rfl
theorem ch0_ok : ch0.Ok := by constructor <;> simp [ch0]
theorem ch0_small : ch0.Small := by constructor <;> simp [ch0]
section
variable {c b : Client} {q : Request} {d : Chart}
theorem stop_free (w : CGood c) : CGood (clientStop c).1 ∧ (clientStop c).1.busy = false ∧ (clientStop c).1.seq = c.seq := by
  unfold clientStop
  cases hb : c.busy with
  | true => simp only [w.good, Bool.and_self, cond_true]; exact ⟨w.stop, rfl, rfl⟩
  | false => simp only [w.good, Bool.and_false, cond_false]; exact ⟨w, hb, trivial⟩
theorem ask_free (w : CGood c) (hb : c.busy = false) (hs : c.seq ≤ 1000) (hop : 0 ≤ q.op ∧ q.op ≤ 8) (okq : q.Ok) : clientAsk c q = (c.asks q, (c.asks q).msg, true) ∧ CGood (c.asks q) := by
  have hc : (c.good && (!c.busy && (inR q.op 0 8 && c.seq != 1000000))) = true := by
    have h1 : inR q.op 0 8 = true := by simp [inR]; omega
    have h2 : (c.seq != 1000000) = true := by simp; omega
    rw [w.good, hb, h1, h2]; rfl
  have e := clientAsk_yes hc
  have h := (w.ask okq).1
  rw [e] at h
  exact ⟨e, h⟩
theorem again_one {t : Int} (w : CGood ((c.asks q).tried t)) (ht : 1 ≤ t ∧ t ≤ 5) : clientAgain ((c.asks q).tried t) = ((c.asks q).tried (t + 1), (c.asks q).msg, true) ∧ CGood ((c.asks q).tried (t + 1)) := by
  have e : clientAgain ((c.asks q).tried t) = ((c.asks q).tried (t + 1), (c.asks q).msg, true) := by
    unfold clientAgain
    have h1 : (((c.asks q).tried t).tries != 6) = true := by show (t != 6) = true; simp; omega
    rw [w.good, h1]; rfl
  have h := w.again.1
  rw [e] at h
  exact ⟨e, h⟩
theorem again_six (w : CGood ((c.asks q).tried 6)) : clientAgain ((c.asks q).tried 6) = ((c.asks q).tried 6, ClientMsg.none_, false) := by
  unfold clientAgain
  rw [w.good]; rfl
theorem ask_busy (hb : c.busy = true) (q : Request) : clientAsk c q = (c, ClientMsg.none_, false) := clientAsk_no (by simp [hb])
theorem takes_ch0 (i s k v : Int) : c.takes ⟨i, s, k, v, ch0⟩ = c := by
  unfold Client.takes
  rw [ch0_good]; rfl
theorem hear_old (w : CGood b) : clientHear b ⟨b.id, b.seq - 1, 0, 0, ch0⟩ = (b, -2) := by
  rw [hear_off w.good (by
    have h : ((b.seq - 1 != b.seq) : Bool) = true := by simp; omega
    simp only [Client.off, h, Bool.or_true]), takes_ch0]
theorem hear_wait (w : CGood b) (hb : b.busy = true) {k : Int} (hk : 8 ≤ k ∧ k ≤ 10) : clientHear b ⟨b.id, b.seq, k, 0, d⟩ = (b.takes ⟨b.id, b.seq, k, 0, d⟩, -1) :=
  hear_again w.good (by simp [Client.off, hb]) (by simp [inR]; omega)
theorem hear_free (w : CGood b) (hb : b.busy = true) {k : Int} (hk : 0 ≤ k ∧ k ≤ 7) : clientHear b ⟨b.id, b.seq, k, 0, ch0⟩ = (b.stop, k) := by
  rw [hear_done w.good (by simp [Client.off, hb]) (by simp [inR]; omega) (by show ¬ k < 0; omega), takes_ch0]
theorem takes_epoch (dg : d.good = true) (i s k v : Int) : (b.chart.epoch < d.epoch ∧ (b.takes ⟨i, s, k, v, d⟩).chart.epoch = d.epoch) ∨ (¬ b.chart.epoch < d.epoch ∧ (b.takes ⟨i, s, k, v, d⟩).chart.epoch = b.chart.epoch) := by
  unfold Client.takes
  by_cases h : b.chart.epoch < d.epoch
  · simp only [dg, h, decide_true, Bool.and_self, cond_true]; exact .inl ⟨trivial, trivial⟩
  · simp only [dg, h, decide_false, Bool.and_false, cond_false]; exact .inr ⟨fun h => h, trivial⟩
end
theorem msg_eqs (m : ClientMsg) : eqsR true [.i .i64, .i .i64, .i .i64, .i .i64, .i .i64, .i .u64, .i .u64, .i .i64] (some (.agg m.enc)) (some (.agg m.enc)) = some (.bool false) := by
  have hc : cellsEq? [.i .i64, .i .i64, .i .i64, .i .i64, .i .i64, .i .u64, .i .u64, .i .i64] m.enc m.enc = some true := by simp [cellsEq?, eqK, ClientMsg.enc]
  simp only [eqsR, hc, ClientMsg.len, List.length_cons, List.length_nil, and_self, if_true, Option.bind_some]; rfl
section
variable {F : Nat → Option RF} {Z : CallF} {g h : Heap} {x : Cell} {code : List Int} {bs ds : List Cell} {c : Client} {q : Request} {fp : List Nat}
theorem client_turn (hI11 : Has F tI11) (hI12 : Has F tI12) (hI16 : Has F tI16) (hLi : Has F tLibslicesIndexFuncimplRangeimplRange) (hf : g.floor ≤ g.next) {t : Int} (ht : 1 ≤ t ∧ t ≤ 5) (w : CGood ((c.asks q).tried t)) (v : Client.RI g bs ((c.asks q).tried t) fp) (A3 A4 A5 : List Cell) :
    ∃ bs' g' fp', On g g' ∧ Client.RI g' bs' ((c.asks q).tried (t + 1)) fp' ∧
      loop F Z [0, 3, 4, 5, 6, 7, 9] r174L0 ⟨[(0, .c x), (9, .c (.int .i64 t))], [(3, 3, 0), (4, 4, 0), (5, 5, 0), (6, 6, 0), (7, 7, 0)], [(3, A3), (4, A4), (5, A5), (6, bs), (7, (c.asks q).msg.enc)], g⟩ =
      loop F Z [0, 3, 4, 5, 6, 7, 9] r174L0 ⟨[(0, .c x), (9, .c (.int .i64 (t + 1)))], [(3, 3, 0), (4, 4, 0), (5, 5, 0), (6, 6, 0), (7, 7, 0)], [(3, A3), (4, A4), (5, A5), (6, bs'), (7, (c.asks q).msg.enc)], g'⟩ := by
  have hws : IntKind.i64.wrap (t + 1) = t + 1 := wrapI _ (by omega) (by omega)
  have hlt : t < 6 := by omega
  obtain ⟨l1, l2, l3⟩ := Client.lenI v
  obtain ⟨bs', h1, f1, e1, o1, v1, _⟩ := ClientAgain_c (Z := Z) hI11 hI12 hI16 hLi hf v w.ok w.small
  obtain ⟨ea, w'⟩ := again_one w ht
  rw [ea] at e1 v1
  obtain ⟨h2, e2, o2⟩ := ClientOk_c (Z := Z) hI11 hI12 hI16 hLi (o1.le hf) v1 w'.ok
  simp only [w'.good] at e2
  obtain ⟨k1, k2, k3⟩ := Client.lenI v1
  refine ⟨bs', h2, f1, o1.trans o2, Client.okI.on v1 o2, ?_⟩
  simp only at e1 e2
  have em := msg_eqs (c.asks q).msg
  generalize (c.asks q).msg = m at *
  rw [loop_run]
  conv in (codeF _ _ r174L0 _) => unfold r174L0
  simp only [run0, run1, run2, run3, run4, noSlot, ownS, ownK, memN, RO.dst, lk, drop, forget, number, Nat.reduceBEq, cut?, splice?, builds, List.length_cons, List.length_nil, List.drop_succ_cons, List.drop_zero, List.take_succ_cons, List.take_zero, List.cons_append, List.nil_append, List.append_nil, List.drop_nil, List.take_nil, Nat.reduceAdd, Nat.reduceLeDiff, Nat.zero_add, Nat.add_zero, ↓reduceIte, Bool.not_true, Bool.not_false, decide_true, decide_false, eq_self, bne_self_eq_false, List.getElem?_cons_zero, List.getElem?_cons_succ, decide_eq_true_eq, Bool.false_eq_true, Bool.true_eq_false, reduceCtorEq, Nat.le_refl, hlt, l1, l2, l3, e1, k1, k2, k3, ClientMsg.len, ClientMsg.tak, ClientMsg.drp, em, e2, hws]
end
end Go.Proofs.Ytlbagejkjkfkjaa.A
/- The bytes that a drawn law is given. -/
namespace Go.Proofs.Ytlbagejkjkfkjaa.A
open Go
set_option linter.unusedSimpArgs false
set_option linter.unusedVariables false
theorem Wf.isBytes {h : Heap} {n : Nat} {x : Cell} (w : Wf h (n + 2) shUint8S [x]) : ∃ code : List Int, Vw 19 byte_enc h x code := by
  obtain ⟨xs, fp, v, _⟩ := SlR.ofWf (R := Fl byte_enc) (A := fun _ => True) (fun r hr => by
    obtain ⟨hl, z, rfl, hz⟩ := hr
    exact ⟨z, [], ⟨rfl, rfl⟩, trivial⟩) w
  exact ⟨xs, v.vw⟩
section
variable {F : Nat → Option RF} {Z : CallF} {h : Heap} {x : Cell} {code : List Int}
theorem big_run (hL : Has F tLaws) (w : Vw 19 byte_enc h x code) : call F Z 144 [.c x] h = some (.c (.bool (decide ((code.length : Int) > 1048576))), h) := by
  rw [call_run F Z (hL.lk (g := 144) rfl) _ _ rfl]
  simp only [run0, run1, run2, run3, run4, noSlot, ownS, ownK, memN, RO.dst, lk, drop, forget, number, Nat.reduceBEq, cut?, splice?, builds, List.length_cons, List.length_nil, List.drop_succ_cons, List.drop_zero, List.take_succ_cons, List.take_zero, List.cons_append, List.nil_append, List.append_nil, List.drop_nil, List.take_nil, Nat.reduceAdd, Nat.reduceLeDiff, Nat.zero_add, Nat.add_zero, ↓reduceIte, Bool.not_true, Bool.not_false, decide_true, decide_false, eq_self, bne_self_eq_false, List.getElem?_cons_zero, List.getElem?_cons_succ, decide_eq_true_eq, Bool.false_eq_true, Bool.true_eq_false, reduceCtorEq, Nat.le_refl, w.len]
/-- A byte of the code, or a number in its place. -/
theorem at_run (hL : Has F tLaws) (w : Vw 19 byte_enc h x code) (hc : code.length ≤ 1048576) {i : Int} (hi : 0 ≤ i ∧ i ≤ 1000000) : ∃ r, call F Z 177 [.c x, .c (.int .i64 i)] h = some (.c (.int .i64 r), h) := by
  rw [call_run F Z (hL.lk (g := 177) rfl) _ _ rfl]
  obtain ⟨j, rfl⟩ : ∃ j : Nat, i = (j : Int) := ⟨i.toNat, by omega⟩
  by_cases hlt : (j : Int) < code.length
  · have hj : j < code.length := by omega
    simp only [run0, run1, run2, run3, run4, noSlot, ownS, ownK, memN, RO.dst, lk, drop, forget, number, Nat.reduceBEq, cut?, splice?, builds, List.length_cons, List.length_nil, List.drop_succ_cons, List.drop_zero, List.take_succ_cons, List.take_zero, List.cons_append, List.nil_append, List.append_nil, List.drop_nil, List.take_nil, Nat.reduceAdd, Nat.reduceLeDiff, Nat.zero_add, Nat.add_zero, ↓reduceIte, Bool.not_true, Bool.not_false, decide_true, decide_false, eq_self, bne_self_eq_false, List.getElem?_cons_zero, List.getElem?_cons_succ, decide_eq_true_eq, Bool.false_eq_true, Bool.true_eq_false, reduceCtorEq, Nat.le_refl, w.len, hlt, w.idx hj, w.load hj, byte_enc]
    exact ⟨_, rfl⟩
  · simp only [run0, run1, run2, run3, run4, noSlot, ownS, ownK, memN, RO.dst, lk, drop, forget, number, Nat.reduceBEq, cut?, splice?, builds, List.length_cons, List.length_nil, List.drop_succ_cons, List.drop_zero, List.take_succ_cons, List.take_zero, List.cons_append, List.nil_append, List.append_nil, List.drop_nil, List.take_nil, Nat.reduceAdd, Nat.reduceLeDiff, Nat.zero_add, Nat.add_zero, ↓reduceIte, Bool.not_true, Bool.not_false, decide_true, decide_false, eq_self, bne_self_eq_false, List.getElem?_cons_zero, List.getElem?_cons_succ, decide_eq_true_eq, Bool.false_eq_true, Bool.true_eq_false, reduceCtorEq, Nat.le_refl, w.len, hlt, b_rem _ _ _ (show (256 : Int) ≠ 0 from by omega)]
    exact ⟨_, rfl⟩
end
end Go.Proofs.Ytlbagejkjkfkjaa.A
/- The bytes that a drawn law is given: their bounds. -/
namespace Go.Proofs.Ytlbagejkjkfkjaa.A
open Go
set_option linter.unusedSimpArgs false
set_option linter.unusedVariables false
def Byte (b : Int) : Prop := 0 ≤ b ∧ b ≤ 255
theorem Wf.areBytes {h : Heap} {n : Nat} {x : Cell} (w : Wf h (n + 2) shUint8S [x]) : ∃ code : List Int, Vw 19 byte_enc h x code ∧ ∀ b, b ∈ code → Byte b := by
  obtain ⟨xs, fp, v, q⟩ := SlR.ofWf (R := Fl byte_enc) (A := Byte) (fun r hr => by
    obtain ⟨hl, z, rfl, hz⟩ := hr
    refine ⟨z, [], ⟨rfl, rfl⟩, ?_⟩
    simp only [Lit.wf, Bool.and_eq_true, decide_eq_true_eq] at hz
    exact hz) w
  exact ⟨xs, v.vw, q⟩
section
variable {F : Nat → Option RF} {Z : CallF} {h : Heap} {x : Cell} {code : List Int}
theorem at_byte (hL : Has F tLaws) (hb : ∀ b, b ∈ code → Byte b) (hc : code.length ≤ 1048576) {i : Int} (hi : 0 ≤ i ∧ i ≤ 1000000) : ∃ r, Byte r ∧ ∀ h, Vw 19 byte_enc h x code → call F Z 177 [.c x, .c (.int .i64 i)] h = some (.c (.int .i64 r), h) := by
  obtain ⟨j, rfl⟩ : ∃ j : Nat, i = (j : Int) := ⟨i.toNat, by omega⟩
  by_cases hlt : (j : Int) < code.length
  · have hj : j < code.length := by omega
    have hr := hb _ (List.getElem_mem hj)
    refine ⟨code[j], hr, fun h w => ?_⟩
    rw [call_run F Z (hL.lk (g := 177) rfl) _ _ rfl]
    simp only [run0, run1, run2, run3, run4, noSlot, ownS, ownK, memN, RO.dst, lk, drop, forget, number, Nat.reduceBEq, cut?, splice?, builds, List.length_cons, List.length_nil, List.drop_succ_cons, List.drop_zero, List.take_succ_cons, List.take_zero, List.cons_append, List.nil_append, List.append_nil, List.drop_nil, List.take_nil, Nat.reduceAdd, Nat.reduceLeDiff, Nat.zero_add, Nat.add_zero, ↓reduceIte, Bool.not_true, Bool.not_false, decide_true, decide_false, eq_self, bne_self_eq_false, List.getElem?_cons_zero, List.getElem?_cons_succ, decide_eq_true_eq, Bool.false_eq_true, Bool.true_eq_false, reduceCtorEq, Nat.le_refl, w.len, hlt, w.idx hj, w.load hj, byte_enc]
    rw [wrapI _ (by have := hr.1; omega) (by have := hr.2; omega)]
  · refine ⟨((j : Int) * 13 + (code.length : Int) * 5) % 256, ⟨by omega, by omega⟩, fun h w => ?_⟩
    rw [call_run F Z (hL.lk (g := 177) rfl) _ _ rfl]
    simp only [run0, run1, run2, run3, run4, noSlot, ownS, ownK, memN, RO.dst, lk, drop, forget, number, Nat.reduceBEq, cut?, splice?, builds, List.length_cons, List.length_nil, List.drop_succ_cons, List.drop_zero, List.take_succ_cons, List.take_zero, List.cons_append, List.nil_append, List.append_nil, List.drop_nil, List.take_nil, Nat.reduceAdd, Nat.reduceLeDiff, Nat.zero_add, Nat.add_zero, ↓reduceIte, Bool.not_true, Bool.not_false, decide_true, decide_false, eq_self, bne_self_eq_false, List.getElem?_cons_zero, List.getElem?_cons_succ, decide_eq_true_eq, Bool.false_eq_true, Bool.true_eq_false, reduceCtorEq, Nat.le_refl, w.len, hlt, b_rem _ _ _ (show (256 : Int) ≠ 0 from by omega)]
    rw [wrapI ((j : Int) * 13) (by omega) (by omega), wrapI ((code.length : Int) * 5) (by omega) (by omega), wrapI _ (by omega) (by omega), Int.tmod_eq_emod_of_nonneg (by omega)]
end
end Go.Proofs.Ytlbagejkjkfkjaa.A
