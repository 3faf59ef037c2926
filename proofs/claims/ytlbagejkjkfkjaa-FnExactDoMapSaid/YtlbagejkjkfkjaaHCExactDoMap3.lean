/- The functions that the statement reaches, part 3: bodies and what they compute. No condition. -/
import Derived.Test.YtlbagejkjkfkjaaHCExactDoMap2
/- A command is done with a chart, the reference's way. -/
namespace Go.Proofs.Ytlbagejkjkfkjaa.A
open Go
set_option linter.unusedSimpArgs false
set_option linter.unusedVariables false
section
variable {F : Nat → Option RF} {Z : CallF} {h : Heap} {cs : List Cell} {c : Chart} {fp : List Nat}
set_option maxHeartbeats 4000000 in
theorem sDoMap_c (hS : Has F tS01d) (hS11 : Has F tS11) (hS12 : Has F tS12) (hf : h.floor ≤ h.next) (v : Chart.RI h cs c fp) (q : MapCmd) (okq : q.Ok) (ok : c.Ok) (sm : c.Small) :
    ∃ cs' h' fq, call F Z 180 [.agg cs, .agg q.enc] h = some (.tup [.agg cs', .c (.int .i64 (doMap c q).2)], h') ∧ On h h' ∧ Chart.RI h' cs' (doMap c q).1 fq ∧ Fre h fq := by
  obtain ⟨_, h1, f1, e1, o1, ⟨y, _, rfl, rfl, u⟩, r1⟩ := l12Copy_c (Z := Z) hS12 hf v sm
  have e2 := sChartOk_run (Z := Z) hS hS11 hS12 (Chart.okI.on v o1) ok
  have e3 := fun h => l01In_run (Z := Z) hS q.kind 0 4 h
  have e4 := fun h => l01In_run (Z := Z) hS q.group 0 99 h
  obtain ⟨x, p, rfl, hp, w⟩ := v
  subst hp
  have w1 := w.on (Fl.ok _) o1
  have hf1 := o1.le hf
  have nx : ∀ {fq : List Nat}, Fre h1 fq → Fre h fq := fun f => ⟨fun id hid => Nat.le_trans o1.ext.1 (f.lo id hid), f.nd⟩
  rw [call_run F Z (hS12.lk (g := 180) rfl) _ _ rfl]
  cases hgd : c.good with
  | false =>
    rw [hgd] at e2
    have hd : doMap c q = (c, 1) := by simp [doMap, hgd]
    rw [hd]
    simp only [run0, run1, run2, run3, run4, noSlot, ownS, ownK, memN, RO.dst, lk, drop, forget, number, Nat.reduceBEq, cut?, splice?, builds, List.length_cons, List.length_nil, List.drop_succ_cons, List.drop_zero, List.take_succ_cons, List.take_zero, List.cons_append, List.nil_append, List.append_nil, List.drop_nil, List.take_nil, Nat.reduceAdd, Nat.reduceLeDiff, Nat.zero_add, Nat.add_zero, ↓reduceIte, Bool.not_true, Bool.not_false, decide_true, decide_false, eq_self, bne_self_eq_false, List.getElem?_cons_zero, List.getElem?_cons_succ, decide_eq_true_eq, Bool.false_eq_true, Bool.true_eq_false, reduceCtorEq, Nat.le_refl, MapCmd.enc, e1, e2]
    exact ⟨_, _, _, rfl, o1, ⟨y, _, rfl, rfl, u⟩, r1⟩
  | true =>
    rw [hgd] at e2
    cases hk : inR q.kind 0 4 with
    | false =>
      rw [hk] at e3
      have hd : doMap c q = (c, 1) := by simp [doMap, hk]
      rw [hd]
      simp only [run0, run1, run2, run3, run4, noSlot, ownS, ownK, memN, RO.dst, lk, drop, forget, number, Nat.reduceBEq, cut?, splice?, builds, List.length_cons, List.length_nil, List.drop_succ_cons, List.drop_zero, List.take_succ_cons, List.take_zero, List.cons_append, List.nil_append, List.append_nil, List.drop_nil, List.take_nil, Nat.reduceAdd, Nat.reduceLeDiff, Nat.zero_add, Nat.add_zero, ↓reduceIte, Bool.not_true, Bool.not_false, decide_true, decide_false, eq_self, bne_self_eq_false, List.getElem?_cons_zero, List.getElem?_cons_succ, decide_eq_true_eq, Bool.false_eq_true, Bool.true_eq_false, reduceCtorEq, Nat.le_refl, MapCmd.enc, e1, e2, e3]
      exact ⟨_, _, _, rfl, o1, ⟨y, _, rfl, rfl, u⟩, r1⟩
    | true =>
      rw [hk] at e3
      cases hep : (c.epoch == 1000000) with
      | true =>
        have hd : doMap c q = (c, 1) := by simp [doMap, hep]
        rw [hd]
        simp only [run0, run1, run2, run3, run4, noSlot, ownS, ownK, memN, RO.dst, lk, drop, forget, number, Nat.reduceBEq, cut?, splice?, builds, List.length_cons, List.length_nil, List.drop_succ_cons, List.drop_zero, List.take_succ_cons, List.take_zero, List.cons_append, List.nil_append, List.append_nil, List.drop_nil, List.take_nil, Nat.reduceAdd, Nat.reduceLeDiff, Nat.zero_add, Nat.add_zero, ↓reduceIte, Bool.not_true, Bool.not_false, decide_true, decide_false, eq_self, bne_self_eq_false, List.getElem?_cons_zero, List.getElem?_cons_succ, decide_eq_true_eq, Bool.false_eq_true, Bool.true_eq_false, reduceCtorEq, Nat.le_refl, MapCmd.enc, e1, e2, e3, hep]
        exact ⟨_, _, _, rfl, o1, ⟨y, _, rfl, rfl, u⟩, r1⟩
      | false =>
        have hd : doMap c q = c.act q := by simp [doMap, hgd, hk, hep]
        rw [hd]
        have hr := Chart.good_ranges hgd
        obtain ⟨k, hkl, q1, q2, q3, q4, q5⟩ := Chart.has (c := c) hr okq.at_.1 okq.at_.2
        have e5 := sFindRange_run (Z := Z) hS hS11 w1 ok.ranges q.at_
        rw [hr, cond_true, q2] at e5
        have hpl : c.pl q.at_ = k := by simp [Chart.pl, q1]
        have hxi := w.idx hkl
        have hld := w1.load hkl
        rw [← at_get hkl] at hld
        simp only [Range.enc] at hld
        have hepr : IntKind.i64.wrap (c.epoch + 1) = c.epoch + 1 := by
          simp only [Chart.good, inR, Bool.and_eq_true, decide_eq_true_eq] at hgd
          exact wrapI _ (by omega) (by omega)
        -- the place of the range that moves
        have hz : (Range.at_ c.ranges k).lo = q.at_ → ((q.at_ == 0) = ((k : Int) == 0)) := fun he => by
          have hfit := rangesOk_fit hr
          rw [Bool.eq_iff_iff]
          simp only [beq_iff_eq]
          constructor
          · intro h0
            rcases Nat.eq_zero_or_pos k with hk0 | hk0
            · omega
            · have := hfit.apart hk0 hkl
              have := hfit.le 0 (by omega)
              have := hfit.lo0
              omega
          · intro h0
            have hk0 : k = 0 := by omega
            subst hk0
            rw [← he]; exact hfit.lo0
        have copy : ∀ {g : Heap}, On h g → ∃ z g' fz, call F Z 115 [.agg [.int .i64 c.epoch, x, .bool c.moving, .int .u64 c.lo, .int .i64 c.to]] g = some (.agg [.int .i64 c.epoch, z, .bool c.moving, .int .u64 c.lo, .int .i64 c.to], g') ∧ On h g' ∧ SlR 7 (Fl Range.enc) g' z c.ranges fz ∧ Fre h fz := fun {g} o => by
          obtain ⟨_, h2, f2, e, o2, ⟨z, _, rfl, rfl, u2⟩, r2⟩ := l12Copy_c (Z := Z) hS12 (o.le hf) (Chart.okI.on (⟨x, _, rfl, rfl, w⟩ : Chart.RI h _ c _) o) sm
          exact ⟨z, h2, f2, e, o.trans o2, u2, ⟨fun id hid => Nat.le_trans o.ext.1 (r2.lo id hid), r2.nd⟩⟩
        by_cases hm : c.moving = true
        case neg =>
          replace hm : c.moving = false := by simpa using hm
          rw [hm] at e1 e2
          have hmk : ((-1 : Int) == (k : Int)) = c.mv k := by simp [Chart.mv, hm]
          have hmk1 : 1 ≤ k → ((-1 : Int) == (k : Int) - 1) = c.mv (k - 1) := fun h1 => by simp [Chart.mv, hm]; omega
          by_cases k0 : q.kind = 0
          · have k0' : (q.kind == 0) = true := by simpa using k0
            cases hv : c.mv k with
            | true =>
              rw [hv] at hmk
              have ha : c.act q = (c, 2) := by simp [Chart.act, k0, hpl, hv]
              rw [ha]
              simp only [run0, run1, run2, run3, run4, noSlot, ownS, ownK, memN, RO.dst, lk, drop, forget, number, Nat.reduceBEq, cut?, splice?, builds, List.length_cons, List.length_nil, List.drop_succ_cons, List.drop_zero, List.take_succ_cons, List.take_zero, List.cons_append, List.nil_append, List.append_nil, List.drop_nil, List.take_nil, Nat.reduceAdd, Nat.reduceLeDiff, Nat.zero_add, Nat.add_zero, ↓reduceIte, Bool.not_true, Bool.not_false, decide_true, decide_false, eq_self, bne_self_eq_false, List.getElem?_cons_zero, List.getElem?_cons_succ, decide_eq_true_eq, Bool.false_eq_true, Bool.true_eq_false, reduceCtorEq, Nat.le_refl, MapCmd.enc, e1, e2, e3, hep, e5, hm, k0', hmk]
              exact ⟨_, _, _, rfl, o1, ⟨y, _, (by first | rfl | rw [hm] | simp [hm]), rfl, u⟩, r1⟩
            | false =>
              rw [hv] at hmk
              have ha : c.act q = c.fin (splitRg c.ranges q.at_ (Range.at_ c.ranges k).group) := by simp [Chart.act, k0, hpl, hv]
              rw [ha]
              obtain ⟨z, h2, g2, f2, e6, hg2, o2, w2, r2⟩ := sSplitRange_q (Z := Z) hS hS11 w1 q.at_ (Range.at_ c.ranges k).group okq.at_ ok.ranges sm
              cases hb : (splitRg c.ranges q.at_ (Range.at_ c.ranges k).group).2 with
              | false =>
                rw [hb] at e6
                obtain ⟨z', h3, f3, e7, o3, w3, r3⟩ := copy (o1.trans o2)
                simp only [Chart.fin, hb, cond_false]
                rw [hm] at e7
                simp only [run0, run1, run2, run3, run4, noSlot, ownS, ownK, memN, RO.dst, lk, drop, forget, number, Nat.reduceBEq, cut?, splice?, builds, List.length_cons, List.length_nil, List.drop_succ_cons, List.drop_zero, List.take_succ_cons, List.take_zero, List.cons_append, List.nil_append, List.append_nil, List.drop_nil, List.take_nil, Nat.reduceAdd, Nat.reduceLeDiff, Nat.zero_add, Nat.add_zero, ↓reduceIte, Bool.not_true, Bool.not_false, decide_true, decide_false, eq_self, bne_self_eq_false, List.getElem?_cons_zero, List.getElem?_cons_succ, decide_eq_true_eq, Bool.false_eq_true, Bool.true_eq_false, reduceCtorEq, Nat.le_refl, MapCmd.enc, e1, e2, e3, hep, e5, hm, k0', hmk, hxi, hld, e6, hg2, e7]
                exact ⟨_, _, _, rfl, o3, ⟨z', _, (by first | rfl | rw [hm] | simp [hm]), rfl, w3⟩, r3⟩
              | true =>
                rw [hb] at e6
                simp only [Chart.fin, hb, cond_true]
                simp only [run0, run1, run2, run3, run4, noSlot, ownS, ownK, memN, RO.dst, lk, drop, forget, number, Nat.reduceBEq, cut?, splice?, builds, List.length_cons, List.length_nil, List.drop_succ_cons, List.drop_zero, List.take_succ_cons, List.take_zero, List.cons_append, List.nil_append, List.append_nil, List.drop_nil, List.take_nil, Nat.reduceAdd, Nat.reduceLeDiff, Nat.zero_add, Nat.add_zero, ↓reduceIte, Bool.not_true, Bool.not_false, decide_true, decide_false, eq_self, bne_self_eq_false, List.getElem?_cons_zero, List.getElem?_cons_succ, decide_eq_true_eq, Bool.false_eq_true, Bool.true_eq_false, reduceCtorEq, Nat.le_refl, MapCmd.enc, e1, e2, e3, hep, e5, hm, k0', hmk, hxi, hld, e6, hg2, hepr]
                exact ⟨_, _, _, rfl, o1.trans o2, ⟨z, _, (by first | rfl | rw [hm] | simp [hm]), rfl, w2⟩, nx r2⟩
          have k0' : (q.kind == 0) = false := by simpa using k0
          by_cases k1 : q.kind = 1
          · have k1' : (q.kind == 1) = true := by simpa using k1
            by_cases hla : (Range.at_ c.ranges k).lo = q.at_
            case neg =>
              have hln : ((Range.at_ c.ranges k).lo != q.at_) = true := by simpa using hla
              have ha : c.act q = (c, 4) := by simp [Chart.act, k1, hpl, hln]
              rw [ha]
              simp only [run0, run1, run2, run3, run4, noSlot, ownS, ownK, memN, RO.dst, lk, drop, forget, number, Nat.reduceBEq, cut?, splice?, builds, List.length_cons, List.length_nil, List.drop_succ_cons, List.drop_zero, List.take_succ_cons, List.take_zero, List.cons_append, List.nil_append, List.append_nil, List.drop_nil, List.take_nil, Nat.reduceAdd, Nat.reduceLeDiff, Nat.zero_add, Nat.add_zero, ↓reduceIte, Bool.not_true, Bool.not_false, decide_true, decide_false, eq_self, bne_self_eq_false, List.getElem?_cons_zero, List.getElem?_cons_succ, decide_eq_true_eq, Bool.false_eq_true, Bool.true_eq_false, reduceCtorEq, Nat.le_refl, MapCmd.enc, e1, e2, e3, hep, e5, hm, k0', k1', hxi, hld, hln]
              exact ⟨_, _, _, rfl, o1, ⟨y, _, (by first | rfl | rw [hm] | simp [hm]), rfl, u⟩, r1⟩
            have hln : ((Range.at_ c.ranges k).lo != q.at_) = false := by simpa using hla
            have hz' := hz hla
            cases hkz : ((k : Int) == 0) with
            | true =>
              rw [hkz] at hz'
              have ha : c.act q = (c, 4) := by simp [Chart.act, k1, hpl, hln, hz']
              rw [ha]
              simp only [run0, run1, run2, run3, run4, noSlot, ownS, ownK, memN, RO.dst, lk, drop, forget, number, Nat.reduceBEq, cut?, splice?, builds, List.length_cons, List.length_nil, List.drop_succ_cons, List.drop_zero, List.take_succ_cons, List.take_zero, List.cons_append, List.nil_append, List.append_nil, List.drop_nil, List.take_nil, Nat.reduceAdd, Nat.reduceLeDiff, Nat.zero_add, Nat.add_zero, ↓reduceIte, Bool.not_true, Bool.not_false, decide_true, decide_false, eq_self, bne_self_eq_false, List.getElem?_cons_zero, List.getElem?_cons_succ, decide_eq_true_eq, Bool.false_eq_true, Bool.true_eq_false, reduceCtorEq, Nat.le_refl, MapCmd.enc, e1, e2, e3, hep, e5, hm, k0', k1', hxi, hld, hln, hkz]
              exact ⟨_, _, _, rfl, o1, ⟨y, _, (by first | rfl | rw [hm] | simp [hm]), rfl, u⟩, r1⟩
            | false =>
              rw [hkz] at hz'
              have hk1 : 1 ≤ k := by simp at hkz; omega
              have hmk1' := hmk1 hk1
              have hwk : IntKind.i64.wrap ((k : Int) - 1) = (k : Int) - 1 := wrapI _ (by omega) (by have := w.le2; omega)
              cases hv : c.mv k with
              | true =>
                rw [hv] at hmk
                have ha : c.act q = (c, 2) := by simp [Chart.act, k1, hpl, hln, hz', hv]
                rw [ha]
                simp only [run0, run1, run2, run3, run4, noSlot, ownS, ownK, memN, RO.dst, lk, drop, forget, number, Nat.reduceBEq, cut?, splice?, builds, List.length_cons, List.length_nil, List.drop_succ_cons, List.drop_zero, List.take_succ_cons, List.take_zero, List.cons_append, List.nil_append, List.append_nil, List.drop_nil, List.take_nil, Nat.reduceAdd, Nat.reduceLeDiff, Nat.zero_add, Nat.add_zero, ↓reduceIte, Bool.not_true, Bool.not_false, decide_true, decide_false, eq_self, bne_self_eq_false, List.getElem?_cons_zero, List.getElem?_cons_succ, decide_eq_true_eq, Bool.false_eq_true, Bool.true_eq_false, reduceCtorEq, Nat.le_refl, MapCmd.enc, e1, e2, e3, hep, e5, hm, k0', k1', hxi, hld, hln, hkz, hmk]
                exact ⟨_, _, _, rfl, o1, ⟨y, _, (by first | rfl | rw [hm] | simp [hm]), rfl, u⟩, r1⟩
              | false =>
                rw [hv] at hmk
                cases hv1 : c.mv (k - 1) with
                | true =>
                  rw [hv1] at hmk1'
                  have ha : c.act q = (c, 2) := by simp [Chart.act, k1, hpl, hln, hz', hv, hv1]
                  rw [ha]
                  simp only [run0, run1, run2, run3, run4, noSlot, ownS, ownK, memN, RO.dst, lk, drop, forget, number, Nat.reduceBEq, cut?, splice?, builds, List.length_cons, List.length_nil, List.drop_succ_cons, List.drop_zero, List.take_succ_cons, List.take_zero, List.cons_append, List.nil_append, List.append_nil, List.drop_nil, List.take_nil, Nat.reduceAdd, Nat.reduceLeDiff, Nat.zero_add, Nat.add_zero, ↓reduceIte, Bool.not_true, Bool.not_false, decide_true, decide_false, eq_self, bne_self_eq_false, List.getElem?_cons_zero, List.getElem?_cons_succ, decide_eq_true_eq, Bool.false_eq_true, Bool.true_eq_false, reduceCtorEq, Nat.le_refl, MapCmd.enc, e1, e2, e3, hep, e5, hm, k0', k1', hxi, hld, hln, hkz, hmk, hwk, hmk1']
                  exact ⟨_, _, _, rfl, o1, ⟨y, _, (by first | rfl | rw [hm] | simp [hm]), rfl, u⟩, r1⟩
                | false =>
                  rw [hv1] at hmk1'
                  have ha : c.act q = c.fin (mergeRg c.ranges ((k : Int) - 1)) := by simp [Chart.act, k1, hpl, hln, hz', hv, hv1]
                  rw [ha]
                  obtain ⟨z, g2, f2, e6, o2, w2, r2⟩ := sMergeRange_c (Z := Z) hS hS11 hf1 w1 ((k : Int) - 1) ok.ranges sm
                  cases hb : (mergeRg c.ranges ((k : Int) - 1)).2 with
                  | false =>
                    rw [hb] at e6
                    obtain ⟨z', h3, f3, e7, o3, w3, r3⟩ := copy (o1.trans o2)
                    simp only [Chart.fin, hb, cond_false]
                    rw [hm] at e7
                    simp only [run0, run1, run2, run3, run4, noSlot, ownS, ownK, memN, RO.dst, lk, drop, forget, number, Nat.reduceBEq, cut?, splice?, builds, List.length_cons, List.length_nil, List.drop_succ_cons, List.drop_zero, List.take_succ_cons, List.take_zero, List.cons_append, List.nil_append, List.append_nil, List.drop_nil, List.take_nil, Nat.reduceAdd, Nat.reduceLeDiff, Nat.zero_add, Nat.add_zero, ↓reduceIte, Bool.not_true, Bool.not_false, decide_true, decide_false, eq_self, bne_self_eq_false, List.getElem?_cons_zero, List.getElem?_cons_succ, decide_eq_true_eq, Bool.false_eq_true, Bool.true_eq_false, reduceCtorEq, Nat.le_refl, MapCmd.enc, e1, e2, e3, hep, e5, hm, k0', k1', hxi, hld, hln, hkz, hmk, hwk, hmk1', e6, e7]
                    exact ⟨_, _, _, rfl, o3, ⟨z', _, (by first | rfl | rw [hm] | simp [hm]), rfl, w3⟩, r3⟩
                  | true =>
                    rw [hb] at e6
                    simp only [Chart.fin, hb, cond_true]
                    simp only [run0, run1, run2, run3, run4, noSlot, ownS, ownK, memN, RO.dst, lk, drop, forget, number, Nat.reduceBEq, cut?, splice?, builds, List.length_cons, List.length_nil, List.drop_succ_cons, List.drop_zero, List.take_succ_cons, List.take_zero, List.cons_append, List.nil_append, List.append_nil, List.drop_nil, List.take_nil, Nat.reduceAdd, Nat.reduceLeDiff, Nat.zero_add, Nat.add_zero, ↓reduceIte, Bool.not_true, Bool.not_false, decide_true, decide_false, eq_self, bne_self_eq_false, List.getElem?_cons_zero, List.getElem?_cons_succ, decide_eq_true_eq, Bool.false_eq_true, Bool.true_eq_false, reduceCtorEq, Nat.le_refl, MapCmd.enc, e1, e2, e3, hep, e5, hm, k0', k1', hxi, hld, hln, hkz, hmk, hwk, hmk1', e6, hepr]
                    exact ⟨_, _, _, rfl, o1.trans o2, ⟨z, _, (by first | rfl | rw [hm] | simp [hm]), rfl, w2⟩, nx r2⟩
          have k1' : (q.kind == 1) = false := by simpa using k1
          by_cases k2 : q.kind = 2
          · have k2' : (q.kind == 2) = true := by simpa using k2
            cases hg : inR q.group 0 99 with
            | false =>
              rw [hg] at e4
              have ha : c.act q = (c, 4) := by simp [Chart.act, k2, hm, hg]
              rw [ha]
              simp only [run0, run1, run2, run3, run4, noSlot, ownS, ownK, memN, RO.dst, lk, drop, forget, number, Nat.reduceBEq, cut?, splice?, builds, List.length_cons, List.length_nil, List.drop_succ_cons, List.drop_zero, List.take_succ_cons, List.take_zero, List.cons_append, List.nil_append, List.append_nil, List.drop_nil, List.take_nil, Nat.reduceAdd, Nat.reduceLeDiff, Nat.zero_add, Nat.add_zero, ↓reduceIte, Bool.not_true, Bool.not_false, decide_true, decide_false, eq_self, bne_self_eq_false, List.getElem?_cons_zero, List.getElem?_cons_succ, decide_eq_true_eq, Bool.false_eq_true, Bool.true_eq_false, reduceCtorEq, Nat.le_refl, MapCmd.enc, e1, e2, e3, hep, e5, hm, k0', k1', k2', e4]
              exact ⟨_, _, _, rfl, o1, ⟨y, _, (by first | rfl | rw [hm] | simp [hm]), rfl, u⟩, r1⟩
            | true =>
              rw [hg] at e4
              by_cases hgr : q.group = (Range.at_ c.ranges k).group
              · have hg1 : (q.group == (Range.at_ c.ranges k).group) = true := by simpa using hgr
                have ha : c.act q = (c, 4) := by simp [Chart.act, k2, hm, hpl, hgr]
                rw [ha]
                simp only [run0, run1, run2, run3, run4, noSlot, ownS, ownK, memN, RO.dst, lk, drop, forget, number, Nat.reduceBEq, cut?, splice?, builds, List.length_cons, List.length_nil, List.drop_succ_cons, List.drop_zero, List.take_succ_cons, List.take_zero, List.cons_append, List.nil_append, List.append_nil, List.drop_nil, List.take_nil, Nat.reduceAdd, Nat.reduceLeDiff, Nat.zero_add, Nat.add_zero, ↓reduceIte, Bool.not_true, Bool.not_false, decide_true, decide_false, eq_self, bne_self_eq_false, List.getElem?_cons_zero, List.getElem?_cons_succ, decide_eq_true_eq, Bool.false_eq_true, Bool.true_eq_false, reduceCtorEq, Nat.le_refl, MapCmd.enc, e1, e2, e3, hep, e5, hm, k0', k1', k2', e4, hxi, hld, hg1]
                exact ⟨_, _, _, rfl, o1, ⟨y, _, (by first | rfl | rw [hm] | simp [hm]), rfl, u⟩, r1⟩
              · have hg1 : (q.group == (Range.at_ c.ranges k).group) = false := by simpa using hgr
                have hg2 : (q.group != (Range.at_ c.ranges k).group) = true := by simpa using hgr
                have ha : c.act q = (⟨c.epoch + 1, c.ranges, true, (Range.at_ c.ranges k).lo, q.group⟩, 0) := by simp [Chart.act, k2, hm, hpl, hg, hg2]
                rw [ha]
                simp only [run0, run1, run2, run3, run4, noSlot, ownS, ownK, memN, RO.dst, lk, drop, forget, number, Nat.reduceBEq, cut?, splice?, builds, List.length_cons, List.length_nil, List.drop_succ_cons, List.drop_zero, List.take_succ_cons, List.take_zero, List.cons_append, List.nil_append, List.append_nil, List.drop_nil, List.take_nil, Nat.reduceAdd, Nat.reduceLeDiff, Nat.zero_add, Nat.add_zero, ↓reduceIte, Bool.not_true, Bool.not_false, decide_true, decide_false, eq_self, bne_self_eq_false, List.getElem?_cons_zero, List.getElem?_cons_succ, decide_eq_true_eq, Bool.false_eq_true, Bool.true_eq_false, reduceCtorEq, Nat.le_refl, MapCmd.enc, e1, e2, e3, hep, e5, hm, k0', k1', k2', e4, hxi, hld, hg1, hepr]
                exact ⟨_, _, _, rfl, o1, ⟨y, _, rfl, rfl, u⟩, r1⟩
          have k2' : (q.kind == 2) = false := by simpa using k2
          have ha : c.act q = (c, 3) := by simp [Chart.act, k0', k1', k2', hm]
          rw [ha]
          simp only [run0, run1, run2, run3, run4, noSlot, ownS, ownK, memN, RO.dst, lk, drop, forget, number, Nat.reduceBEq, cut?, splice?, builds, List.length_cons, List.length_nil, List.drop_succ_cons, List.drop_zero, List.take_succ_cons, List.take_zero, List.cons_append, List.nil_append, List.append_nil, List.drop_nil, List.take_nil, Nat.reduceAdd, Nat.reduceLeDiff, Nat.zero_add, Nat.add_zero, ↓reduceIte, Bool.not_true, Bool.not_false, decide_true, decide_false, eq_self, bne_self_eq_false, List.getElem?_cons_zero, List.getElem?_cons_succ, decide_eq_true_eq, Bool.false_eq_true, Bool.true_eq_false, reduceCtorEq, Nat.le_refl, MapCmd.enc, e1, e2, e3, hep, e5, hm, k0', k1', k2']
          exact ⟨_, _, _, rfl, o1, ⟨y, _, (by first | rfl | rw [hm] | simp [hm]), rfl, u⟩, r1⟩
        case pos =>
          rw [hm] at e1 e2
          have hpc := place_run (Z := Z) hS12 w1 c.lo
          obtain ⟨j, hj, p1, p2, p3, p4, p5⟩ := Chart.mv_place hgd hm ok.lo
          rw [p1] at hpc
          have hmk : (((j : Nat) : Int) == (k : Int)) = c.mv k := by
            rw [Bool.eq_iff_iff, p5 k hkl]; simp; omega
          have hmk1 : 1 ≤ k → (((j : Nat) : Int) == (k : Int) - 1) = c.mv (k - 1) := fun h1 => by
            rw [Bool.eq_iff_iff, p5 (k - 1) (by omega)]; simp; omega
          by_cases k0 : q.kind = 0
          · have k0' : (q.kind == 0) = true := by simpa using k0
            cases hv : c.mv k with
            | true =>
              rw [hv] at hmk
              have ha : c.act q = (c, 2) := by simp [Chart.act, k0, hpl, hv]
              rw [ha]
              simp only [run0, run1, run2, run3, run4, noSlot, ownS, ownK, memN, RO.dst, lk, drop, forget, number, Nat.reduceBEq, cut?, splice?, builds, List.length_cons, List.length_nil, List.drop_succ_cons, List.drop_zero, List.take_succ_cons, List.take_zero, List.cons_append, List.nil_append, List.append_nil, List.drop_nil, List.take_nil, Nat.reduceAdd, Nat.reduceLeDiff, Nat.zero_add, Nat.add_zero, ↓reduceIte, Bool.not_true, Bool.not_false, decide_true, decide_false, eq_self, bne_self_eq_false, List.getElem?_cons_zero, List.getElem?_cons_succ, decide_eq_true_eq, Bool.false_eq_true, Bool.true_eq_false, reduceCtorEq, Nat.le_refl, MapCmd.enc, e1, e2, e3, hep, e5, hm, hpc, k0', hmk]
              exact ⟨_, _, _, rfl, o1, ⟨y, _, (by first | rfl | rw [hm] | simp [hm]), rfl, u⟩, r1⟩
            | false =>
              rw [hv] at hmk
              have ha : c.act q = c.fin (splitRg c.ranges q.at_ (Range.at_ c.ranges k).group) := by simp [Chart.act, k0, hpl, hv]
              rw [ha]
              obtain ⟨z, h2, g2, f2, e6, hg2, o2, w2, r2⟩ := sSplitRange_q (Z := Z) hS hS11 w1 q.at_ (Range.at_ c.ranges k).group okq.at_ ok.ranges sm
              cases hb : (splitRg c.ranges q.at_ (Range.at_ c.ranges k).group).2 with
              | false =>
                rw [hb] at e6
                obtain ⟨z', h3, f3, e7, o3, w3, r3⟩ := copy (o1.trans o2)
                simp only [Chart.fin, hb, cond_false]
                rw [hm] at e7
                simp only [run0, run1, run2, run3, run4, noSlot, ownS, ownK, memN, RO.dst, lk, drop, forget, number, Nat.reduceBEq, cut?, splice?, builds, List.length_cons, List.length_nil, List.drop_succ_cons, List.drop_zero, List.take_succ_cons, List.take_zero, List.cons_append, List.nil_append, List.append_nil, List.drop_nil, List.take_nil, Nat.reduceAdd, Nat.reduceLeDiff, Nat.zero_add, Nat.add_zero, ↓reduceIte, Bool.not_true, Bool.not_false, decide_true, decide_false, eq_self, bne_self_eq_false, List.getElem?_cons_zero, List.getElem?_cons_succ, decide_eq_true_eq, Bool.false_eq_true, Bool.true_eq_false, reduceCtorEq, Nat.le_refl, MapCmd.enc, e1, e2, e3, hep, e5, hm, hpc, k0', hmk, hxi, hld, e6, hg2, e7]
                exact ⟨_, _, _, rfl, o3, ⟨z', _, (by first | rfl | rw [hm] | simp [hm]), rfl, w3⟩, r3⟩
              | true =>
                rw [hb] at e6
                simp only [Chart.fin, hb, cond_true]
                simp only [run0, run1, run2, run3, run4, noSlot, ownS, ownK, memN, RO.dst, lk, drop, forget, number, Nat.reduceBEq, cut?, splice?, builds, List.length_cons, List.length_nil, List.drop_succ_cons, List.drop_zero, List.take_succ_cons, List.take_zero, List.cons_append, List.nil_append, List.append_nil, List.drop_nil, List.take_nil, Nat.reduceAdd, Nat.reduceLeDiff, Nat.zero_add, Nat.add_zero, ↓reduceIte, Bool.not_true, Bool.not_false, decide_true, decide_false, eq_self, bne_self_eq_false, List.getElem?_cons_zero, List.getElem?_cons_succ, decide_eq_true_eq, Bool.false_eq_true, Bool.true_eq_false, reduceCtorEq, Nat.le_refl, MapCmd.enc, e1, e2, e3, hep, e5, hm, hpc, k0', hmk, hxi, hld, e6, hg2, hepr]
                exact ⟨_, _, _, rfl, o1.trans o2, ⟨z, _, (by first | rfl | rw [hm] | simp [hm]), rfl, w2⟩, nx r2⟩
          have k0' : (q.kind == 0) = false := by simpa using k0
          by_cases k1 : q.kind = 1
          · have k1' : (q.kind == 1) = true := by simpa using k1
            by_cases hla : (Range.at_ c.ranges k).lo = q.at_
            case neg =>
              have hln : ((Range.at_ c.ranges k).lo != q.at_) = true := by simpa using hla
              have ha : c.act q = (c, 4) := by simp [Chart.act, k1, hpl, hln]
              rw [ha]
              simp only [run0, run1, run2, run3, run4, noSlot, ownS, ownK, memN, RO.dst, lk, drop, forget, number, Nat.reduceBEq, cut?, splice?, builds, List.length_cons, List.length_nil, List.drop_succ_cons, List.drop_zero, List.take_succ_cons, List.take_zero, List.cons_append, List.nil_append, List.append_nil, List.drop_nil, List.take_nil, Nat.reduceAdd, Nat.reduceLeDiff, Nat.zero_add, Nat.add_zero, ↓reduceIte, Bool.not_true, Bool.not_false, decide_true, decide_false, eq_self, bne_self_eq_false, List.getElem?_cons_zero, List.getElem?_cons_succ, decide_eq_true_eq, Bool.false_eq_true, Bool.true_eq_false, reduceCtorEq, Nat.le_refl, MapCmd.enc, e1, e2, e3, hep, e5, hm, hpc, k0', k1', hxi, hld, hln]
              exact ⟨_, _, _, rfl, o1, ⟨y, _, (by first | rfl | rw [hm] | simp [hm]), rfl, u⟩, r1⟩
            have hln : ((Range.at_ c.ranges k).lo != q.at_) = false := by simpa using hla
            have hz' := hz hla
            cases hkz : ((k : Int) == 0) with
            | true =>
              rw [hkz] at hz'
              have ha : c.act q = (c, 4) := by simp [Chart.act, k1, hpl, hln, hz']
              rw [ha]
              simp only [run0, run1, run2, run3, run4, noSlot, ownS, ownK, memN, RO.dst, lk, drop, forget, number, Nat.reduceBEq, cut?, splice?, builds, List.length_cons, List.length_nil, List.drop_succ_cons, List.drop_zero, List.take_succ_cons, List.take_zero, List.cons_append, List.nil_append, List.append_nil, List.drop_nil, List.take_nil, Nat.reduceAdd, Nat.reduceLeDiff, Nat.zero_add, Nat.add_zero, ↓reduceIte, Bool.not_true, Bool.not_false, decide_true, decide_false, eq_self, bne_self_eq_false, List.getElem?_cons_zero, List.getElem?_cons_succ, decide_eq_true_eq, Bool.false_eq_true, Bool.true_eq_false, reduceCtorEq, Nat.le_refl, MapCmd.enc, e1, e2, e3, hep, e5, hm, hpc, k0', k1', hxi, hld, hln, hkz]
              exact ⟨_, _, _, rfl, o1, ⟨y, _, (by first | rfl | rw [hm] | simp [hm]), rfl, u⟩, r1⟩
            | false =>
              rw [hkz] at hz'
              have hk1 : 1 ≤ k := by simp at hkz; omega
              have hmk1' := hmk1 hk1
              have hwk : IntKind.i64.wrap ((k : Int) - 1) = (k : Int) - 1 := wrapI _ (by omega) (by have := w.le2; omega)
              cases hv : c.mv k with
              | true =>
                rw [hv] at hmk
                have ha : c.act q = (c, 2) := by simp [Chart.act, k1, hpl, hln, hz', hv]
                rw [ha]
                simp only [run0, run1, run2, run3, run4, noSlot, ownS, ownK, memN, RO.dst, lk, drop, forget, number, Nat.reduceBEq, cut?, splice?, builds, List.length_cons, List.length_nil, List.drop_succ_cons, List.drop_zero, List.take_succ_cons, List.take_zero, List.cons_append, List.nil_append, List.append_nil, List.drop_nil, List.take_nil, Nat.reduceAdd, Nat.reduceLeDiff, Nat.zero_add, Nat.add_zero, ↓reduceIte, Bool.not_true, Bool.not_false, decide_true, decide_false, eq_self, bne_self_eq_false, List.getElem?_cons_zero, List.getElem?_cons_succ, decide_eq_true_eq, Bool.false_eq_true, Bool.true_eq_false, reduceCtorEq, Nat.le_refl, MapCmd.enc, e1, e2, e3, hep, e5, hm, hpc, k0', k1', hxi, hld, hln, hkz, hmk]
                exact ⟨_, _, _, rfl, o1, ⟨y, _, (by first | rfl | rw [hm] | simp [hm]), rfl, u⟩, r1⟩
              | false =>
                rw [hv] at hmk
                cases hv1 : c.mv (k - 1) with
                | true =>
                  rw [hv1] at hmk1'
                  have ha : c.act q = (c, 2) := by simp [Chart.act, k1, hpl, hln, hz', hv, hv1]
                  rw [ha]
                  simp only [run0, run1, run2, run3, run4, noSlot, ownS, ownK, memN, RO.dst, lk, drop, forget, number, Nat.reduceBEq, cut?, splice?, builds, List.length_cons, List.length_nil, List.drop_succ_cons, List.drop_zero, List.take_succ_cons, List.take_zero, List.cons_append, List.nil_append, List.append_nil, List.drop_nil, List.take_nil, Nat.reduceAdd, Nat.reduceLeDiff, Nat.zero_add, Nat.add_zero, ↓reduceIte, Bool.not_true, Bool.not_false, decide_true, decide_false, eq_self, bne_self_eq_false, List.getElem?_cons_zero, List.getElem?_cons_succ, decide_eq_true_eq, Bool.false_eq_true, Bool.true_eq_false, reduceCtorEq, Nat.le_refl, MapCmd.enc, e1, e2, e3, hep, e5, hm, hpc, k0', k1', hxi, hld, hln, hkz, hmk, hwk, hmk1']
                  exact ⟨_, _, _, rfl, o1, ⟨y, _, (by first | rfl | rw [hm] | simp [hm]), rfl, u⟩, r1⟩
                | false =>
                  rw [hv1] at hmk1'
                  have ha : c.act q = c.fin (mergeRg c.ranges ((k : Int) - 1)) := by simp [Chart.act, k1, hpl, hln, hz', hv, hv1]
                  rw [ha]
                  obtain ⟨z, g2, f2, e6, o2, w2, r2⟩ := sMergeRange_c (Z := Z) hS hS11 hf1 w1 ((k : Int) - 1) ok.ranges sm
                  cases hb : (mergeRg c.ranges ((k : Int) - 1)).2 with
                  | false =>
                    rw [hb] at e6
                    obtain ⟨z', h3, f3, e7, o3, w3, r3⟩ := copy (o1.trans o2)
                    simp only [Chart.fin, hb, cond_false]
                    rw [hm] at e7
                    simp only [run0, run1, run2, run3, run4, noSlot, ownS, ownK, memN, RO.dst, lk, drop, forget, number, Nat.reduceBEq, cut?, splice?, builds, List.length_cons, List.length_nil, List.drop_succ_cons, List.drop_zero, List.take_succ_cons, List.take_zero, List.cons_append, List.nil_append, List.append_nil, List.drop_nil, List.take_nil, Nat.reduceAdd, Nat.reduceLeDiff, Nat.zero_add, Nat.add_zero, ↓reduceIte, Bool.not_true, Bool.not_false, decide_true, decide_false, eq_self, bne_self_eq_false, List.getElem?_cons_zero, List.getElem?_cons_succ, decide_eq_true_eq, Bool.false_eq_true, Bool.true_eq_false, reduceCtorEq, Nat.le_refl, MapCmd.enc, e1, e2, e3, hep, e5, hm, hpc, k0', k1', hxi, hld, hln, hkz, hmk, hwk, hmk1', e6, e7]
                    exact ⟨_, _, _, rfl, o3, ⟨z', _, (by first | rfl | rw [hm] | simp [hm]), rfl, w3⟩, r3⟩
                  | true =>
                    rw [hb] at e6
                    simp only [Chart.fin, hb, cond_true]
                    simp only [run0, run1, run2, run3, run4, noSlot, ownS, ownK, memN, RO.dst, lk, drop, forget, number, Nat.reduceBEq, cut?, splice?, builds, List.length_cons, List.length_nil, List.drop_succ_cons, List.drop_zero, List.take_succ_cons, List.take_zero, List.cons_append, List.nil_append, List.append_nil, List.drop_nil, List.take_nil, Nat.reduceAdd, Nat.reduceLeDiff, Nat.zero_add, Nat.add_zero, ↓reduceIte, Bool.not_true, Bool.not_false, decide_true, decide_false, eq_self, bne_self_eq_false, List.getElem?_cons_zero, List.getElem?_cons_succ, decide_eq_true_eq, Bool.false_eq_true, Bool.true_eq_false, reduceCtorEq, Nat.le_refl, MapCmd.enc, e1, e2, e3, hep, e5, hm, hpc, k0', k1', hxi, hld, hln, hkz, hmk, hwk, hmk1', e6, hepr]
                    exact ⟨_, _, _, rfl, o1.trans o2, ⟨z, _, (by first | rfl | rw [hm] | simp [hm]), rfl, w2⟩, nx r2⟩
          have k1' : (q.kind == 1) = false := by simpa using k1
          by_cases k2 : q.kind = 2
          · have k2' : (q.kind == 2) = true := by simpa using k2
            have ha : c.act q = (c, 2) := by simp [Chart.act, k2, hm]
            rw [ha]
            simp only [run0, run1, run2, run3, run4, noSlot, ownS, ownK, memN, RO.dst, lk, drop, forget, number, Nat.reduceBEq, cut?, splice?, builds, List.length_cons, List.length_nil, List.drop_succ_cons, List.drop_zero, List.take_succ_cons, List.take_zero, List.cons_append, List.nil_append, List.append_nil, List.drop_nil, List.take_nil, Nat.reduceAdd, Nat.reduceLeDiff, Nat.zero_add, Nat.add_zero, ↓reduceIte, Bool.not_true, Bool.not_false, decide_true, decide_false, eq_self, bne_self_eq_false, List.getElem?_cons_zero, List.getElem?_cons_succ, decide_eq_true_eq, Bool.false_eq_true, Bool.true_eq_false, reduceCtorEq, Nat.le_refl, MapCmd.enc, e1, e2, e3, hep, e5, hm, hpc, k0', k1', k2']
            exact ⟨_, _, _, rfl, o1, ⟨y, _, (by first | rfl | rw [hm] | simp [hm]), rfl, u⟩, r1⟩
          have k2' : (q.kind == 2) = false := by simpa using k2
          cases k3 : (q.kind == 3) with
          | true =>
            have hto : inR c.to 0 99 = true := by
              simp only [Chart.good, hm, cond_true, Bool.and_eq_true] at hgd
              exact hgd.2.2.2.1
            have hjr : inR ((j : Nat) : Int) 0 ((c.ranges.length : Int) - 1) = true := by simp [inR]; omega
            obtain ⟨z, g2, f2, e6, o2, w2, r2⟩ := sMoveRange_c (Z := Z) hS hS11 hf1 w1 ((j : Nat) : Int) c.to ok.ranges sm
            rw [move_yes_ (by simp [hr, hjr, hto])] at e6 w2
            simp only [Int.toNat_natCast] at e6 w2
            have ha : c.act q = (⟨c.epoch + 1, c.ranges.set j ⟨(Range.at_ c.ranges j).lo, (Range.at_ c.ranges j).hi, c.to⟩, false, 0, 0⟩, 0) := by simp [Chart.act, k0', k1', k2', k3, hm, p2]
            rw [ha]
            simp only [run0, run1, run2, run3, run4, noSlot, ownS, ownK, memN, RO.dst, lk, drop, forget, number, Nat.reduceBEq, cut?, splice?, builds, List.length_cons, List.length_nil, List.drop_succ_cons, List.drop_zero, List.take_succ_cons, List.take_zero, List.cons_append, List.nil_append, List.append_nil, List.drop_nil, List.take_nil, Nat.reduceAdd, Nat.reduceLeDiff, Nat.zero_add, Nat.add_zero, ↓reduceIte, Bool.not_true, Bool.not_false, decide_true, decide_false, eq_self, bne_self_eq_false, List.getElem?_cons_zero, List.getElem?_cons_succ, decide_eq_true_eq, Bool.false_eq_true, Bool.true_eq_false, reduceCtorEq, Nat.le_refl, MapCmd.enc, e1, e2, e3, hep, e5, hm, hpc, k0', k1', k2', k3, e6, hepr]
            exact ⟨_, _, _, rfl, o1.trans o2, ⟨z, _, rfl, rfl, w2⟩, nx r2⟩
          | false =>
            have ha : c.act q = (⟨c.epoch + 1, c.ranges, false, 0, 0⟩, 0) := by simp [Chart.act, k0', k1', k2', k3, hm]
            rw [ha]
            simp only [run0, run1, run2, run3, run4, noSlot, ownS, ownK, memN, RO.dst, lk, drop, forget, number, Nat.reduceBEq, cut?, splice?, builds, List.length_cons, List.length_nil, List.drop_succ_cons, List.drop_zero, List.take_succ_cons, List.take_zero, List.cons_append, List.nil_append, List.append_nil, List.drop_nil, List.take_nil, Nat.reduceAdd, Nat.reduceLeDiff, Nat.zero_add, Nat.add_zero, ↓reduceIte, Bool.not_true, Bool.not_false, decide_true, decide_false, eq_self, bne_self_eq_false, List.getElem?_cons_zero, List.getElem?_cons_succ, decide_eq_true_eq, Bool.false_eq_true, Bool.true_eq_false, reduceCtorEq, Nat.le_refl, MapCmd.enc, e1, e2, e3, hep, e5, hm, hpc, k0', k1', k2', k3, hepr]
            exact ⟨_, _, _, rfl, o1, ⟨y, _, rfl, rfl, u⟩, r1⟩
end
end Go.Proofs.Ytlbagejkjkfkjaa.A
/- Does a range move? The program's closure. -/
namespace Go.Proofs.Ytlbagejkjkfkjaa.A
open Go
set_option linter.unusedSimpArgs false
set_option linter.unusedVariables false
def Chart.cells (c : Chart) (x : Cell) : List Cell := [.int .i64 c.epoch, x, .bool c.moving, .int .u64 c.lo, .int .i64 c.to]
section
variable {F : Nat → Option RF} {Z : CallF} {g : Heap} {c : Chart}
theorem moves_run (hI12 : Has F tI12) {o : Nat} {x : Cell} (hl : ∀ j n, loadP g o 0 j n = cut? (c.cells x) j n) (r : Range) : call F Z 254 [.agg r.enc, .c (.ptr o 0 0)] g = some (.c (.bool (c.moving && (r.lo == c.lo))), g) := by
  simp only [Chart.cells] at hl
  rw [call_run F Z (hI12.lk (g := 254) rfl) _ _ rfl]
  simp only [Range.enc]
  by_cases hm : c.moving = true
  · simp only [hm] at hl
    simp only [run0, run1, run2, run3, run4, noSlot, ownS, ownK, memN, RO.dst, lk, drop, forget, number, Nat.reduceBEq, cut?, splice?, builds, List.length_cons, List.length_nil, List.drop_succ_cons, List.drop_zero, List.take_succ_cons, List.take_zero, List.cons_append, List.nil_append, List.append_nil, List.drop_nil, List.take_nil, Nat.reduceAdd, Nat.reduceLeDiff, Nat.zero_add, Nat.add_zero, ↓reduceIte, Bool.not_true, Bool.not_false, decide_true, decide_false, eq_self, bne_self_eq_false, List.getElem?_cons_zero, List.getElem?_cons_succ, decide_eq_true_eq, Bool.false_eq_true, Bool.true_eq_false, reduceCtorEq, Nat.le_refl, hl, hm, Bool.true_and]
  · have hm' : c.moving = false := by simpa using hm
    simp only [hm'] at hl
    simp only [run0, run1, run2, run3, run4, noSlot, ownS, ownK, memN, RO.dst, lk, drop, forget, number, Nat.reduceBEq, cut?, splice?, builds, List.length_cons, List.length_nil, List.drop_succ_cons, List.drop_zero, List.take_succ_cons, List.take_zero, List.cons_append, List.nil_append, List.append_nil, List.drop_nil, List.take_nil, Nat.reduceAdd, Nat.reduceLeDiff, Nat.zero_add, Nat.add_zero, ↓reduceIte, Bool.not_true, Bool.not_false, decide_true, decide_false, eq_self, bne_self_eq_false, List.getElem?_cons_zero, List.getElem?_cons_succ, decide_eq_true_eq, Bool.false_eq_true, Bool.true_eq_false, reduceCtorEq, Nat.le_refl, hl, hm', Bool.false_and]
end
end Go.Proofs.Ytlbagejkjkfkjaa.A
/- A command is done with a chart, the program's way. -/
namespace Go.Proofs.Ytlbagejkjkfkjaa.A
open Go
set_option linter.unusedSimpArgs false
set_option linter.unusedVariables false
section
variable {F : Nat → Option RF} {Z : CallF} {h : Heap} {cs : List Cell} {c : Chart} {fp : List Nat}
set_option maxHeartbeats 4000000 in
theorem doMap_c (hI11 : Has F tI11) (hI12 : Has F tI12) (hLi : Has F tLibslicesIndexFuncimplRangeimplRange) (pr1 : PrimAt F Z 269 (insF 7 24)) (pr2 : PrimAt F Z 270 (delF 7)) (hf : h.floor ≤ h.next) (v : Chart.RI h cs c fp) (q : MapCmd) (okq : q.Ok) (ok : c.Ok) (sm : c.Small) :
    ∃ cs' h' fq, call F Z 224 [.agg cs, .agg q.enc] h = some (.tup [.agg cs', .c (.int .i64 (doMap c q).2)], h') ∧ On h h' ∧ Chart.RI h' cs' (doMap c q).1 fq ∧ Fre h fq := by
  obtain ⟨x, p, rfl, hp, w⟩ := v
  subst hp
  have o0 := On.push h [[.int .i64 c.epoch, x, .bool c.moving, .int .u64 c.lo, .int .i64 c.to]]
  have hl : ∀ {g : Heap}, On (h.push [[.int .i64 c.epoch, x, .bool c.moving, .int .u64 c.lo, .int .i64 c.to]]) g → ∀ j n, loadP g h.next 0 j n = cut? [.int .i64 c.epoch, x, .bool c.moving, .int .u64 c.lo, .int .i64 c.to] j n := fun {g} o j n => by
    have := o.ext.2 h.next (by simp [Heap.push])
    rw [push_get] at this
    simp [loadP, rowOf, this]
  have w0 := w.on (Fl.ok _) o0
  have hl0 := hl (On.refl _)
  generalize hh0 : h.push [[.int .i64 c.epoch, x, .bool c.moving, .int .u64 c.lo, .int .i64 c.to]] = h0 at *
  have hf0 := o0.le hf
  obtain ⟨_, h1, f1, e1, o1, ⟨y, _, rfl, rfl, u⟩, r1⟩ := copyChart_c (Z := Z) hI12 hf0 (⟨x, _, rfl, rfl, w0⟩ : Chart.RI h0 _ c _) sm
  have w1 := w0.on (Fl.ok _) o1
  have hl1 := hl o1
  obtain ⟨h2, e2, o2⟩ := isChart_run (Z := Z) hI11 hI12 hLi (⟨x, _, rfl, rfl, w1⟩ : Chart.RI h1 _ c _) ok
  have w2 := w1.on (Fl.ok _) o2
  have o12 := o1.trans o2
  have hl2 := hl o12
  have nx : ∀ {fq : List Nat}, Fre h0 fq → Fre h fq := fun f => ⟨fun id hid => Nat.le_trans o0.ext.1 (f.lo id hid), f.nd⟩
  have nx2 : ∀ {g : Heap} {fq : List Nat}, On h0 g → Fre g fq → Fre h fq := fun o f => ⟨fun id hid => Nat.le_trans (Nat.le_trans o0.ext.1 o.ext.1) (f.lo id hid), f.nd⟩
  rw [call_run F Z (hI12.lk (g := 224) rfl) _ _ rfl]
  by_cases hbad : (c.good && (inR q.kind 0 4 && !(c.epoch == 1000000))) = false
  · have hd : doMap c q = (c, 1) := by simp only [doMap, hbad, cond_false]
    rw [hd]
    have o := o0.trans o12
    have u2 := u.on (Fl.ok _) o2
    cases hgd : c.good with
    | false =>
      rw [hgd] at e2
      simp only [run0, run1, run2, run3, run4, noSlot, ownS, ownK, memN, RO.dst, lk, drop, forget, number, Nat.reduceBEq, cut?, splice?, builds, List.length_cons, List.length_nil, List.drop_succ_cons, List.drop_zero, List.take_succ_cons, List.take_zero, List.cons_append, List.nil_append, List.append_nil, List.drop_nil, List.take_nil, Nat.reduceAdd, Nat.reduceLeDiff, Nat.zero_add, Nat.add_zero, ↓reduceIte, Bool.not_true, Bool.not_false, decide_true, decide_false, eq_self, bne_self_eq_false, List.getElem?_cons_zero, List.getElem?_cons_succ, decide_eq_true_eq, Bool.false_eq_true, Bool.true_eq_false, reduceCtorEq, Nat.le_refl, MapCmd.enc, hh0, hl0, e1, hl1, e2]
      exact ⟨_, _, _, rfl, o, ⟨y, _, rfl, rfl, u2⟩, nx r1⟩
    | true =>
      rw [hgd] at e2
      by_cases k1 : q.kind < 0
      · simp only [run0, run1, run2, run3, run4, noSlot, ownS, ownK, memN, RO.dst, lk, drop, forget, number, Nat.reduceBEq, cut?, splice?, builds, List.length_cons, List.length_nil, List.drop_succ_cons, List.drop_zero, List.take_succ_cons, List.take_zero, List.cons_append, List.nil_append, List.append_nil, List.drop_nil, List.take_nil, Nat.reduceAdd, Nat.reduceLeDiff, Nat.zero_add, Nat.add_zero, ↓reduceIte, Bool.not_true, Bool.not_false, decide_true, decide_false, eq_self, bne_self_eq_false, List.getElem?_cons_zero, List.getElem?_cons_succ, decide_eq_true_eq, Bool.false_eq_true, Bool.true_eq_false, reduceCtorEq, Nat.le_refl, MapCmd.enc, hh0, hl0, e1, hl1, e2, k1]
        exact ⟨_, _, _, rfl, o, ⟨y, _, rfl, rfl, u2⟩, nx r1⟩
      · by_cases k2 : 4 < q.kind
        · simp only [run0, run1, run2, run3, run4, noSlot, ownS, ownK, memN, RO.dst, lk, drop, forget, number, Nat.reduceBEq, cut?, splice?, builds, List.length_cons, List.length_nil, List.drop_succ_cons, List.drop_zero, List.take_succ_cons, List.take_zero, List.cons_append, List.nil_append, List.append_nil, List.drop_nil, List.take_nil, Nat.reduceAdd, Nat.reduceLeDiff, Nat.zero_add, Nat.add_zero, ↓reduceIte, Bool.not_true, Bool.not_false, decide_true, decide_false, eq_self, bne_self_eq_false, List.getElem?_cons_zero, List.getElem?_cons_succ, decide_eq_true_eq, Bool.false_eq_true, Bool.true_eq_false, reduceCtorEq, Nat.le_refl, MapCmd.enc, hh0, hl0, e1, hl1, e2, k1, k2]
          exact ⟨_, _, _, rfl, o, ⟨y, _, rfl, rfl, u2⟩, nx r1⟩
        · have hep : (c.epoch == 1000000) = true := by
            have : inR q.kind 0 4 = true := by simp [inR]; omega
            simpa [hgd, this] using hbad
          simp only [run0, run1, run2, run3, run4, noSlot, ownS, ownK, memN, RO.dst, lk, drop, forget, number, Nat.reduceBEq, cut?, splice?, builds, List.length_cons, List.length_nil, List.drop_succ_cons, List.drop_zero, List.take_succ_cons, List.take_zero, List.cons_append, List.nil_append, List.append_nil, List.drop_nil, List.take_nil, Nat.reduceAdd, Nat.reduceLeDiff, Nat.zero_add, Nat.add_zero, ↓reduceIte, Bool.not_true, Bool.not_false, decide_true, decide_false, eq_self, bne_self_eq_false, List.getElem?_cons_zero, List.getElem?_cons_succ, decide_eq_true_eq, Bool.false_eq_true, Bool.true_eq_false, reduceCtorEq, Nat.le_refl, MapCmd.enc, hh0, hl0, e1, hl1, e2, k1, k2, hl2, hep]
          exact ⟨_, _, _, rfl, o, ⟨y, _, rfl, rfl, u2⟩, nx r1⟩
  · have hgood : (c.good && (inR q.kind 0 4 && !(c.epoch == 1000000))) = true := by simpa using hbad
    have hd : doMap c q = c.act q := by simp only [doMap, hgood, cond_true]
    rw [hd]
    simp only [Bool.and_eq_true, Bool.not_eq_true'] at hgood
    obtain ⟨hgd, hk, hep⟩ := hgood
    have hki := hk
    simp only [inR, Bool.and_eq_true, decide_eq_true_eq] at hki
    have k1 : ¬ q.kind < 0 := by omega
    have k2 : ¬ 4 < q.kind := by omega
    rw [hgd] at e2
    have hr := Chart.good_ranges hgd
    obtain ⟨k, hkl, q1, q2, q3, q4, q5⟩ := Chart.has (c := c) hr okq.at_.1 okq.at_.2
    have e3 := findRange_run (Z := Z) hI11 hLi w2 q.at_
    rw [q1] at e3
    have o3 := On.push h2 [[.int .u64 q.at_]]
    generalize h2.push [[.int .u64 q.at_]] = h3 at *
    have w3 := w2.on (Fl.ok _) o3
    have o13 := o12.trans o3
    have hl3 := hl o13
    have hf3 := o13.le hf0
    have u3 := u.on (Fl.ok _) (o2.trans o3)
    have hpl : c.pl q.at_ = k := by simp [Chart.pl, q1]
    have hxi := w.idx hkl
    have hld := w3.load hkl
    rw [← at_get hkl] at hld
    simp only [Range.enc] at hld
    have hepr : IntKind.i64.wrap (c.epoch + 1) = c.epoch + 1 := by
      simp only [Chart.good, inR, Bool.and_eq_true, decide_eq_true_eq] at hgd
      exact wrapI _ (by omega) (by omega)
    have mv : ∀ i, call F Z 254 [.agg [.int .u64 (Range.at_ c.ranges i).lo, .int .u64 (Range.at_ c.ranges i).hi, .int .i64 (Range.at_ c.ranges i).group], .c (.ptr h.next 0 0)] h3 = some (.c (.bool (c.mv i)), h3) := fun i => moves_run (Z := Z) hI12 (c := c) (x := x) hl3 (Range.at_ c.ranges i)
    have copy : ∀ {g : Heap}, On h0 g → ∃ z g' fz, call F Z 116 [.agg [.int .i64 c.epoch, x, .bool c.moving, .int .u64 c.lo, .int .i64 c.to]] g = some (.agg [.int .i64 c.epoch, z, .bool c.moving, .int .u64 c.lo, .int .i64 c.to], g') ∧ On h g' ∧ SlR 7 (Fl Range.enc) g' z c.ranges fz ∧ Fre h fz := fun {g} o => by
      obtain ⟨_, h5, f5, e, o5, ⟨z, _, rfl, rfl, u5⟩, r5⟩ := copyChart_c (Z := Z) hI12 (o.le hf0) (⟨x, _, rfl, rfl, w0.on (Fl.ok _) o⟩ : Chart.RI g _ c _) sm
      exact ⟨z, h5, f5, e, (o0.trans o).trans o5, u5, nx2 o r5⟩
    have oh3 := o0.trans o13
    by_cases k0 : q.kind = 0
    · have k0' : (q.kind == 0) = true := by simpa using k0
      cases hv : c.mv k with
      | true =>
        have mk := mv k
        rw [hv] at mk
        have ha : c.act q = (c, 2) := by simp [Chart.act, k0, hpl, hv]
        rw [ha]
        simp only [run0, run1, run2, run3, run4, noSlot, ownS, ownK, memN, RO.dst, lk, drop, forget, number, Nat.reduceBEq, cut?, splice?, builds, List.length_cons, List.length_nil, List.drop_succ_cons, List.drop_zero, List.take_succ_cons, List.take_zero, List.cons_append, List.nil_append, List.append_nil, List.drop_nil, List.take_nil, Nat.reduceAdd, Nat.reduceLeDiff, Nat.zero_add, Nat.add_zero, ↓reduceIte, Bool.not_true, Bool.not_false, decide_true, decide_false, eq_self, bne_self_eq_false, List.getElem?_cons_zero, List.getElem?_cons_succ, decide_eq_true_eq, Bool.false_eq_true, Bool.true_eq_false, reduceCtorEq, Nat.le_refl, MapCmd.enc, hh0, hl0, e1, hl1, e2, k1, k2, hl2, hep, e3, hl3, hxi, hld, evPtrs, capV_cons, k0', mk]
        exact ⟨_, _, _, rfl, oh3, ⟨y, _, rfl, rfl, u3⟩, nx r1⟩
      | false =>
        have mk := mv k
        rw [hv] at mk
        have ha : c.act q = c.fin (splitRg c.ranges q.at_ (Range.at_ c.ranges k).group) := by simp [Chart.act, k0, hpl, hv]
        rw [ha]
        obtain ⟨z, h4, f4, e6, o4, u4, r4⟩ := splitRange_c (Z := Z) hI11 hLi pr1 hf3 w3 q.at_ (Range.at_ c.ranges k).group okq.at_ ok.ranges sm
        have o14 := o13.trans o4
        have hl4 := hl o14
        cases hb : (splitRg c.ranges q.at_ (Range.at_ c.ranges k).group).2 with
        | false =>
          rw [hb] at e6
          obtain ⟨z', h5, f5, e7, o5, w5, r5⟩ := copy o14
          simp only [Chart.fin, hb, cond_false]
          simp only [run0, run1, run2, run3, run4, noSlot, ownS, ownK, memN, RO.dst, lk, drop, forget, number, Nat.reduceBEq, cut?, splice?, builds, List.length_cons, List.length_nil, List.drop_succ_cons, List.drop_zero, List.take_succ_cons, List.take_zero, List.cons_append, List.nil_append, List.append_nil, List.drop_nil, List.take_nil, Nat.reduceAdd, Nat.reduceLeDiff, Nat.zero_add, Nat.add_zero, ↓reduceIte, Bool.not_true, Bool.not_false, decide_true, decide_false, eq_self, bne_self_eq_false, List.getElem?_cons_zero, List.getElem?_cons_succ, decide_eq_true_eq, Bool.false_eq_true, Bool.true_eq_false, reduceCtorEq, Nat.le_refl, MapCmd.enc, hh0, hl0, e1, hl1, e2, k1, k2, hl2, hep, e3, hl3, hxi, hld, evPtrs, capV_cons, k0', mk, e6, hl4, e7]
          exact ⟨_, _, _, rfl, o5, ⟨z', _, rfl, rfl, w5⟩, r5⟩
        | true =>
          rw [hb] at e6
          simp only [Chart.fin, hb, cond_true]
          simp only [run0, run1, run2, run3, run4, noSlot, ownS, ownK, memN, RO.dst, lk, drop, forget, number, Nat.reduceBEq, cut?, splice?, builds, List.length_cons, List.length_nil, List.drop_succ_cons, List.drop_zero, List.take_succ_cons, List.take_zero, List.cons_append, List.nil_append, List.append_nil, List.drop_nil, List.take_nil, Nat.reduceAdd, Nat.reduceLeDiff, Nat.zero_add, Nat.add_zero, ↓reduceIte, Bool.not_true, Bool.not_false, decide_true, decide_false, eq_self, bne_self_eq_false, List.getElem?_cons_zero, List.getElem?_cons_succ, decide_eq_true_eq, Bool.false_eq_true, Bool.true_eq_false, reduceCtorEq, Nat.le_refl, MapCmd.enc, hh0, hl0, e1, hl1, e2, k1, k2, hl2, hep, e3, hl3, hxi, hld, evPtrs, capV_cons, k0', mk, e6, hl4, hepr]
          exact ⟨_, _, _, rfl, o0.trans o14, ⟨z, _, rfl, rfl, u4⟩, nx2 o13 r4⟩
    have k0' : (q.kind == 0) = false := by simpa using k0
    by_cases k1_ : q.kind = 1
    · have k1' : (q.kind == 1) = true := by simpa using k1_
      by_cases hla : (Range.at_ c.ranges k).lo = q.at_
      case neg =>
        have hln : ((Range.at_ c.ranges k).lo != q.at_) = true := by simpa using hla
        have ha : c.act q = (c, 4) := by simp [Chart.act, k1_, hpl, hln]
        rw [ha]
        simp only [run0, run1, run2, run3, run4, noSlot, ownS, ownK, memN, RO.dst, lk, drop, forget, number, Nat.reduceBEq, cut?, splice?, builds, List.length_cons, List.length_nil, List.drop_succ_cons, List.drop_zero, List.take_succ_cons, List.take_zero, List.cons_append, List.nil_append, List.append_nil, List.drop_nil, List.take_nil, Nat.reduceAdd, Nat.reduceLeDiff, Nat.zero_add, Nat.add_zero, ↓reduceIte, Bool.not_true, Bool.not_false, decide_true, decide_false, eq_self, bne_self_eq_false, List.getElem?_cons_zero, List.getElem?_cons_succ, decide_eq_true_eq, Bool.false_eq_true, Bool.true_eq_false, reduceCtorEq, Nat.le_refl, MapCmd.enc, hh0, hl0, e1, hl1, e2, k1, k2, hl2, hep, e3, hl3, hxi, hld, evPtrs, capV_cons, k0', k1', hln]
        exact ⟨_, _, _, rfl, oh3, ⟨y, _, rfl, rfl, u3⟩, nx r1⟩
      have hln : ((Range.at_ c.ranges k).lo != q.at_) = false := by simpa using hla
      cases hkz : (q.at_ == 0) with
      | true =>
        have ha : c.act q = (c, 4) := by simp [Chart.act, k1_, hpl, hln, hkz]
        rw [ha]
        simp only [run0, run1, run2, run3, run4, noSlot, ownS, ownK, memN, RO.dst, lk, drop, forget, number, Nat.reduceBEq, cut?, splice?, builds, List.length_cons, List.length_nil, List.drop_succ_cons, List.drop_zero, List.take_succ_cons, List.take_zero, List.cons_append, List.nil_append, List.append_nil, List.drop_nil, List.take_nil, Nat.reduceAdd, Nat.reduceLeDiff, Nat.zero_add, Nat.add_zero, ↓reduceIte, Bool.not_true, Bool.not_false, decide_true, decide_false, eq_self, bne_self_eq_false, List.getElem?_cons_zero, List.getElem?_cons_succ, decide_eq_true_eq, Bool.false_eq_true, Bool.true_eq_false, reduceCtorEq, Nat.le_refl, MapCmd.enc, hh0, hl0, e1, hl1, e2, k1, k2, hl2, hep, e3, hl3, hxi, hld, evPtrs, capV_cons, k0', k1', hln, hkz]
        exact ⟨_, _, _, rfl, oh3, ⟨y, _, rfl, rfl, u3⟩, nx r1⟩
      | false =>
        have hk1 : 1 ≤ k := by
          have hfit := rangesOk_fit hr
          rcases Nat.eq_zero_or_pos k with hk0 | hk0
          · subst hk0
            have := hfit.lo0
            simp only [beq_eq_false_iff_ne] at hkz
            omega
          · exact hk0
        have hwk : IntKind.i64.wrap ((k : Int) - 1) = ((k - 1 : Nat) : Int) := by
          have := w.le2
          rw [wrapI _ (by omega) (by omega)]; omega
        have hkk : k - 1 < c.ranges.length := by omega
        have hxj := w.idx hkk
        have hlj := w3.load hkk
        rw [← at_get hkk] at hlj
        simp only [Range.enc] at hlj
        cases hv : c.mv k with
        | true =>
          have mk := mv k
          rw [hv] at mk
          have ha : c.act q = (c, 2) := by simp [Chart.act, k1_, hpl, hln, hkz, hv]
          rw [ha]
          simp only [run0, run1, run2, run3, run4, noSlot, ownS, ownK, memN, RO.dst, lk, drop, forget, number, Nat.reduceBEq, cut?, splice?, builds, List.length_cons, List.length_nil, List.drop_succ_cons, List.drop_zero, List.take_succ_cons, List.take_zero, List.cons_append, List.nil_append, List.append_nil, List.drop_nil, List.take_nil, Nat.reduceAdd, Nat.reduceLeDiff, Nat.zero_add, Nat.add_zero, ↓reduceIte, Bool.not_true, Bool.not_false, decide_true, decide_false, eq_self, bne_self_eq_false, List.getElem?_cons_zero, List.getElem?_cons_succ, decide_eq_true_eq, Bool.false_eq_true, Bool.true_eq_false, reduceCtorEq, Nat.le_refl, MapCmd.enc, hh0, hl0, e1, hl1, e2, k1, k2, hl2, hep, e3, hl3, hxi, hld, evPtrs, capV_cons, k0', k1', hln, hkz, mk]
          exact ⟨_, _, _, rfl, oh3, ⟨y, _, rfl, rfl, u3⟩, nx r1⟩
        | false =>
          have mk := mv k
          rw [hv] at mk
          cases hv1 : c.mv (k - 1) with
          | true =>
            have mk1 := mv (k - 1)
            rw [hv1] at mk1
            have ha : c.act q = (c, 2) := by simp [Chart.act, k1_, hpl, hln, hkz, hv, hv1]
            rw [ha]
            simp only [run0, run1, run2, run3, run4, noSlot, ownS, ownK, memN, RO.dst, lk, drop, forget, number, Nat.reduceBEq, cut?, splice?, builds, List.length_cons, List.length_nil, List.drop_succ_cons, List.drop_zero, List.take_succ_cons, List.take_zero, List.cons_append, List.nil_append, List.append_nil, List.drop_nil, List.take_nil, Nat.reduceAdd, Nat.reduceLeDiff, Nat.zero_add, Nat.add_zero, ↓reduceIte, Bool.not_true, Bool.not_false, decide_true, decide_false, eq_self, bne_self_eq_false, List.getElem?_cons_zero, List.getElem?_cons_succ, decide_eq_true_eq, Bool.false_eq_true, Bool.true_eq_false, reduceCtorEq, Nat.le_refl, MapCmd.enc, hh0, hl0, e1, hl1, e2, k1, k2, hl2, hep, e3, hl3, hxi, hld, evPtrs, capV_cons, k0', k1', hln, hkz, mk, hwk, hxj, hlj, mk1]
            exact ⟨_, _, _, rfl, oh3, ⟨y, _, rfl, rfl, u3⟩, nx r1⟩
          | false =>
            have mk1 := mv (k - 1)
            rw [hv1] at mk1
            have ha : c.act q = c.fin (mergeRg c.ranges ((k : Nat) - 1 : Int)) := by simp [Chart.act, k1_, hpl, hln, hkz, hv, hv1]
            rw [ha]
            have hkc : ((k : Nat) : Int) - 1 = ((k - 1 : Nat) : Int) := by omega
            rw [hkc]
            obtain ⟨z, h4, f4, e6, o4, u4, r4⟩ := mergeRange_c (Z := Z) hI11 pr2 hf3 w3 ((k - 1 : Nat) : Int) ok.ranges sm
            have o14 := o13.trans o4
            have hl4 := hl o14
            cases hb : (mergeRg c.ranges ((k - 1 : Nat) : Int)).2 with
            | false =>
              rw [hb] at e6
              obtain ⟨z', h5, f5, e7, o5, w5, r5⟩ := copy o14
              simp only [Chart.fin, hb, cond_false]
              simp only [run0, run1, run2, run3, run4, noSlot, ownS, ownK, memN, RO.dst, lk, drop, forget, number, Nat.reduceBEq, cut?, splice?, builds, List.length_cons, List.length_nil, List.drop_succ_cons, List.drop_zero, List.take_succ_cons, List.take_zero, List.cons_append, List.nil_append, List.append_nil, List.drop_nil, List.take_nil, Nat.reduceAdd, Nat.reduceLeDiff, Nat.zero_add, Nat.add_zero, ↓reduceIte, Bool.not_true, Bool.not_false, decide_true, decide_false, eq_self, bne_self_eq_false, List.getElem?_cons_zero, List.getElem?_cons_succ, decide_eq_true_eq, Bool.false_eq_true, Bool.true_eq_false, reduceCtorEq, Nat.le_refl, MapCmd.enc, hh0, hl0, e1, hl1, e2, k1, k2, hl2, hep, e3, hl3, hxi, hld, evPtrs, capV_cons, k0', k1', hln, hkz, mk, hwk, hxj, hlj, mk1, e6, hl4, e7]
              exact ⟨_, _, _, rfl, o5, ⟨z', _, rfl, rfl, w5⟩, r5⟩
            | true =>
              rw [hb] at e6
              simp only [Chart.fin, hb, cond_true]
              simp only [run0, run1, run2, run3, run4, noSlot, ownS, ownK, memN, RO.dst, lk, drop, forget, number, Nat.reduceBEq, cut?, splice?, builds, List.length_cons, List.length_nil, List.drop_succ_cons, List.drop_zero, List.take_succ_cons, List.take_zero, List.cons_append, List.nil_append, List.append_nil, List.drop_nil, List.take_nil, Nat.reduceAdd, Nat.reduceLeDiff, Nat.zero_add, Nat.add_zero, ↓reduceIte, Bool.not_true, Bool.not_false, decide_true, decide_false, eq_self, bne_self_eq_false, List.getElem?_cons_zero, List.getElem?_cons_succ, decide_eq_true_eq, Bool.false_eq_true, Bool.true_eq_false, reduceCtorEq, Nat.le_refl, MapCmd.enc, hh0, hl0, e1, hl1, e2, k1, k2, hl2, hep, e3, hl3, hxi, hld, evPtrs, capV_cons, k0', k1', hln, hkz, mk, hwk, hxj, hlj, mk1, e6, hl4, hepr]
              exact ⟨_, _, _, rfl, o0.trans o14, ⟨z, _, rfl, rfl, u4⟩, nx2 o13 r4⟩
    have k1' : (q.kind == 1) = false := by simpa using k1_
    have e4 := fun g => isGroupId_run (Z := Z) hI11 q.group g
    by_cases k2_ : q.kind = 2
    · have k2' : (q.kind == 2) = true := by simpa using k2_
      by_cases hm : c.moving = true
      · rw [hm] at e1 e2 hh0
        have ha : c.act q = (c, 2) := by simp [Chart.act, k2_, hm]
        rw [ha]
        simp only [run0, run1, run2, run3, run4, noSlot, ownS, ownK, memN, RO.dst, lk, drop, forget, number, Nat.reduceBEq, cut?, splice?, builds, List.length_cons, List.length_nil, List.drop_succ_cons, List.drop_zero, List.take_succ_cons, List.take_zero, List.cons_append, List.nil_append, List.append_nil, List.drop_nil, List.take_nil, Nat.reduceAdd, Nat.reduceLeDiff, Nat.zero_add, Nat.add_zero, ↓reduceIte, Bool.not_true, Bool.not_false, decide_true, decide_false, eq_self, bne_self_eq_false, List.getElem?_cons_zero, List.getElem?_cons_succ, decide_eq_true_eq, Bool.false_eq_true, Bool.true_eq_false, reduceCtorEq, Nat.le_refl, MapCmd.enc, hh0, hl0, e1, hl1, e2, k1, k2, hl2, hep, e3, hl3, hxi, hld, evPtrs, capV_cons, k0', k1', k2', hm]
        exact ⟨_, _, _, rfl, oh3, ⟨y, _, (by first | rfl | rw [hm] | simp [hm]), rfl, u3⟩, nx r1⟩
      · replace hm : c.moving = false := by simpa using hm
        rw [hm] at e1 e2 hh0
        cases hg : inR q.group 0 99 with
        | false =>
          rw [hg] at e4
          have ha : c.act q = (c, 4) := by simp [Chart.act, k2_, hm, hg]
          rw [ha]
          obtain ⟨z', h5, f5, e7, o5, w5, r5⟩ := copy o13
          rw [hm] at e7
          simp only [run0, run1, run2, run3, run4, noSlot, ownS, ownK, memN, RO.dst, lk, drop, forget, number, Nat.reduceBEq, cut?, splice?, builds, List.length_cons, List.length_nil, List.drop_succ_cons, List.drop_zero, List.take_succ_cons, List.take_zero, List.cons_append, List.nil_append, List.append_nil, List.drop_nil, List.take_nil, Nat.reduceAdd, Nat.reduceLeDiff, Nat.zero_add, Nat.add_zero, ↓reduceIte, Bool.not_true, Bool.not_false, decide_true, decide_false, eq_self, bne_self_eq_false, List.getElem?_cons_zero, List.getElem?_cons_succ, decide_eq_true_eq, Bool.false_eq_true, Bool.true_eq_false, reduceCtorEq, Nat.le_refl, MapCmd.enc, hh0, hl0, e1, hl1, e2, k1, k2, hl2, hep, e3, hl3, hxi, hld, evPtrs, capV_cons, k0', k1', k2', hm, e4, e7]
          exact ⟨_, _, _, rfl, o5, ⟨z', _, (by first | rfl | rw [hm] | simp [hm]), rfl, w5⟩, r5⟩
        | true =>
          rw [hg] at e4
          cases hg2 : (q.group != (Range.at_ c.ranges k).group) with
          | false =>
            have ha : c.act q = (c, 4) := by simp [Chart.act, k2_, hm, hg, hpl, hg2]
            rw [ha]
            obtain ⟨z', h5, f5, e7, o5, w5, r5⟩ := copy o13
            rw [hm] at e7
            simp only [run0, run1, run2, run3, run4, noSlot, ownS, ownK, memN, RO.dst, lk, drop, forget, number, Nat.reduceBEq, cut?, splice?, builds, List.length_cons, List.length_nil, List.drop_succ_cons, List.drop_zero, List.take_succ_cons, List.take_zero, List.cons_append, List.nil_append, List.append_nil, List.drop_nil, List.take_nil, Nat.reduceAdd, Nat.reduceLeDiff, Nat.zero_add, Nat.add_zero, ↓reduceIte, Bool.not_true, Bool.not_false, decide_true, decide_false, eq_self, bne_self_eq_false, List.getElem?_cons_zero, List.getElem?_cons_succ, decide_eq_true_eq, Bool.false_eq_true, Bool.true_eq_false, reduceCtorEq, Nat.le_refl, MapCmd.enc, hh0, hl0, e1, hl1, e2, k1, k2, hl2, hep, e3, hl3, hxi, hld, evPtrs, capV_cons, k0', k1', k2', hm, e4, hg2, e7]
            exact ⟨_, _, _, rfl, o5, ⟨z', _, (by first | rfl | rw [hm] | simp [hm]), rfl, w5⟩, r5⟩
          | true =>
            have ha : c.act q = (⟨c.epoch + 1, c.ranges, true, (Range.at_ c.ranges k).lo, q.group⟩, 0) := by simp [Chart.act, k2_, hm, hpl, hg, hg2]
            rw [ha]
            simp only [run0, run1, run2, run3, run4, noSlot, ownS, ownK, memN, RO.dst, lk, drop, forget, number, Nat.reduceBEq, cut?, splice?, builds, List.length_cons, List.length_nil, List.drop_succ_cons, List.drop_zero, List.take_succ_cons, List.take_zero, List.cons_append, List.nil_append, List.append_nil, List.drop_nil, List.take_nil, Nat.reduceAdd, Nat.reduceLeDiff, Nat.zero_add, Nat.add_zero, ↓reduceIte, Bool.not_true, Bool.not_false, decide_true, decide_false, eq_self, bne_self_eq_false, List.getElem?_cons_zero, List.getElem?_cons_succ, decide_eq_true_eq, Bool.false_eq_true, Bool.true_eq_false, reduceCtorEq, Nat.le_refl, MapCmd.enc, hh0, hl0, e1, hl1, e2, k1, k2, hl2, hep, e3, hl3, hxi, hld, evPtrs, capV_cons, k0', k1', k2', hm, e4, hg2, hepr]
            exact ⟨_, _, _, rfl, oh3, ⟨y, _, rfl, rfl, u3⟩, nx r1⟩
    have k2' : (q.kind == 2) = false := by simpa using k2_
    by_cases hm : c.moving = true
    case neg =>
      replace hm : c.moving = false := by simpa using hm
      rw [hm] at e1 e2 hh0
      have ha : c.act q = (c, 3) := by simp [Chart.act, k0', k1', k2', hm]
      rw [ha]
      by_cases k3_ : q.kind = 3
      · have k3 : (q.kind == 3) = true := by simpa using k3_
        simp only [run0, run1, run2, run3, run4, noSlot, ownS, ownK, memN, RO.dst, lk, drop, forget, number, Nat.reduceBEq, cut?, splice?, builds, List.length_cons, List.length_nil, List.drop_succ_cons, List.drop_zero, List.take_succ_cons, List.take_zero, List.cons_append, List.nil_append, List.append_nil, List.drop_nil, List.take_nil, Nat.reduceAdd, Nat.reduceLeDiff, Nat.zero_add, Nat.add_zero, ↓reduceIte, Bool.not_true, Bool.not_false, decide_true, decide_false, eq_self, bne_self_eq_false, List.getElem?_cons_zero, List.getElem?_cons_succ, decide_eq_true_eq, Bool.false_eq_true, Bool.true_eq_false, reduceCtorEq, Nat.le_refl, MapCmd.enc, hh0, hl0, e1, hl1, e2, k1, k2, hl2, hep, e3, hl3, hxi, hld, evPtrs, capV_cons, k0', k1', k2', k3, hm]
        exact ⟨_, _, _, rfl, oh3, ⟨y, _, (by first | rfl | rw [hm] | simp [hm]), rfl, u3⟩, nx r1⟩
      · have k3 : (q.kind == 3) = false := by simpa using k3_
        have k4 : (q.kind == 4) = true := by simp; omega
        simp only [run0, run1, run2, run3, run4, noSlot, ownS, ownK, memN, RO.dst, lk, drop, forget, number, Nat.reduceBEq, cut?, splice?, builds, List.length_cons, List.length_nil, List.drop_succ_cons, List.drop_zero, List.take_succ_cons, List.take_zero, List.cons_append, List.nil_append, List.append_nil, List.drop_nil, List.take_nil, Nat.reduceAdd, Nat.reduceLeDiff, Nat.zero_add, Nat.add_zero, ↓reduceIte, Bool.not_true, Bool.not_false, decide_true, decide_false, eq_self, bne_self_eq_false, List.getElem?_cons_zero, List.getElem?_cons_succ, decide_eq_true_eq, Bool.false_eq_true, Bool.true_eq_false, reduceCtorEq, Nat.le_refl, MapCmd.enc, hh0, hl0, e1, hl1, e2, k1, k2, hl2, hep, e3, hl3, hxi, hld, evPtrs, capV_cons, k0', k1', k2', k3, k4, hm]
        exact ⟨_, _, _, rfl, oh3, ⟨y, _, (by first | rfl | rw [hm] | simp [hm]), rfl, u3⟩, nx r1⟩
    rw [hm] at e1 e2 hh0
    by_cases k3_ : q.kind = 3
    · have k3 : (q.kind == 3) = true := by simpa using k3_
      obtain ⟨j, hj, p1, p2, p3, p4, p5⟩ := Chart.mv_place hgd hm ok.lo
      have ha : c.act q = (⟨c.epoch + 1, c.ranges.set j ⟨(Range.at_ c.ranges j).lo, (Range.at_ c.ranges j).hi, c.to⟩, false, 0, 0⟩, 0) := by simp [Chart.act, k0', k1', k2', k3, hm, p2]
      rw [ha]
      obtain ⟨hq, g, e6, hgq, o4⟩ := findRange_q (Z := Z) hI11 hLi w3 c.lo
      rw [p3] at e6
      have u4 := u3.on (Fl.ok _) o4
      have o14 := o13.trans o4
      have hyi := u4.idx hj
      obtain ⟨r, f, rows, hR, hs, hld2, hself, hst, hl2', fin⟩ := u4.putRow (Fl.ok _) r1.nd (r1.own o14 hf0) hj
      obtain ⟨rfl, rfl⟩ := hR
      have hst1 := hst c.ranges[j].enc 2 [.int .i64 c.to]
      rw [hself] at hst1
      obtain ⟨uu, m2⟩ := fin (⟨(Range.at_ c.ranges j).lo, (Range.at_ c.ranges j).hi, c.to⟩ : Range).enc ⟨(Range.at_ c.ranges j).lo, (Range.at_ c.ranges j).hi, c.to⟩ ⟨rfl, rfl⟩
      rw [← at_get hj] at hst1
      simp only [Range.enc] at hst1 uu m2
      have hst2 : storeP g y.sid j 2 [.int .i64 c.to] = some (g.put y.sid (rows.set j [.int .u64 (Range.at_ c.ranges j).lo, .int .u64 (Range.at_ c.ranges j).hi, .int .i64 c.to])) := by rw [hst1]; simp [splice?, putM_s]
      simp only [run0, run1, run2, run3, run4, noSlot, ownS, ownK, memN, RO.dst, lk, drop, forget, number, Nat.reduceBEq, cut?, splice?, builds, List.length_cons, List.length_nil, List.drop_succ_cons, List.drop_zero, List.take_succ_cons, List.take_zero, List.cons_append, List.nil_append, List.append_nil, List.drop_nil, List.take_nil, Nat.reduceAdd, Nat.reduceLeDiff, Nat.zero_add, Nat.add_zero, ↓reduceIte, Bool.not_true, Bool.not_false, decide_true, decide_false, eq_self, bne_self_eq_false, List.getElem?_cons_zero, List.getElem?_cons_succ, decide_eq_true_eq, Bool.false_eq_true, Bool.true_eq_false, reduceCtorEq, Nat.le_refl, MapCmd.enc, hh0, hl0, e1, hl1, e2, k1, k2, hl2, hep, e3, hl3, hxi, hld, evPtrs, capV_cons, k0', k1', k2', k3, hm, e6, hgq, hyi, hst2, hepr]
      exact ⟨_, _, _, rfl, o0.trans (o14.turned m2 r1), ⟨y, _, rfl, rfl, uu⟩, nx r1⟩
    · have k3 : (q.kind == 3) = false := by simpa using k3_
      have k4 : (q.kind == 4) = true := by simp; omega
      have ha : c.act q = (⟨c.epoch + 1, c.ranges, false, 0, 0⟩, 0) := by simp [Chart.act, k0', k1', k2', k3, hm]
      rw [ha]
      simp only [run0, run1, run2, run3, run4, noSlot, ownS, ownK, memN, RO.dst, lk, drop, forget, number, Nat.reduceBEq, cut?, splice?, builds, List.length_cons, List.length_nil, List.drop_succ_cons, List.drop_zero, List.take_succ_cons, List.take_zero, List.cons_append, List.nil_append, List.append_nil, List.drop_nil, List.take_nil, Nat.reduceAdd, Nat.reduceLeDiff, Nat.zero_add, Nat.add_zero, ↓reduceIte, Bool.not_true, Bool.not_false, decide_true, decide_false, eq_self, bne_self_eq_false, List.getElem?_cons_zero, List.getElem?_cons_succ, decide_eq_true_eq, Bool.false_eq_true, Bool.true_eq_false, reduceCtorEq, Nat.le_refl, MapCmd.enc, hh0, hl0, e1, hl1, e2, k1, k2, hl2, hep, e3, hl3, hxi, hld, evPtrs, capV_cons, k0', k1', k2', k3, k4, hm, hepr]
      exact ⟨_, _, _, rfl, oh3, ⟨y, _, rfl, rfl, u3⟩, nx r1⟩
end
end Go.Proofs.Ytlbagejkjkfkjaa.A
/- A command done with a chart, as the laws need it. -/
namespace Go.Proofs.Ytlbagejkjkfkjaa.A
open Go
set_option linter.unusedSimpArgs false
set_option linter.unusedVariables false
theorem doMap_bad {c : Chart} (h : c.good = false) (q : MapCmd) : doMap c q = (c, 1) := by simp [doMap, h]
theorem doMap_small {c : Chart} (sm : c.Small) (q : MapCmd) : (doMap c q).1.Small := by
  cases hg : c.good with
  | false => rw [doMap_bad hg]; exact sm
  | true =>
    have h1 := doMap_len c q
    have h2 := (rangesOk_fit (Chart.good_ranges hg)).few
    show (doMap c q).1.ranges.length ≤ 1048576
    omega
section
variable {F : Nat → Option RF} {Z : CallF} {h : Heap} {cs : List Cell} {c : Chart} {fp : List Nat}
theorem DoMap_c (hI11 : Has F tI11) (hI12 : Has F tI12) (hLi : Has F tLibslicesIndexFuncimplRangeimplRange) (pr1 : PrimAt F Z 269 (insF 7 24)) (pr2 : PrimAt F Z 270 (delF 7)) (hf : h.floor ≤ h.next) (v : Chart.RI h cs c fp) (q : MapCmd) (okq : q.Ok) (ok : c.Ok) (sm : c.Small) :
    ∃ cs' h' fq, call F Z 181 [.agg cs, .agg q.enc] h = some (.tup [.agg cs', .c (.int .i64 (doMap c q).2)], h') ∧ On h h' ∧ Chart.RI h' cs' (doMap c q).1 fq ∧ Fre h fq := by
  obtain ⟨l1, l2, l3⟩ := Chart.lenI v
  obtain ⟨cs', h', fq, e, o, u, f⟩ := doMap_c (Z := Z) hI11 hI12 hLi pr1 pr2 hf v q okq ok sm
  obtain ⟨k1, k2, k3⟩ := Chart.lenI u
  rw [call_run F Z (hI12.lk (g := 181) rfl) _ _ rfl]
  simp only [run0, run1, run2, run3, run4, noSlot, ownS, ownK, memN, RO.dst, lk, drop, forget, number, Nat.reduceBEq, cut?, splice?, builds, List.length_cons, List.length_nil, List.drop_succ_cons, List.drop_zero, List.take_succ_cons, List.take_zero, List.cons_append, List.nil_append, List.append_nil, List.drop_nil, List.take_nil, Nat.reduceAdd, Nat.reduceLeDiff, Nat.zero_add, Nat.add_zero, ↓reduceIte, Bool.not_true, Bool.not_false, decide_true, decide_false, eq_self, bne_self_eq_false, List.getElem?_cons_zero, List.getElem?_cons_succ, decide_eq_true_eq, Bool.false_eq_true, Bool.true_eq_false, reduceCtorEq, Nat.le_refl, MapCmd.len, MapCmd.tak, l1, l2, l3, e, k1, k2, k3]
  exact ⟨_, _, _, rfl, o, u, f⟩
end
end Go.Proofs.Ytlbagejkjkfkjaa.A
/- What the converters of MapCmd compute. -/
namespace Go.Proofs.Ytlbagejkjkfkjaa.A
open Go
set_option linter.unusedSimpArgs false
set_option linter.unusedVariables false
section
variable {F : Nat → Option RF} {Z : CallF} {h : Heap} {x y : Cell} {xs ys : List MapCmd} {fp fq : List Nat}
def MapCmd.zero : List Cell := [.int .i64 0, .int .u64 0, .int .i64 0]
theorem toMapCmd_run (hL : Has F tLMapCmd) (p : MapCmd) (h : Heap) : call F Z 179 [.agg p.enc] h = some (.agg p.enc, h) := by
  rw [call_run F Z (hL.lk (g := 179) rfl) _ _ rfl]
  simp only [MapCmd.enc, run0, run1, run2, run3, run4, noSlot, ownS, ownK, memN, RO.dst, lk, drop, forget, number, Nat.reduceBEq, cut?, splice?, builds, List.length_cons, List.length_nil, List.drop_succ_cons, List.drop_zero, List.take_succ_cons, List.take_zero, List.cons_append, List.nil_append, List.append_nil, List.drop_nil, List.take_nil, Nat.reduceAdd, Nat.reduceLeDiff, Nat.zero_add, Nat.add_zero, ↓reduceIte, Bool.not_true, Bool.not_false, decide_true, decide_false, eq_self, bne_self_eq_false, List.getElem?_cons_zero, List.getElem?_cons_succ, decide_eq_true_eq, Bool.false_eq_true, Bool.true_eq_false, reduceCtorEq, Nat.le_refl]
set_option maxHeartbeats 1000000 in
theorem eqMapCmd_run (hL : Has F tLMapCmd) (p q : MapCmd) (h : Heap) : call F Z 369 [.agg p.enc, .agg q.enc] h = some (.c (.bool (decide (p = q))), h) := by
  rw [call_run F Z (hL.lk (g := 369) rfl) _ _ rfl]
  obtain ⟨kind1, at_1, group1⟩ := p
  obtain ⟨kind2, at_2, group2⟩ := q
  simp only [MapCmd.enc, run0, run1, run2, run3, run4, noSlot, ownS, ownK, memN, RO.dst, lk, drop, forget, number, Nat.reduceBEq, cut?, splice?, builds, List.length_cons, List.length_nil, List.drop_succ_cons, List.drop_zero, List.take_succ_cons, List.take_zero, List.cons_append, List.nil_append, List.append_nil, List.drop_nil, List.take_nil, Nat.reduceAdd, Nat.reduceLeDiff, Nat.zero_add, Nat.add_zero, ↓reduceIte, Bool.not_true, Bool.not_false, decide_true, decide_false, eq_self, bne_self_eq_false, List.getElem?_cons_zero, List.getElem?_cons_succ, decide_eq_true_eq, Bool.false_eq_true, Bool.true_eq_false, reduceCtorEq, Nat.le_refl]
  (repeat' ((first | (rw [gF_if]; split) | (rw [condC_if]; split) | (rw [pickR_if]; split)) <;> (rename_i hh; (try simp only [Bool.not_eq_true, decide_eq_true_eq] at hh); simp only [hh, run0, run1, run2, run3, run4, noSlot, ownS, ownK, memN, RO.dst, lk, drop, forget, number, Nat.reduceBEq, cut?, splice?, builds, List.length_cons, List.length_nil, List.drop_succ_cons, List.drop_zero, List.take_succ_cons, List.take_zero, List.cons_append, List.nil_append, List.append_nil, List.drop_nil, List.take_nil, Nat.reduceAdd, Nat.reduceLeDiff, Nat.zero_add, Nat.add_zero, ↓reduceIte, Bool.not_true, Bool.not_false, decide_true, decide_false, eq_self, bne_self_eq_false, List.getElem?_cons_zero, List.getElem?_cons_succ, decide_eq_true_eq, Bool.false_eq_true, Bool.true_eq_false, reduceCtorEq, Nat.le_refl]))) <;> refine fin_bool ?_ <;> simp_all <;> (try (intros; omega))
theorem szMapCmdS_run (hL : Has F tLMapCmd) (w : SlR 21 (Fl MapCmd.enc) h x xs fp) (left : Int) (h1 : 0 ≤ left) (h2 : left ≤ 1048576) : call F Z 355 [.c x, .c (.int .i64 left)] h = some (.c (.int .i64 (if left - xs.length < 0 then -1 else left - xs.length)), h) := by
  have := w.le2
  rw [call_run F Z (hL.lk (g := 355) rfl) _ _ rfl]
  simp only [run0, run1, run2, run3, run4, noSlot, ownS, ownK, memN, RO.dst, lk, drop, forget, number, Nat.reduceBEq, cut?, splice?, builds, List.length_cons, List.length_nil, List.drop_succ_cons, List.drop_zero, List.take_succ_cons, List.take_zero, List.cons_append, List.nil_append, List.append_nil, List.drop_nil, List.take_nil, Nat.reduceAdd, Nat.reduceLeDiff, Nat.zero_add, Nat.add_zero, ↓reduceIte, Bool.not_true, Bool.not_false, decide_true, decide_false, eq_self, bne_self_eq_false, List.getElem?_cons_zero, List.getElem?_cons_succ, decide_eq_true_eq, Bool.false_eq_true, Bool.true_eq_false, reduceCtorEq, Nat.le_refl, w.len, wrapI (left - xs.length) (by omega) (by omega)]
  (repeat' ((first | (rw [gF_if]; split) | (rw [condC_if]; split) | (rw [pickR_if]; split)) <;> (rename_i hh; (try simp only [Bool.not_eq_true, decide_eq_true_eq] at hh); simp only [hh, run0, run1, run2, run3, run4, noSlot, ownS, ownK, memN, RO.dst, lk, drop, forget, number, Nat.reduceBEq, cut?, splice?, builds, List.length_cons, List.length_nil, List.drop_succ_cons, List.drop_zero, List.take_succ_cons, List.take_zero, List.cons_append, List.nil_append, List.append_nil, List.drop_nil, List.take_nil, Nat.reduceAdd, Nat.reduceLeDiff, Nat.zero_add, Nat.add_zero, ↓reduceIte, Bool.not_true, Bool.not_false, decide_true, decide_false, eq_self, bne_self_eq_false, List.getElem?_cons_zero, List.getElem?_cons_succ, decide_eq_true_eq, Bool.false_eq_true, Bool.true_eq_false, reduceCtorEq, Nat.le_refl]))) <;> simp_all
theorem szMapCmdS_c (hL : Has F tLMapCmd) (w : SlR 21 (Fl MapCmd.enc) h x xs fp) (left : Int) (h1 : 0 ≤ left) (h2 : left ≤ 1048576) : ∃ r, call F Z 355 [.c x, .c (.int .i64 left)] h = some (.c (.int .i64 r), h) ∧ r ≤ left ∧ (0 ≤ r → xs.length ≤ 1048576) :=
  ⟨_, szMapCmdS_run hL w left h1 h2, by split <;> omega, by split <;> omega⟩
theorem toMapCmd_lit (hL : Has F tLMapCmd) (kind1 at_1 group1 : Int) (h : Heap) : call F Z 179 [.agg [.int .i64 kind1, .int .u64 at_1, .int .i64 group1]] h = some (.agg [.int .i64 kind1, .int .u64 at_1, .int .i64 group1], h) := toMapCmd_run hL ⟨kind1, at_1, group1⟩ h
theorem eqMapCmd_lit (hL : Has F tLMapCmd) (kind1 at_1 group1 kind2 at_2 group2 : Int) (h : Heap) : call F Z 369 [.agg [.int .i64 kind1, .int .u64 at_1, .int .i64 group1], .agg [.int .i64 kind2, .int .u64 at_2, .int .i64 group2]] h = some (.c (.bool (decide ((⟨kind1, at_1, group1⟩ : MapCmd) = ⟨kind2, at_2, group2⟩))), h) := eqMapCmd_run hL ⟨kind1, at_1, group1⟩ ⟨kind2, at_2, group2⟩ h
theorem toMapCmdS_run (hL : Has F tLMapCmd) (hf : h.floor ≤ h.next) (w : SlR 21 (Fl MapCmd.enc) h x xs fp) (hn : xs.length ≤ 1048576) : call F Z 356 [.c x] h = some (.c (.sl 14 h.next 0 xs.length), h.push (xs.map MapCmd.enc)) := by
  rw [call_run F Z (hL.lk (g := 356) rfl) _ _ rfl]
  simp only [run0, run1, run2, run3, run4, noSlot, ownS, ownK, memN, RO.dst, lk, drop, forget, number, Nat.reduceBEq, cut?, splice?, builds, List.length_cons, List.length_nil, List.drop_succ_cons, List.drop_zero, List.take_succ_cons, List.take_zero, List.cons_append, List.nil_append, List.append_nil, List.drop_nil, List.take_nil, Nat.reduceAdd, Nat.reduceLeDiff, Nat.zero_add, Nat.add_zero, ↓reduceIte, Bool.not_true, Bool.not_false, decide_true, decide_false, eq_self, bne_self_eq_false, List.getElem?_cons_zero, List.getElem?_cons_succ, decide_eq_true_eq, Bool.false_eq_true, Bool.true_eq_false, reduceCtorEq, Nat.le_refl, w.len]
  rw [if_pos (by omega)]
  simp only [run0, run1, run2, run3, run4, noSlot, ownS, ownK, memN, RO.dst, lk, drop, forget, number, Nat.reduceBEq, cut?, splice?, builds, List.length_cons, List.length_nil, List.drop_succ_cons, List.drop_zero, List.take_succ_cons, List.take_zero, List.cons_append, List.nil_append, List.append_nil, List.drop_nil, List.take_nil, Nat.reduceAdd, Nat.reduceLeDiff, Nat.zero_add, Nat.add_zero, ↓reduceIte, Bool.not_true, Bool.not_false, decide_true, decide_false, eq_self, bne_self_eq_false, List.getElem?_cons_zero, List.getElem?_cons_succ, decide_eq_true_eq, Bool.false_eq_true, Bool.true_eq_false, reduceCtorEq, Nat.le_refl, Int.toNat_natCast]
  have key : loop F Z [0, 3, 4] r356L0 ⟨[(0, .c x), (3, .c (.sl 14 h.next 0 xs.length)), (4, .c (.int .i64 (0 : Nat)))], [], [], h.push (fillR MapCmd.enc MapCmd.zero xs 0)⟩ = loop F Z [0, 3, 4] r356L0 ⟨[(0, .c x), (3, .c (.sl 14 h.next 0 xs.length)), (4, .c (.int .i64 (xs.length : Nat)))], [], [], h.push (fillR MapCmd.enc MapCmd.zero xs xs.length)⟩ :=
    loop_goesF xs.length (fun i => ⟨[(0, .c x), (3, .c (.sl 14 h.next 0 xs.length)), (4, .c (.int .i64 (i : Nat)))], [], [], h.push (fillR MapCmd.enc MapCmd.zero xs i)⟩) fun i hi => by
      have w' := w.mono (Fl.ok _) (HExt.push h (fillR MapCmd.enc MapCmd.zero xs i))
      have hlt : (i : Int) < xs.length := by omega
      have h0 : (0 : Int) ≤ i := by omega
      rw [loop_run]
      simp only [r356L0, run0, run1, run2, run3, run4, noSlot, ownS, ownK, memN, RO.dst, lk, drop, forget, number, Nat.reduceBEq, cut?, splice?, builds, List.length_cons, List.length_nil, List.drop_succ_cons, List.drop_zero, List.take_succ_cons, List.take_zero, List.cons_append, List.nil_append, List.append_nil, List.drop_nil, List.take_nil, Nat.reduceAdd, Nat.reduceLeDiff, Nat.zero_add, Nat.add_zero, ↓reduceIte, Bool.not_true, Bool.not_false, decide_true, decide_false, eq_self, bne_self_eq_false, List.getElem?_cons_zero, List.getElem?_cons_succ, decide_eq_true_eq, Bool.false_eq_true, Bool.true_eq_false, reduceCtorEq, Nat.le_refl, w.len, hlt, w.idx hi, w'.load hi, MapCmd.len, MapCmd.tak, toMapCmd_run hL, h0, and_self, Int.toNat_natCast, storeP_push hf (fillR_get MapCmd.enc MapCmd.zero xs hi) (MapCmd.len xs[i]), wrapS i (by omega)]
      rw [← fillR_set MapCmd.enc MapCmd.zero xs hi]
  rw [fillR_0] at key
  rw [fillR_n] at key
  rw [show ((0 : Nat) : Int) = 0 from rfl] at key
  simp only [MapCmd.zero] at key
  rw [key, loop_run]
  have hlt : ¬ (xs.length : Int) < xs.length := by omega
  simp only [r356L0, run0, run1, run2, run3, run4, noSlot, ownS, ownK, memN, RO.dst, lk, drop, forget, number, Nat.reduceBEq, cut?, splice?, builds, List.length_cons, List.length_nil, List.drop_succ_cons, List.drop_zero, List.take_succ_cons, List.take_zero, List.cons_append, List.nil_append, List.append_nil, List.drop_nil, List.take_nil, Nat.reduceAdd, Nat.reduceLeDiff, Nat.zero_add, Nat.add_zero, ↓reduceIte, Bool.not_true, Bool.not_false, decide_true, decide_false, eq_self, bne_self_eq_false, List.getElem?_cons_zero, List.getElem?_cons_succ, decide_eq_true_eq, Bool.false_eq_true, Bool.true_eq_false, reduceCtorEq, Nat.le_refl, w.len, hlt]
theorem toMapCmdS_c (hL : Has F tLMapCmd) (hf : h.floor ≤ h.next) (w : SlR 21 (Fl MapCmd.enc) h x xs fp) (hn : xs.length ≤ 1048576) : ∃ y h' fq, call F Z 356 [.c x] h = some (.c y, h') ∧ On h h' ∧ SlR 14 (Fl MapCmd.enc) h' y xs fq ∧ Fre h fq :=
  ⟨_, _, _, toMapCmdS_run hL hf w hn, On.push _ _, SlR.ofFlat w.le (push_get _ _) (by rw [push_next]; omega), Fre.one h⟩
theorem eqMapCmdS_run (hL : Has F tLMapCmd) (w : SlR 14 (Fl MapCmd.enc) h x xs fp) (v : SlR 14 (Fl MapCmd.enc) h y ys fq) : call F Z 357 [.c x, .c y] h = some (.c (.bool (decide (xs = ys))), h) := by
  have hw := w.le2
  have hv := v.le2
  rw [call_run F Z (hL.lk (g := 357) rfl) _ _ rfl]
  simp only [run0, run1, run2, run3, run4, noSlot, ownS, ownK, memN, RO.dst, lk, drop, forget, number, Nat.reduceBEq, cut?, splice?, builds, List.length_cons, List.length_nil, List.drop_succ_cons, List.drop_zero, List.take_succ_cons, List.take_zero, List.cons_append, List.nil_append, List.append_nil, List.drop_nil, List.take_nil, Nat.reduceAdd, Nat.reduceLeDiff, Nat.zero_add, Nat.add_zero, ↓reduceIte, Bool.not_true, Bool.not_false, decide_true, decide_false, eq_self, bne_self_eq_false, List.getElem?_cons_zero, List.getElem?_cons_succ, decide_eq_true_eq, Bool.false_eq_true, Bool.true_eq_false, reduceCtorEq, Nat.le_refl, w.len, v.len]
  rw [condC_if]
  split
  · rename_i hne
    have : xs ≠ ys := by rintro rfl; simp at hne
    simp only [run0, run1, run2, run3, run4, noSlot, ownS, ownK, memN, RO.dst, lk, drop, forget, number, Nat.reduceBEq, cut?, splice?, builds, List.length_cons, List.length_nil, List.drop_succ_cons, List.drop_zero, List.take_succ_cons, List.take_zero, List.cons_append, List.nil_append, List.append_nil, List.drop_nil, List.take_nil, Nat.reduceAdd, Nat.reduceLeDiff, Nat.zero_add, Nat.add_zero, ↓reduceIte, Bool.not_true, Bool.not_false, decide_true, decide_false, eq_self, bne_self_eq_false, List.getElem?_cons_zero, List.getElem?_cons_succ, decide_eq_true_eq, Bool.false_eq_true, Bool.true_eq_false, reduceCtorEq, Nat.le_refl, this]
  · rename_i he
    have he : xs.length = ys.length := by simp at he; omega
    simp only [run0, run1, run2, run3, run4, noSlot, ownS, ownK, memN, RO.dst, lk, drop, forget, number, Nat.reduceBEq, cut?, splice?, builds, List.length_cons, List.length_nil, List.drop_succ_cons, List.drop_zero, List.take_succ_cons, List.take_zero, List.cons_append, List.nil_append, List.append_nil, List.drop_nil, List.take_nil, Nat.reduceAdd, Nat.reduceLeDiff, Nat.zero_add, Nat.add_zero, ↓reduceIte, Bool.not_true, Bool.not_false, decide_true, decide_false, eq_self, bne_self_eq_false, List.getElem?_cons_zero, List.getElem?_cons_succ, decide_eq_true_eq, Bool.false_eq_true, Bool.true_eq_false, reduceCtorEq, Nat.le_refl]
    have key := loop_allN (F := F) (Z := Z) (live := [0, 1, 5]) (b := r357L0) xs.length (fun i => ⟨[(0, .c x), (1, .c y), (5, .c (.int .i64 (i : Nat)))], [], [], h⟩) (fun i => decide (xs[i]? = ys[i]?)) (fun s => lk s.env 4 = some (.c (.bool false)) ∧ s.hp = h) fun i hi => by
      have hi' : i < ys.length := by omega
      have hlt : (i : Int) < xs.length := by omega
      rw [loop_run]
      simp only [r357L0, run0, run1, run2, run3, run4, noSlot, ownS, ownK, memN, RO.dst, lk, drop, forget, number, Nat.reduceBEq, cut?, splice?, builds, List.length_cons, List.length_nil, List.drop_succ_cons, List.drop_zero, List.take_succ_cons, List.take_zero, List.cons_append, List.nil_append, List.append_nil, List.drop_nil, List.take_nil, Nat.reduceAdd, Nat.reduceLeDiff, Nat.zero_add, Nat.add_zero, ↓reduceIte, Bool.not_true, Bool.not_false, decide_true, decide_false, eq_self, bne_self_eq_false, List.getElem?_cons_zero, List.getElem?_cons_succ, decide_eq_true_eq, Bool.false_eq_true, Bool.true_eq_false, reduceCtorEq, Nat.le_refl, w.len, hlt, w.idx hi, v.idx hi', w.load hi, v.load hi', MapCmd.len, MapCmd.tak, eqMapCmd_run hL, wrapS i (by omega)]
      rw [List.getElem?_eq_getElem hi, List.getElem?_eq_getElem hi']
      (repeat' ((first | (rw [gF_if]; split) | (rw [condC_if]; split) | (rw [pickR_if]; split)) <;> (rename_i hh; (try simp only [Bool.not_eq_true, decide_eq_true_eq] at hh); simp only [hh, run0, run1, run2, run3, run4, noSlot, ownS, ownK, memN, RO.dst, lk, drop, forget, number, Nat.reduceBEq, cut?, splice?, builds, List.length_cons, List.length_nil, List.drop_succ_cons, List.drop_zero, List.take_succ_cons, List.take_zero, List.cons_append, List.nil_append, List.append_nil, List.drop_nil, List.take_nil, Nat.reduceAdd, Nat.reduceLeDiff, Nat.zero_add, Nat.add_zero, ↓reduceIte, Bool.not_true, Bool.not_false, decide_true, decide_false, eq_self, bne_self_eq_false, List.getElem?_cons_zero, List.getElem?_cons_succ, decide_eq_true_eq, Bool.false_eq_true, Bool.true_eq_false, reduceCtorEq, Nat.le_refl, wrapS i (by omega)])))
      · exact .inr ⟨by simp_all, _, rfl, rfl, rfl⟩
      · exact .inl ⟨by simp_all, rfl⟩
    rw [all_same he] at key
    rcases key with ⟨k1, k2⟩ | ⟨k1, s, k2, k3, k4⟩
    · simp only [show ((0 : Nat) : Int) = 0 from rfl] at k2
      rw [k2, loop_run]
      have hlt : ¬ (xs.length : Int) < xs.length := by omega
      simp only [r357L0, run0, run1, run2, run3, run4, noSlot, ownS, ownK, memN, RO.dst, lk, drop, forget, number, Nat.reduceBEq, cut?, splice?, builds, List.length_cons, List.length_nil, List.drop_succ_cons, List.drop_zero, List.take_succ_cons, List.take_zero, List.cons_append, List.nil_append, List.append_nil, List.drop_nil, List.take_nil, Nat.reduceAdd, Nat.reduceLeDiff, Nat.zero_add, Nat.add_zero, ↓reduceIte, Bool.not_true, Bool.not_false, decide_true, decide_false, eq_self, bne_self_eq_false, List.getElem?_cons_zero, List.getElem?_cons_succ, decide_eq_true_eq, Bool.false_eq_true, Bool.true_eq_false, reduceCtorEq, Nat.le_refl, w.len, hlt, k1]
    · simp only [show ((0 : Nat) : Int) = 0 from rfl] at k2
      rw [k2]
      simp only [run0, run1, run2, run3, run4, noSlot, ownS, ownK, memN, RO.dst, lk, drop, forget, number, Nat.reduceBEq, cut?, splice?, builds, List.length_cons, List.length_nil, List.drop_succ_cons, List.drop_zero, List.take_succ_cons, List.take_zero, List.cons_append, List.nil_append, List.append_nil, List.drop_nil, List.take_nil, Nat.reduceAdd, Nat.reduceLeDiff, Nat.zero_add, Nat.add_zero, ↓reduceIte, Bool.not_true, Bool.not_false, decide_true, decide_false, eq_self, bne_self_eq_false, List.getElem?_cons_zero, List.getElem?_cons_succ, decide_eq_true_eq, Bool.false_eq_true, Bool.true_eq_false, reduceCtorEq, Nat.le_refl, k3, k4, k1]
/-- What is written to mark one. -/
def MapCmd.mk_ (k : Int) : MapCmd := ⟨k, k + 1, k + 1 + 1⟩
def MapCmd.marks (n : Nat) (k : Int) : List MapCmd := (List.range n).map fun i : Nat => MapCmd.mk_ (k + 3 * (i : Int))
theorem MapCmd.marks_len (n : Nat) (k : Int) : (MapCmd.marks n k).length = n := by simp [MapCmd.marks]
set_option maxHeartbeats 1000000 in
theorem markMapCmdS_run (hL : Has F tLMapCmd) (w : SlR 14 (Fl MapCmd.enc) h x xs fp) (hlo : ∀ id, id ∈ fp → h.floor ≤ id) (k : Int) (h1 : 0 ≤ k) (h2 : k + 3 * xs.length ≤ 9200000000000000000) :
    ∃ h', call F Z 358 [.c x, .c (.int .i64 k)] h = some (.c (.int .i64 (k + 3 * xs.length)), h') ∧ Mk h h' fp ∧ SlR 14 (Fl MapCmd.enc) h' x (MapCmd.marks xs.length k) fp := by
  have hle := w.le2
  have hlm := MapCmd.marks_len xs.length k
  rw [call_run F Z (hL.lk (g := 358) rfl) _ _ rfl]
  simp only [run0, run1, run2, run3, run4, noSlot, ownS, ownK, memN, RO.dst, lk, drop, forget, number, Nat.reduceBEq, cut?, splice?, builds, List.length_cons, List.length_nil, List.drop_succ_cons, List.drop_zero, List.take_succ_cons, List.take_zero, List.cons_append, List.nil_append, List.append_nil, List.drop_nil, List.take_nil, Nat.reduceAdd, Nat.reduceLeDiff, Nat.zero_add, Nat.add_zero, ↓reduceIte, Bool.not_true, Bool.not_false, decide_true, decide_false, eq_self, bne_self_eq_false, List.getElem?_cons_zero, List.getElem?_cons_succ, decide_eq_true_eq, Bool.false_eq_true, Bool.true_eq_false, reduceCtorEq, Nat.le_refl]
  rcases w.flat with ⟨rfl, rfl, rfl⟩ | ⟨hx, hg, hn, rfl⟩
  · rw [loop_run]
    simp only [r358L0, run0, run1, run2, run3, run4, noSlot, ownS, ownK, memN, RO.dst, lk, drop, forget, number, Nat.reduceBEq, cut?, splice?, builds, List.length_cons, List.length_nil, List.drop_succ_cons, List.drop_zero, List.take_succ_cons, List.take_zero, List.cons_append, List.nil_append, List.append_nil, List.drop_nil, List.take_nil, Nat.reduceAdd, Nat.reduceLeDiff, Nat.zero_add, Nat.add_zero, ↓reduceIte, Bool.not_true, Bool.not_false, decide_true, decide_false, eq_self, bne_self_eq_false, List.getElem?_cons_zero, List.getElem?_cons_succ, decide_eq_true_eq, Bool.false_eq_true, Bool.true_eq_false, reduceCtorEq, Nat.le_refl, show ¬ ((0 : Int) < 0) from by omega]
    exact ⟨h, by simp, Mk.refl _ _, by simpa [MapCmd.marks] using w⟩
  · have hfl : h.floor ≤ x.sid := hlo _ (by simp)
    have key : loop F Z [0, 1, 5] r358L0 ⟨[(0, .c x), (1, .c (.int .i64 (k + 3 * (0 : Nat)))), (5, .c (.int .i64 (0 : Nat)))], [], [], h.put x.sid (mixR MapCmd.enc (MapCmd.marks xs.length k) xs 0)⟩ = loop F Z [0, 1, 5] r358L0 ⟨[(0, .c x), (1, .c (.int .i64 (k + 3 * (xs.length : Nat)))), (5, .c (.int .i64 (xs.length : Nat)))], [], [], h.put x.sid (mixR MapCmd.enc (MapCmd.marks xs.length k) xs xs.length)⟩ :=
      loop_goesF xs.length (fun i => ⟨[(0, .c x), (1, .c (.int .i64 (k + 3 * (i : Nat)))), (5, .c (.int .i64 (i : Nat)))], [], [], h.put x.sid (mixR MapCmd.enc (MapCmd.marks xs.length k) xs i)⟩) fun i hi => by
        have hlt : (i : Int) < xs.length := by omega
        have hi2 : i < (mixR MapCmd.enc (MapCmd.marks xs.length k) xs i).length := by rw [mixR_len _ hlm]; exact hi
        have hms : (MapCmd.marks xs.length k)[i]'(by omega) = MapCmd.mk_ (k + 3 * i) := by simp [MapCmd.marks]
        have hset := mixR_set MapCmd.enc hlm hi
        rw [hms] at hset
        have hput := storeP_put (h := h) hfl hi2
        rw [← mixR_cur MapCmd.enc hlm hi, ← hset, loop_run]
        simp (disch := omega) only [r358L0, run0, run1, run2, run3, run4, noSlot, ownS, ownK, memN, RO.dst, lk, drop, forget, number, Nat.reduceBEq, cut?, splice?, builds, List.length_cons, List.length_nil, List.drop_succ_cons, List.drop_zero, List.take_succ_cons, List.take_zero, List.cons_append, List.nil_append, List.append_nil, List.drop_nil, List.take_nil, Nat.reduceAdd, Nat.reduceLeDiff, Nat.zero_add, Nat.add_zero, ↓reduceIte, Bool.not_true, Bool.not_false, decide_true, decide_false, eq_self, bne_self_eq_false, List.getElem?_cons_zero, List.getElem?_cons_succ, decide_eq_true_eq, Bool.false_eq_true, Bool.true_eq_false, reduceCtorEq, Nat.le_refl, w.len, hlt, w.idx hi, hput, putM_s, wrapI1, wrapU1, MapCmd.enc, Int.reduceEq, MapCmd.mk_]
        rw [show k + 3 * ((i : Nat) : Int) + 1 + 1 + 1 = k + 3 * ((i + 1 : Nat) : Int) from by omega, show ((i : Nat) : Int) + 1 = ((i + 1 : Nat) : Int) from rfl]
    rw [mixR_0, put_same hg, mixR_n _ hlm] at key
    simp only [show ((0 : Nat) : Int) = 0 from rfl, Int.mul_zero, Int.add_zero] at key
    rw [key, loop_run]
    have hlt : ¬ (xs.length : Int) < xs.length := by omega
    simp only [r358L0, run0, run1, run2, run3, run4, noSlot, ownS, ownK, memN, RO.dst, lk, drop, forget, number, Nat.reduceBEq, cut?, splice?, builds, List.length_cons, List.length_nil, List.drop_succ_cons, List.drop_zero, List.take_succ_cons, List.take_zero, List.cons_append, List.nil_append, List.append_nil, List.drop_nil, List.take_nil, Nat.reduceAdd, Nat.reduceLeDiff, Nat.zero_add, Nat.add_zero, ↓reduceIte, Bool.not_true, Bool.not_false, decide_true, decide_false, eq_self, bne_self_eq_false, List.getElem?_cons_zero, List.getElem?_cons_succ, decide_eq_true_eq, Bool.false_eq_true, Bool.true_eq_false, reduceCtorEq, Nat.le_refl, w.len, hlt]
    refine ⟨_, rfl, Mk.put _ _ _, ?_⟩
    have := SlR.ofFlat (tag := 14) (h := h.put x.sid ((MapCmd.marks xs.length k).map MapCmd.enc)) (enc := MapCmd.enc) (xs := MapCmd.marks xs.length k) (id := x.sid) (by rw [hlm]; exact w.le) (by simp [Heap.put]) hn
    rw [hlm, ← hx] at this
    exact this
end
end Go.Proofs.Ytlbagejkjkfkjaa.A
