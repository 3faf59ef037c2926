/- The functions that the statement reaches, part 3: bodies and what they compute. No condition. -/
import Derived.Test.YtcdlbjomdokmiaaHCExactPlayMap2
/- A command is done with a chart, the reference's way. -/
namespace Go.Proofs.Ytcdlbjomdokmiaa.A
open Go
set_option linter.unusedSimpArgs false
set_option linter.unusedVariables false
section
variable {F : Nat → Option RF} {Z : CallF} {h : Heap} {cs : List Cell} {c : Chart} {fp : List Nat}
set_option maxHeartbeats 4000000 in
theorem sDoMap_c (hS : Has F tS01d) (hS11 : Has F tS11) (hS12 : Has F tS12) (hf : h.floor ≤ h.next) (v : Chart.RI h cs c fp) (q : MapCmd) (okq : q.Ok) (ok : c.Ok) (sm : c.Small) :
    ∃ cs' h' fq, call F Z 180 [.agg cs, .agg q.enc] h = some (.tup [.agg cs', .c (.int .i64 (doMap c q).2)], h') ∧ On h h' ∧ Chart.RI h' cs' (doMap c q).1 fq ∧ Fre h fq := by
  obtain ⟨_, h1, f1, e1, o1, ⟨y, _, rfl, rfl, u⟩, r1⟩ := l12Copy_c (Z := Z) hS12 hf v sm
  have e2 := sChartOk_run (Z := Z) hS hS11 hS12 (Chart.okI.on v o1) ok
  have e3 := fun h => l01In_run (Z := Z) hS q.kind 0 4 h
  have e4 := fun h => l01In_run (Z := Z) hS q.group 0 99 h
  obtain ⟨x, p, rfl, hp, w⟩ := v
  subst hp
  have w1 := w.on (Fl.ok _) o1
  have hf1 := o1.le hf
  have nx : ∀ {fq : List Nat}, Fre h1 fq → Fre h fq := fun f => ⟨fun id hid => Nat.le_trans o1.ext.1 (f.lo id hid), f.nd⟩
  rw [call_run F Z (hS12.lk (g := 180) rfl) _ _ rfl]
  cases hgd : c.good with
  | false =>
    rw [hgd] at e2
    have hd : doMap c q = (c, 1) := by simp [doMap, hgd]
    rw [hd]
    simp only [run0, run1, run2, run3, run4, noSlot, ownS, ownK, memN, RO.dst, lk, drop, forget, number, Nat.reduceBEq, cut?, splice?, builds, List.length_cons, List.length_nil, List.drop_succ_cons, List.drop_zero, List.take_succ_cons, List.take_zero, List.cons_append, List.nil_append, List.append_nil, List.drop_nil, List.take_nil, Nat.reduceAdd, Nat.reduceLeDiff, Nat.zero_add, Nat.add_zero, ↓reduceIte, Bool.not_true, Bool.not_false, decide_true, decide_false, eq_self, bne_self_eq_false, List.getElem?_cons_zero, List.getElem?_cons_succ, decide_eq_true_eq, Bool.false_eq_true, Bool.true_eq_false, reduceCtorEq, Nat.le_refl, MapCmd.enc, e1, e2]
    exact ⟨_, _, _, rfl, o1, ⟨y, _, rfl, rfl, u⟩, r1⟩
  | true =>
    rw [hgd] at e2
    cases hk : inR q.kind 0 4 with
    | false =>
      rw [hk] at e3
      have hd : doMap c q = (c, 1) := by simp [doMap, hk]
      rw [hd]
      simp only [run0, run1, run2, run3, run4, noSlot, ownS, ownK, memN, RO.dst, lk, drop, forget, number, Nat.reduceBEq, cut?, splice?, builds, List.length_cons, List.length_nil, List.drop_succ_cons, List.drop_zero, List.take_succ_cons, List.take_zero, List.cons_append, List.nil_append, List.append_nil, List.drop_nil, List.take_nil, Nat.reduceAdd, Nat.reduceLeDiff, Nat.zero_add, Nat.add_zero, ↓reduceIte, Bool.not_true, Bool.not_false, decide_true, decide_false, eq_self, bne_self_eq_false, List.getElem?_cons_zero, List.getElem?_cons_succ, decide_eq_true_eq, Bool.false_eq_true, Bool.true_eq_false, reduceCtorEq, Nat.le_refl, MapCmd.enc, e1, e2, e3]
      exact ⟨_, _, _, rfl, o1, ⟨y, _, rfl, rfl, u⟩, r1⟩
    | true =>
      rw [hk] at e3
      cases hep : (c.epoch == 1000000) with
      | true =>
        have hd : doMap c q = (c, 1) := by simp [doMap, hep]
        rw [hd]
        simp only [run0, run1, run2, run3, run4, noSlot, ownS, ownK, memN, RO.dst, lk, drop, forget, number, Nat.reduceBEq, cut?, splice?, builds, List.length_cons, List.length_nil, List.drop_succ_cons, List.drop_zero, List.take_succ_cons, List.take_zero, List.cons_append, List.nil_append, List.append_nil, List.drop_nil, List.take_nil, Nat.reduceAdd, Nat.reduceLeDiff, Nat.zero_add, Nat.add_zero, ↓reduceIte, Bool.not_true, Bool.not_false, decide_true, decide_false, eq_self, bne_self_eq_false, List.getElem?_cons_zero, List.getElem?_cons_succ, decide_eq_true_eq, Bool.false_eq_true, Bool.true_eq_false, reduceCtorEq, Nat.le_refl, MapCmd.enc, e1, e2, e3, hep]
        exact ⟨_, _, _, rfl, o1, ⟨y, _, rfl, rfl, u⟩, r1⟩
      | false =>
        have hd : doMap c q = c.act q := by simp [doMap, hgd, hk, hep]
        rw [hd]
        have hr := Chart.good_ranges hgd
        obtain ⟨k, hkl, q1, q2, q3, q4, q5⟩ := Chart.has (c := c) hr okq.at_.1 okq.at_.2
        have e5 := sFindRange_run (Z := Z) hS hS11 w1 ok.ranges q.at_
        rw [hr, cond_true, q2] at e5
        have hpl : c.pl q.at_ = k := by simp [Chart.pl, q1]
        have hxi := w.idx hkl
        have hld := w1.load hkl
        rw [← at_get hkl] at hld
        simp only [Range.enc] at hld
        have hepr : IntKind.i64.wrap (c.epoch + 1) = c.epoch + 1 := by
          simp only [Chart.good, inR, Bool.and_eq_true, decide_eq_true_eq] at hgd
          exact wrapI _ (by omega) (by omega)
        -- the place of the range that moves
        have hz : (Range.at_ c.ranges k).lo = q.at_ → ((q.at_ == 0) = ((k : Int) == 0)) := fun he => by
          have hfit := rangesOk_fit hr
          rw [Bool.eq_iff_iff]
          simp only [beq_iff_eq]
          constructor
          · intro h0
            rcases Nat.eq_zero_or_pos k with hk0 | hk0
            · omega
            · have := hfit.apart hk0 hkl
              have := hfit.le 0 (by omega)
              have := hfit.lo0
              omega
          · intro h0
            have hk0 : k = 0 := by omega
            subst hk0
            rw [← he]; exact hfit.lo0
        have copy : ∀ {g : Heap}, On h g → ∃ z g' fz, call F Z 115 [.agg [.int .i64 c.epoch, x, .bool c.moving, .int .u64 c.lo, .int .i64 c.to]] g = some (.agg [.int .i64 c.epoch, z, .bool c.moving, .int .u64 c.lo, .int .i64 c.to], g') ∧ On h g' ∧ SlR 7 (Fl Range.enc) g' z c.ranges fz ∧ Fre h fz := fun {g} o => by
          obtain ⟨_, h2, f2, e, o2, ⟨z, _, rfl, rfl, u2⟩, r2⟩ := l12Copy_c (Z := Z) hS12 (o.le hf) (Chart.okI.on (⟨x, _, rfl, rfl, w⟩ : Chart.RI h _ c _) o) sm
          exact ⟨z, h2, f2, e, o.trans o2, u2, ⟨fun id hid => Nat.le_trans o.ext.1 (r2.lo id hid), r2.nd⟩⟩
        by_cases hm : c.moving = true
        case neg =>
          replace hm : c.moving = false := by simpa using hm
          rw [hm] at e1 e2
          have hmk : ((-1 : Int) == (k : Int)) = c.mv k := by simp [Chart.mv, hm]
          have hmk1 : 1 ≤ k → ((-1 : Int) == (k : Int) - 1) = c.mv (k - 1) := fun h1 => by simp [Chart.mv, hm]; omega
          by_cases k0 : q.kind = 0
          · have k0' : (q.kind == 0) = true := by simpa using k0
            cases hv : c.mv k with
            | true =>
              rw [hv] at hmk
              have ha : c.act q = (c, 2) := by simp [Chart.act, k0, hpl, hv]
              rw [ha]
              simp only [run0, run1, run2, run3, run4, noSlot, ownS, ownK, memN, RO.dst, lk, drop, forget, number, Nat.reduceBEq, cut?, splice?, builds, List.length_cons, List.length_nil, List.drop_succ_cons, List.drop_zero, List.take_succ_cons, List.take_zero, List.cons_append, List.nil_append, List.append_nil, List.drop_nil, List.take_nil, Nat.reduceAdd, Nat.reduceLeDiff, Nat.zero_add, Nat.add_zero, ↓reduceIte, Bool.not_true, Bool.not_false, decide_true, decide_false, eq_self, bne_self_eq_false, List.getElem?_cons_zero, List.getElem?_cons_succ, decide_eq_true_eq, Bool.false_eq_true, Bool.true_eq_false, reduceCtorEq, Nat.le_refl, MapCmd.enc, e1, e2, e3, hep, e5, hm, k0', hmk]
              exact ⟨_, _, _, rfl, o1, ⟨y, _, (by first | rfl | rw [hm] | simp [hm]), rfl, u⟩, r1⟩
            | false =>
              rw [hv] at hmk
              have ha : c.act q = c.fin (splitRg c.ranges q.at_ (Range.at_ c.ranges k).group) := by simp [Chart.act, k0, hpl, hv]
              rw [ha]
              obtain ⟨z, h2, g2, f2, e6, hg2, o2, w2, r2⟩ := sSplitRange_q (Z := Z) hS hS11 w1 q.at_ (Range.at_ c.ranges k).group okq.at_ ok.ranges sm
              cases hb : (splitRg c.ranges q.at_ (Range.at_ c.ranges k).group).2 with
              | false =>
                rw [hb] at e6
                obtain ⟨z', h3, f3, e7, o3, w3, r3⟩ := copy (o1.trans o2)
                simp only [Chart.fin, hb, cond_false]
                rw [hm] at e7
                simp only [run0, run1, run2, run3, run4, noSlot, ownS, ownK, memN, RO.dst, lk, drop, forget, number, Nat.reduceBEq, cut?, splice?, builds, List.length_cons, List.length_nil, List.drop_succ_cons, List.drop_zero, List.take_succ_cons, List.take_zero, List.cons_append, List.nil_append, List.append_nil, List.drop_nil, List.take_nil, Nat.reduceAdd, Nat.reduceLeDiff, Nat.zero_add, Nat.add_zero, ↓reduceIte, Bool.not_true, Bool.not_false, decide_true, decide_false, eq_self, bne_self_eq_false, List.getElem?_cons_zero, List.getElem?_cons_succ, decide_eq_true_eq, Bool.false_eq_true, Bool.true_eq_false, reduceCtorEq, Nat.le_refl, MapCmd.enc, e1, e2, e3, hep, e5, hm, k0', hmk, hxi, hld, e6, hg2, e7]
                exact ⟨_, _, _, rfl, o3, ⟨z', _, (by first | rfl | rw [hm] | simp [hm]), rfl, w3⟩, r3⟩
              | true =>
                rw [hb] at e6
                simp only [Chart.fin, hb, cond_true]
                simp only [run0, run1, run2, run3, run4, noSlot, ownS, ownK, memN, RO.dst, lk, drop, forget, number, Nat.reduceBEq, cut?, splice?, builds, List.length_cons, List.length_nil, List.drop_succ_cons, List.drop_zero, List.take_succ_cons, List.take_zero, List.cons_append, List.nil_append, List.append_nil, List.drop_nil, List.take_nil, Nat.reduceAdd, Nat.reduceLeDiff, Nat.zero_add, Nat.add_zero, ↓reduceIte, Bool.not_true, Bool.not_false, decide_true, decide_false, eq_self, bne_self_eq_false, List.getElem?_cons_zero, List.getElem?_cons_succ, decide_eq_true_eq, Bool.false_eq_true, Bool.true_eq_false, reduceCtorEq, Nat.le_refl, MapCmd.enc, e1, e2, e3, hep, e5, hm, k0', hmk, hxi, hld, e6, hg2, hepr]
                exact ⟨_, _, _, rfl, o1.trans o2, ⟨z, _, (by first | rfl | rw [hm] | simp [hm]), rfl, w2⟩, nx r2⟩
          have k0' : (q.kind == 0) = false := by simpa using k0
          by_cases k1 : q.kind = 1
          · have k1' : (q.kind == 1) = true := by simpa using k1
            by_cases hla : (Range.at_ c.ranges k).lo = q.at_
            case neg =>
              have hln : ((Range.at_ c.ranges k).lo != q.at_) = true := by simpa using hla
              have ha : c.act q = (c, 4) := by simp [Chart.act, k1, hpl, hln]
              rw [ha]
              simp only [run0, run1, run2, run3, run4, noSlot, ownS, ownK, memN, RO.dst, lk, drop, forget, number, Nat.reduceBEq, cut?, splice?, builds, List.length_cons, List.length_nil, List.drop_succ_cons, List.drop_zero, List.take_succ_cons, List.take_zero, List.cons_append, List.nil_append, List.append_nil, List.drop_nil, List.take_nil, Nat.reduceAdd, Nat.reduceLeDiff, Nat.zero_add, Nat.add_zero, ↓reduceIte, Bool.not_true, Bool.not_false, decide_true, decide_false, eq_self, bne_self_eq_false, List.getElem?_cons_zero, List.getElem?_cons_succ, decide_eq_true_eq, Bool.false_eq_true, Bool.true_eq_false, reduceCtorEq, Nat.le_refl, MapCmd.enc, e1, e2, e3, hep, e5, hm, k0', k1', hxi, hld, hln]
              exact ⟨_, _, _, rfl, o1, ⟨y, _, (by first | rfl | rw [hm] | simp [hm]), rfl, u⟩, r1⟩
            have hln : ((Range.at_ c.ranges k).lo != q.at_) = false := by simpa using hla
            have hz' := hz hla
            cases hkz : ((k : Int) == 0) with
            | true =>
              rw [hkz] at hz'
              have ha : c.act q = (c, 4) := by simp [Chart.act, k1, hpl, hln, hz']
              rw [ha]
              simp only [run0, run1, run2, run3, run4, noSlot, ownS, ownK, memN, RO.dst, lk, drop, forget, number, Nat.reduceBEq, cut?, splice?, builds, List.length_cons, List.length_nil, List.drop_succ_cons, List.drop_zero, List.take_succ_cons, List.take_zero, List.cons_append, List.nil_append, List.append_nil, List.drop_nil, List.take_nil, Nat.reduceAdd, Nat.reduceLeDiff, Nat.zero_add, Nat.add_zero, ↓reduceIte, Bool.not_true, Bool.not_false, decide_true, decide_false, eq_self, bne_self_eq_false, List.getElem?_cons_zero, List.getElem?_cons_succ, decide_eq_true_eq, Bool.false_eq_true, Bool.true_eq_false, reduceCtorEq, Nat.le_refl, MapCmd.enc, e1, e2, e3, hep, e5, hm, k0', k1', hxi, hld, hln, hkz]
              exact ⟨_, _, _, rfl, o1, ⟨y, _, (by first | rfl | rw [hm] | simp [hm]), rfl, u⟩, r1⟩
            | false =>
              rw [hkz] at hz'
              have hk1 : 1 ≤ k := by simp at hkz; omega
              have hmk1' := hmk1 hk1
              have hwk : IntKind.i64.wrap ((k : Int) - 1) = (k : Int) - 1 := wrapI _ (by omega) (by have := w.le2; omega)
              cases hv : c.mv k with
              | true =>
                rw [hv] at hmk
                have ha : c.act q = (c, 2) := by simp [Chart.act, k1, hpl, hln, hz', hv]
                rw [ha]
                simp only [run0, run1, run2, run3, run4, noSlot, ownS, ownK, memN, RO.dst, lk, drop, forget, number, Nat.reduceBEq, cut?, splice?, builds, List.length_cons, List.length_nil, List.drop_succ_cons, List.drop_zero, List.take_succ_cons, List.take_zero, List.cons_append, List.nil_append, List.append_nil, List.drop_nil, List.take_nil, Nat.reduceAdd, Nat.reduceLeDiff, Nat.zero_add, Nat.add_zero, ↓reduceIte, Bool.not_true, Bool.not_false, decide_true, decide_false, eq_self, bne_self_eq_false, List.getElem?_cons_zero, List.getElem?_cons_succ, decide_eq_true_eq, Bool.false_eq_true, Bool.true_eq_false, reduceCtorEq, Nat.le_refl, MapCmd.enc, e1, e2, e3, hep, e5, hm, k0', k1', hxi, hld, hln, hkz, hmk]
                exact ⟨_, _, _, rfl, o1, ⟨y, _, (by first | rfl | rw [hm] | simp [hm]), rfl, u⟩, r1⟩
              | false =>
                rw [hv] at hmk
                cases hv1 : c.mv (k - 1) with
                | true =>
                  rw [hv1] at hmk1'
                  have ha : c.act q = (c, 2) := by simp [Chart.act, k1, hpl, hln, hz', hv, hv1]
                  rw [ha]
                  simp only [run0, run1, run2, run3, run4, noSlot, ownS, ownK, memN, RO.dst, lk, drop, forget, number, Nat.reduceBEq, cut?, splice?, builds, List.length_cons, List.length_nil, List.drop_succ_cons, List.drop_zero, List.take_succ_cons, List.take_zero, List.cons_append, List.nil_append, List.append_nil, List.drop_nil, List.take_nil, Nat.reduceAdd, Nat.reduceLeDiff, Nat.zero_add, Nat.add_zero, ↓reduceIte, Bool.not_true, Bool.not_false, decide_true, decide_false, eq_self, bne_self_eq_false, List.getElem?_cons_zero, List.getElem?_cons_succ, decide_eq_true_eq, Bool.false_eq_true, Bool.true_eq_false, reduceCtorEq, Nat.le_refl, MapCmd.enc, e1, e2, e3, hep, e5, hm, k0', k1', hxi, hld, hln, hkz, hmk, hwk, hmk1']
                  exact ⟨_, _, _, rfl, o1, ⟨y, _, (by first | rfl | rw [hm] | simp [hm]), rfl, u⟩, r1⟩
                | false =>
                  rw [hv1] at hmk1'
                  have ha : c.act q = c.fin (mergeRg c.ranges ((k : Int) - 1)) := by simp [Chart.act, k1, hpl, hln, hz', hv, hv1]
                  rw [ha]
                  obtain ⟨z, g2, f2, e6, o2, w2, r2⟩ := sMergeRange_c (Z := Z) hS hS11 hf1 w1 ((k : Int) - 1) ok.ranges sm
                  cases hb : (mergeRg c.ranges ((k : Int) - 1)).2 with
                  | false =>
                    rw [hb] at e6
                    obtain ⟨z', h3, f3, e7, o3, w3, r3⟩ := copy (o1.trans o2)
                    simp only [Chart.fin, hb, cond_false]
                    rw [hm] at e7
                    simp only [run0, run1, run2, run3, run4, noSlot, ownS, ownK, memN, RO.dst, lk, drop, forget, number, Nat.reduceBEq, cut?, splice?, builds, List.length_cons, List.length_nil, List.drop_succ_cons, List.drop_zero, List.take_succ_cons, List.take_zero, List.cons_append, List.nil_append, List.append_nil, List.drop_nil, List.take_nil, Nat.reduceAdd, Nat.reduceLeDiff, Nat.zero_add, Nat.add_zero, ↓reduceIte, Bool.not_true, Bool.not_false, decide_true, decide_false, eq_self, bne_self_eq_false, List.getElem?_cons_zero, List.getElem?_cons_succ, decide_eq_true_eq, Bool.false_eq_true, Bool.true_eq_false, reduceCtorEq, Nat.le_refl, MapCmd.enc, e1, e2, e3, hep, e5, hm, k0', k1', hxi, hld, hln, hkz, hmk, hwk, hmk1', e6, e7]
                    exact ⟨_, _, _, rfl, o3, ⟨z', _, (by first | rfl | rw [hm] | simp [hm]), rfl, w3⟩, r3⟩
                  | true =>
                    rw [hb] at e6
                    simp only [Chart.fin, hb, cond_true]
                    simp only [run0, run1, run2, run3, run4, noSlot, ownS, ownK, memN, RO.dst, lk, drop, forget, number, Nat.reduceBEq, cut?, splice?, builds, List.length_cons, List.length_nil, List.drop_succ_cons, List.drop_zero, List.take_succ_cons, List.take_zero, List.cons_append, List.nil_append, List.append_nil, List.drop_nil, List.take_nil, Nat.reduceAdd, Nat.reduceLeDiff, Nat.zero_add, Nat.add_zero, ↓reduceIte, Bool.not_true, Bool.not_false, decide_true, decide_false, eq_self, bne_self_eq_false, List.getElem?_cons_zero, List.getElem?_cons_succ, decide_eq_true_eq, Bool.false_eq_true, Bool.true_eq_false, reduceCtorEq, Nat.le_refl, MapCmd.enc, e1, e2, e3, hep, e5, hm, k0', k1', hxi, hld, hln, hkz, hmk, hwk, hmk1', e6, hepr]
                    exact ⟨_, _, _, rfl, o1.trans o2, ⟨z, _, (by first | rfl | rw [hm] | simp [hm]), rfl, w2⟩, nx r2⟩
          have k1' : (q.kind == 1) = false := by simpa using k1
          by_cases k2 : q.kind = 2
          · have k2' : (q.kind == 2) = true := by simpa using k2
            cases hg : inR q.group 0 99 with
            | false =>
              rw [hg] at e4
              have ha : c.act q = (c, 4) := by simp [Chart.act, k2, hm, hg]
              rw [ha]
              simp only [run0, run1, run2, run3, run4, noSlot, ownS, ownK, memN, RO.dst, lk, drop, forget, number, Nat.reduceBEq, cut?, splice?, builds, List.length_cons, List.length_nil, List.drop_succ_cons, List.drop_zero, List.take_succ_cons, List.take_zero, List.cons_append, List.nil_append, List.append_nil, List.drop_nil, List.take_nil, Nat.reduceAdd, Nat.reduceLeDiff, Nat.zero_add, Nat.add_zero, ↓reduceIte, Bool.not_true, Bool.not_false, decide_true, decide_false, eq_self, bne_self_eq_false, List.getElem?_cons_zero, List.getElem?_cons_succ, decide_eq_true_eq, Bool.false_eq_true, Bool.true_eq_false, reduceCtorEq, Nat.le_refl, MapCmd.enc, e1, e2, e3, hep, e5, hm, k0', k1', k2', e4]
              exact ⟨_, _, _, rfl, o1, ⟨y, _, (by first | rfl | rw [hm] | simp [hm]), rfl, u⟩, r1⟩
            | true =>
              rw [hg] at e4
              by_cases hgr : q.group = (Range.at_ c.ranges k).group
              · have hg1 : (q.group == (Range.at_ c.ranges k).group) = true := by simpa using hgr
                have ha : c.act q = (c, 4) := by simp [Chart.act, k2, hm, hpl, hgr]
                rw [ha]
                simp only [run0, run1, run2, run3, run4, noSlot, ownS, ownK, memN, RO.dst, lk, drop, forget, number, Nat.reduceBEq, cut?, splice?, builds, List.length_cons, List.length_nil, List.drop_succ_cons, List.drop_zero, List.take_succ_cons, List.take_zero, List.cons_append, List.nil_append, List.append_nil, List.drop_nil, List.take_nil, Nat.reduceAdd, Nat.reduceLeDiff, Nat.zero_add, Nat.add_zero, ↓reduceIte, Bool.not_true, Bool.not_false, decide_true, decide_false, eq_self, bne_self_eq_false, List.getElem?_cons_zero, List.getElem?_cons_succ, decide_eq_true_eq, Bool.false_eq_true, Bool.true_eq_false, reduceCtorEq, Nat.le_refl, MapCmd.enc, e1, e2, e3, hep, e5, hm, k0', k1', k2', e4, hxi, hld, hg1]
                exact ⟨_, _, _, rfl, o1, ⟨y, _, (by first | rfl | rw [hm] | simp [hm]), rfl, u⟩, r1⟩
              · have hg1 : (q.group == (Range.at_ c.ranges k).group) = false := by simpa using hgr
                have hg2 : (q.group != (Range.at_ c.ranges k).group) = true := by simpa using hgr
                have ha : c.act q = (⟨c.epoch + 1, c.ranges, true, (Range.at_ c.ranges k).lo, q.group⟩, 0) := by simp [Chart.act, k2, hm, hpl, hg, hg2]
                rw [ha]
                simp only [run0, run1, run2, run3, run4, noSlot, ownS, ownK, memN, RO.dst, lk, drop, forget, number, Nat.reduceBEq, cut?, splice?, builds, List.length_cons, List.length_nil, List.drop_succ_cons, List.drop_zero, List.take_succ_cons, List.take_zero, List.cons_append, List.nil_append, List.append_nil, List.drop_nil, List.take_nil, Nat.reduceAdd, Nat.reduceLeDiff, Nat.zero_add, Nat.add_zero, ↓reduceIte, Bool.not_true, Bool.not_false, decide_true, decide_false, eq_self, bne_self_eq_false, List.getElem?_cons_zero, List.getElem?_cons_succ, decide_eq_true_eq, Bool.false_eq_true, Bool.true_eq_false, reduceCtorEq, Nat.le_refl, MapCmd.enc, e1, e2, e3, hep, e5, hm, k0', k1', k2', e4, hxi, hld, hg1, hepr]
                exact ⟨_, _, _, rfl, o1, ⟨y, _, rfl, rfl, u⟩, r1⟩
          have k2' : (q.kind == 2) = false := by simpa using k2
          have ha : c.act q = (c, 3) := by simp [Chart.act, k0', k1', k2', hm]
          rw [ha]
          simp only [run0, run1, run2, run3, run4, noSlot, ownS, ownK, memN, RO.dst, lk, drop, forget, number, Nat.reduceBEq, cut?, splice?, builds, List.length_cons, List.length_nil, List.drop_succ_cons, List.drop_zero, List.take_succ_cons, List.take_zero, List.cons_append, List.nil_append, List.append_nil, List.drop_nil, List.take_nil, Nat.reduceAdd, Nat.reduceLeDiff, Nat.zero_add, Nat.add_zero, ↓reduceIte, Bool.not_true, Bool.not_false, decide_true, decide_false, eq_self, bne_self_eq_false, List.getElem?_cons_zero, List.getElem?_cons_succ, decide_eq_true_eq, Bool.false_eq_true, Bool.true_eq_false, reduceCtorEq, Nat.le_refl, MapCmd.enc, e1, e2, e3, hep, e5, hm, k0', k1', k2']
          exact ⟨_, _, _, rfl, o1, ⟨y, _, (by first | rfl | rw [hm] | simp [hm]), rfl, u⟩, r1⟩
        case pos =>
          rw [hm] at e1 e2
          have hpc := place_run (Z := Z) hS12 w1 c.lo
          obtain ⟨j, hj, p1, p2, p3, p4, p5⟩ := Chart.mv_place hgd hm ok.lo
          rw [p1] at hpc
          have hmk : (((j : Nat) : Int) == (k : Int)) = c.mv k := by
            rw [Bool.eq_iff_iff, p5 k hkl]; simp; omega
          have hmk1 : 1 ≤ k → (((j : Nat) : Int) == (k : Int) - 1) = c.mv (k - 1) := fun h1 => by
            rw [Bool.eq_iff_iff, p5 (k - 1) (by omega)]; simp; omega
          by_cases k0 : q.kind = 0
          · have k0' : (q.kind == 0) = true := by simpa using k0
            cases hv : c.mv k with
            | true =>
              rw [hv] at hmk
              have ha : c.act q = (c, 2) := by simp [Chart.act, k0, hpl, hv]
              rw [ha]
              simp only [run0, run1, run2, run3, run4, noSlot, ownS, ownK, memN, RO.dst, lk, drop, forget, number, Nat.reduceBEq, cut?, splice?, builds, List.length_cons, List.length_nil, List.drop_succ_cons, List.drop_zero, List.take_succ_cons, List.take_zero, List.cons_append, List.nil_append, List.append_nil, List.drop_nil, List.take_nil, Nat.reduceAdd, Nat.reduceLeDiff, Nat.zero_add, Nat.add_zero, ↓reduceIte, Bool.not_true, Bool.not_false, decide_true, decide_false, eq_self, bne_self_eq_false, List.getElem?_cons_zero, List.getElem?_cons_succ, decide_eq_true_eq, Bool.false_eq_true, Bool.true_eq_false, reduceCtorEq, Nat.le_refl, MapCmd.enc, e1, e2, e3, hep, e5, hm, hpc, k0', hmk]
              exact ⟨_, _, _, rfl, o1, ⟨y, _, (by first | rfl | rw [hm] | simp [hm]), rfl, u⟩, r1⟩
            | false =>
              rw [hv] at hmk
              have ha : c.act q = c.fin (splitRg c.ranges q.at_ (Range.at_ c.ranges k).group) := by simp [Chart.act, k0, hpl, hv]
              rw [ha]
              obtain ⟨z, h2, g2, f2, e6, hg2, o2, w2, r2⟩ := sSplitRange_q (Z := Z) hS hS11 w1 q.at_ (Range.at_ c.ranges k).group okq.at_ ok.ranges sm
              cases hb : (splitRg c.ranges q.at_ (Range.at_ c.ranges k).group).2 with
              | false =>
                rw [hb] at e6
                obtain ⟨z', h3, f3, e7, o3, w3, r3⟩ := copy (o1.trans o2)
                simp only [Chart.fin, hb, cond_false]
                rw [hm] at e7
                simp only [run0, run1, run2, run3, run4, noSlot, ownS, ownK, memN, RO.dst, lk, drop, forget, number, Nat.reduceBEq, cut?, splice?, builds, List.length_cons, List.length_nil, List.drop_succ_cons, List.drop_zero, List.take_succ_cons, List.take_zero, List.cons_append, List.nil_append, List.append_nil, List.drop_nil, List.take_nil, Nat.reduceAdd, Nat.reduceLeDiff, Nat.zero_add, Nat.add_zero, ↓reduceIte, Bool.not_true, Bool.not_false, decide_true, decide_false, eq_self, bne_self_eq_false, List.getElem?_cons_zero, List.getElem?_cons_succ, decide_eq_true_eq, Bool.false_eq_true, Bool.true_eq_false, reduceCtorEq, Nat.le_refl, MapCmd.enc, e1, e2, e3, hep, e5, hm, hpc, k0', hmk, hxi, hld, e6, hg2, e7]
                exact ⟨_, _, _, rfl, o3, ⟨z', _, (by first | rfl | rw [hm] | simp [hm]), rfl, w3⟩, r3⟩
              | true =>
                rw [hb] at e6
                simp only [Chart.fin, hb, cond_true]
                simp only [run0, run1, run2, run3, run4, noSlot, ownS, ownK, memN, RO.dst, lk, drop, forget, number, Nat.reduceBEq, cut?, splice?, builds, List.length_cons, List.length_nil, List.drop_succ_cons, List.drop_zero, List.take_succ_cons, List.take_zero, List.cons_append, List.nil_append, List.append_nil, List.drop_nil, List.take_nil, Nat.reduceAdd, Nat.reduceLeDiff, Nat.zero_add, Nat.add_zero, ↓reduceIte, Bool.not_true, Bool.not_false, decide_true, decide_false, eq_self, bne_self_eq_false, List.getElem?_cons_zero, List.getElem?_cons_succ, decide_eq_true_eq, Bool.false_eq_true, Bool.true_eq_false, reduceCtorEq, Nat.le_refl, MapCmd.enc, e1, e2, e3, hep, e5, hm, hpc, k0', hmk, hxi, hld, e6, hg2, hepr]
                exact ⟨_, _, _, rfl, o1.trans o2, ⟨z, _, (by first | rfl | rw [hm] | simp [hm]), rfl, w2⟩, nx r2⟩
          have k0' : (q.kind == 0) = false := by simpa using k0
          by_cases k1 : q.kind = 1
          · have k1' : (q.kind == 1) = true := by simpa using k1
            by_cases hla : (Range.at_ c.ranges k).lo = q.at_
            case neg =>
              have hln : ((Range.at_ c.ranges k).lo != q.at_) = true := by simpa using hla
              have ha : c.act q = (c, 4) := by simp [Chart.act, k1, hpl, hln]
              rw [ha]
              simp only [run0, run1, run2, run3, run4, noSlot, ownS, ownK, memN, RO.dst, lk, drop, forget, number, Nat.reduceBEq, cut?, splice?, builds, List.length_cons, List.length_nil, List.drop_succ_cons, List.drop_zero, List.take_succ_cons, List.take_zero, List.cons_append, List.nil_append, List.append_nil, List.drop_nil, List.take_nil, Nat.reduceAdd, Nat.reduceLeDiff, Nat.zero_add, Nat.add_zero, ↓reduceIte, Bool.not_true, Bool.not_false, decide_true, decide_false, eq_self, bne_self_eq_false, List.getElem?_cons_zero, List.getElem?_cons_succ, decide_eq_true_eq, Bool.false_eq_true, Bool.true_eq_false, reduceCtorEq, Nat.le_refl, MapCmd.enc, e1, e2, e3, hep, e5, hm, hpc, k0', k1', hxi, hld, hln]
              exact ⟨_, _, _, rfl, o1, ⟨y, _, (by first | rfl | rw [hm] | simp [hm]), rfl, u⟩, r1⟩
            have hln : ((Range.at_ c.ranges k).lo != q.at_) = false := by simpa using hla
            have hz' := hz hla
            cases hkz : ((k : Int) == 0) with
            | true =>
              rw [hkz] at hz'
              have ha : c.act q = (c, 4) := by simp [Chart.act, k1, hpl, hln, hz']
              rw [ha]
              simp only [run0, run1, run2, run3, run4, noSlot, ownS, ownK, memN, RO.dst, lk, drop, forget, number, Nat.reduceBEq, cut?, splice?, builds, List.length_cons, List.length_nil, List.drop_succ_cons, List.drop_zero, List.take_succ_cons, List.take_zero, List.cons_append, List.nil_append, List.append_nil, List.drop_nil, List.take_nil, Nat.reduceAdd, Nat.reduceLeDiff, Nat.zero_add, Nat.add_zero, ↓reduceIte, Bool.not_true, Bool.not_false, decide_true, decide_false, eq_self, bne_self_eq_false, List.getElem?_cons_zero, List.getElem?_cons_succ, decide_eq_true_eq, Bool.false_eq_true, Bool.true_eq_false, reduceCtorEq, Nat.le_refl, MapCmd.enc, e1, e2, e3, hep, e5, hm, hpc, k0', k1', hxi, hld, hln, hkz]
              exact ⟨_, _, _, rfl, o1, ⟨y, _, (by first | rfl | rw [hm] | simp [hm]), rfl, u⟩, r1⟩
            | false =>
              rw [hkz] at hz'
              have hk1 : 1 ≤ k := by simp at hkz; omega
              have hmk1' := hmk1 hk1
              have hwk : IntKind.i64.wrap ((k : Int) - 1) = (k : Int) - 1 := wrapI _ (by omega) (by have := w.le2; omega)
              cases hv : c.mv k with
              | true =>
                rw [hv] at hmk
                have ha : c.act q = (c, 2) := by simp [Chart.act, k1, hpl, hln, hz', hv]
                rw [ha]
                simp only [run0, run1, run2, run3, run4, noSlot, ownS, ownK, memN, RO.dst, lk, drop, forget, number, Nat.reduceBEq, cut?, splice?, builds, List.length_cons, List.length_nil, List.drop_succ_cons, List.drop_zero, List.take_succ_cons, List.take_zero, List.cons_append, List.nil_append, List.append_nil, List.drop_nil, List.take_nil, Nat.reduceAdd, Nat.reduceLeDiff, Nat.zero_add, Nat.add_zero, ↓reduceIte, Bool.not_true, Bool.not_false, decide_true, decide_false, eq_self, bne_self_eq_false, List.getElem?_cons_zero, List.getElem?_cons_succ, decide_eq_true_eq, Bool.false_eq_true, Bool.true_eq_false, reduceCtorEq, Nat.le_refl, MapCmd.enc, e1, e2, e3, hep, e5, hm, hpc, k0', k1', hxi, hld, hln, hkz, hmk]
                exact ⟨_, _, _, rfl, o1, ⟨y, _, (by first | rfl | rw [hm] | simp [hm]), rfl, u⟩, r1⟩
              | false =>
                rw [hv] at hmk
                cases hv1 : c.mv (k - 1) with
                | true =>
                  rw [hv1] at hmk1'
                  have ha : c.act q = (c, 2) := by simp [Chart.act, k1, hpl, hln, hz', hv, hv1]
                  rw [ha]
                  simp only [run0, run1, run2, run3, run4, noSlot, ownS, ownK, memN, RO.dst, lk, drop, forget, number, Nat.reduceBEq, cut?, splice?, builds, List.length_cons, List.length_nil, List.drop_succ_cons, List.drop_zero, List.take_succ_cons, List.take_zero, List.cons_append, List.nil_append, List.append_nil, List.drop_nil, List.take_nil, Nat.reduceAdd, Nat.reduceLeDiff, Nat.zero_add, Nat.add_zero, ↓reduceIte, Bool.not_true, Bool.not_false, decide_true, decide_false, eq_self, bne_self_eq_false, List.getElem?_cons_zero, List.getElem?_cons_succ, decide_eq_true_eq, Bool.false_eq_true, Bool.true_eq_false, reduceCtorEq, Nat.le_refl, MapCmd.enc, e1, e2, e3, hep, e5, hm, hpc, k0', k1', hxi, hld, hln, hkz, hmk, hwk, hmk1']
                  exact ⟨_, _, _, rfl, o1, ⟨y, _, (by first | rfl | rw [hm] | simp [hm]), rfl, u⟩, r1⟩
                | false =>
                  rw [hv1] at hmk1'
                  have ha : c.act q = c.fin (mergeRg c.ranges ((k : Int) - 1)) := by simp [Chart.act, k1, hpl, hln, hz', hv, hv1]
                  rw [ha]
                  obtain ⟨z, g2, f2, e6, o2, w2, r2⟩ := sMergeRange_c (Z := Z) hS hS11 hf1 w1 ((k : Int) - 1) ok.ranges sm
                  cases hb : (mergeRg c.ranges ((k : Int) - 1)).2 with
                  | false =>
                    rw [hb] at e6
                    obtain ⟨z', h3, f3, e7, o3, w3, r3⟩ := copy (o1.trans o2)
                    simp only [Chart.fin, hb, cond_false]
                    rw [hm] at e7
                    simp only [run0, run1, run2, run3, run4, noSlot, ownS, ownK, memN, RO.dst, lk, drop, forget, number, Nat.reduceBEq, cut?, splice?, builds, List.length_cons, List.length_nil, List.drop_succ_cons, List.drop_zero, List.take_succ_cons, List.take_zero, List.cons_append, List.nil_append, List.append_nil, List.drop_nil, List.take_nil, Nat.reduceAdd, Nat.reduceLeDiff, Nat.zero_add, Nat.add_zero, ↓reduceIte, Bool.not_true, Bool.not_false, decide_true, decide_false, eq_self, bne_self_eq_false, List.getElem?_cons_zero, List.getElem?_cons_succ, decide_eq_true_eq, Bool.false_eq_true, Bool.true_eq_false, reduceCtorEq, Nat.le_refl, MapCmd.enc, e1, e2, e3, hep, e5, hm, hpc, k0', k1', hxi, hld, hln, hkz, hmk, hwk, hmk1', e6, e7]
                    exact ⟨_, _, _, rfl, o3, ⟨z', _, (by first | rfl | rw [hm] | simp [hm]), rfl, w3⟩, r3⟩
                  | true =>
                    rw [hb] at e6
                    simp only [Chart.fin, hb, cond_true]
                    simp only [run0, run1, run2, run3, run4, noSlot, ownS, ownK, memN, RO.dst, lk, drop, forget, number, Nat.reduceBEq, cut?, splice?, builds, List.length_cons, List.length_nil, List.drop_succ_cons, List.drop_zero, List.take_succ_cons, List.take_zero, List.cons_append, List.nil_append, List.append_nil, List.drop_nil, List.take_nil, Nat.reduceAdd, Nat.reduceLeDiff, Nat.zero_add, Nat.add_zero, ↓reduceIte, Bool.not_true, Bool.not_false, decide_true, decide_false, eq_self, bne_self_eq_false, List.getElem?_cons_zero, List.getElem?_cons_succ, decide_eq_true_eq, Bool.false_eq_true, Bool.true_eq_false, reduceCtorEq, Nat.le_refl, MapCmd.enc, e1, e2, e3, hep, e5, hm, hpc, k0', k1', hxi, hld, hln, hkz, hmk, hwk, hmk1', e6, hepr]
                    exact ⟨_, _, _, rfl, o1.trans o2, ⟨z, _, (by first | rfl | rw [hm] | simp [hm]), rfl, w2⟩, nx r2⟩
          have k1' : (q.kind == 1) = false := by simpa using k1
          by_cases k2 : q.kind = 2
          · have k2' : (q.kind == 2) = true := by simpa using k2
            have ha : c.act q = (c, 2) := by simp [Chart.act, k2, hm]
            rw [ha]
            simp only [run0, run1, run2, run3, run4, noSlot, ownS, ownK, memN, RO.dst, lk, drop, forget, number, Nat.reduceBEq, cut?, splice?, builds, List.length_cons, List.length_nil, List.drop_succ_cons, List.drop_zero, List.take_succ_cons, List.take_zero, List.cons_append, List.nil_append, List.append_nil, List.drop_nil, List.take_nil, Nat.reduceAdd, Nat.reduceLeDiff, Nat.zero_add, Nat.add_zero, ↓reduceIte, Bool.not_true, Bool.not_false, decide_true, decide_false, eq_self, bne_self_eq_false, List.getElem?_cons_zero, List.getElem?_cons_succ, decide_eq_true_eq, Bool.false_eq_true, Bool.true_eq_false, reduceCtorEq, Nat.le_refl, MapCmd.enc, e1, e2, e3, hep, e5, hm, hpc, k0', k1', k2']
            exact ⟨_, _, _, rfl, o1, ⟨y, _, (by first | rfl | rw [hm] | simp [hm]), rfl, u⟩, r1⟩
          have k2' : (q.kind == 2) = false := by simpa using k2
          cases k3 : (q.kind == 3) with
          | true =>
            have hto : inR c.to 0 99 = true := by
              simp only [Chart.good, hm, cond_true, Bool.and_eq_true] at hgd
              exact hgd.2.2.2.1
            have hjr : inR ((j : Nat) : Int) 0 ((c.ranges.length : Int) - 1) = true := by simp [inR]; omega
            obtain ⟨z, g2, f2, e6, o2, w2, r2⟩ := sMoveRange_c (Z := Z) hS hS11 hf1 w1 ((j : Nat) : Int) c.to ok.ranges sm
            rw [move_yes_ (by simp [hr, hjr, hto])] at e6 w2
            simp only [Int.toNat_natCast] at e6 w2
            have ha : c.act q = (⟨c.epoch + 1, c.ranges.set j ⟨(Range.at_ c.ranges j).lo, (Range.at_ c.ranges j).hi, c.to⟩, false, 0, 0⟩, 0) := by simp [Chart.act, k0', k1', k2', k3, hm, p2]
            rw [ha]
            simp only [run0, run1, run2, run3, run4, noSlot, ownS, ownK, memN, RO.dst, lk, drop, forget, number, Nat.reduceBEq, cut?, splice?, builds, List.length_cons, List.length_nil, List.drop_succ_cons, List.drop_zero, List.take_succ_cons, List.take_zero, List.cons_append, List.nil_append, List.append_nil, List.drop_nil, List.take_nil, Nat.reduceAdd, Nat.reduceLeDiff, Nat.zero_add, Nat.add_zero, ↓reduceIte, Bool.not_true, Bool.not_false, decide_true, decide_false, eq_self, bne_self_eq_false, List.getElem?_cons_zero, List.getElem?_cons_succ, decide_eq_true_eq, Bool.false_eq_true, Bool.true_eq_false, reduceCtorEq, Nat.le_refl, MapCmd.enc, e1, e2, e3, hep, e5, hm, hpc, k0', k1', k2', k3, e6, hepr]
            exact ⟨_, _, _, rfl, o1.trans o2, ⟨z, _, rfl, rfl, w2⟩, nx r2⟩
          | false =>
            have ha : c.act q = (⟨c.epoch + 1, c.ranges, false, 0, 0⟩, 0) := by simp [Chart.act, k0', k1', k2', k3, hm]
            rw [ha]
            simp only [run0, run1, run2, run3, run4, noSlot, ownS, ownK, memN, RO.dst, lk, drop, forget, number, Nat.reduceBEq, cut?, splice?, builds, List.length_cons, List.length_nil, List.drop_succ_cons, List.drop_zero, List.take_succ_cons, List.take_zero, List.cons_append, List.nil_append, List.append_nil, List.drop_nil, List.take_nil, Nat.reduceAdd, Nat.reduceLeDiff, Nat.zero_add, Nat.add_zero, ↓reduceIte, Bool.not_true, Bool.not_false, decide_true, decide_false, eq_self, bne_self_eq_false, List.getElem?_cons_zero, List.getElem?_cons_succ, decide_eq_true_eq, Bool.false_eq_true, Bool.true_eq_false, reduceCtorEq, Nat.le_refl, MapCmd.enc, e1, e2, e3, hep, e5, hm, hpc, k0', k1', k2', k3, hepr]
            exact ⟨_, _, _, rfl, o1, ⟨y, _, rfl, rfl, u⟩, r1⟩
end
end Go.Proofs.Ytcdlbjomdokmiaa.A
/- Does a range move? The program's closure. -/
namespace Go.Proofs.Ytcdlbjomdokmiaa.A
open Go
set_option linter.unusedSimpArgs false
set_option linter.unusedVariables false
def Chart.cells (c : Chart) (x : Cell) : List Cell := [.int .i64 c.epoch, x, .bool c.moving, .int .u64 c.lo, .int .i64 c.to]
section
variable {F : Nat → Option RF} {Z : CallF} {g : Heap} {c : Chart}
theorem moves_run (hI12 : Has F tI12) {o : Nat} {x : Cell} (hl : ∀ j n, loadP g o 0 j n = cut? (c.cells x) j n) (r : Range) : call F Z 254 [.agg r.enc, .c (.ptr o 0 0)] g = some (.c (.bool (c.moving && (r.lo == c.lo))), g) := by
  simp only [Chart.cells] at hl
  rw [call_run F Z (hI12.lk (g := 254) rfl) _ _ rfl]
  simp only [Range.enc]
  by_cases hm : c.moving = true
  · simp only [hm] at hl
    simp only [run0, run1, run2, run3, run4, noSlot, ownS, ownK, memN, RO.dst, lk, drop, forget, number, Nat.reduceBEq, cut?, splice?, builds, List.length_cons, List.length_nil, List.drop_succ_cons, List.drop_zero, List.take_succ_cons, List.take_zero, List.cons_append, List.nil_append, List.append_nil, List.drop_nil, List.take_nil, Nat.reduceAdd, Nat.reduceLeDiff, Nat.zero_add, Nat.add_zero, ↓reduceIte, Bool.not_true, Bool.not_false, decide_true, decide_false, eq_self, bne_self_eq_false, List.getElem?_cons_zero, List.getElem?_cons_succ, decide_eq_true_eq, Bool.false_eq_true, Bool.true_eq_false, reduceCtorEq, Nat.le_refl, hl, hm, Bool.true_and]
  · have hm' : c.moving = false := by simpa using hm
    simp only [hm'] at hl
    simp only [run0, run1, run2, run3, run4, noSlot, ownS, ownK, memN, RO.dst, lk, drop, forget, number, Nat.reduceBEq, cut?, splice?, builds, List.length_cons, List.length_nil, List.drop_succ_cons, List.drop_zero, List.take_succ_cons, List.take_zero, List.cons_append, List.nil_append, List.append_nil, List.drop_nil, List.take_nil, Nat.reduceAdd, Nat.reduceLeDiff, Nat.zero_add, Nat.add_zero, ↓reduceIte, Bool.not_true, Bool.not_false, decide_true, decide_false, eq_self, bne_self_eq_false, List.getElem?_cons_zero, List.getElem?_cons_succ, decide_eq_true_eq, Bool.false_eq_true, Bool.true_eq_false, reduceCtorEq, Nat.le_refl, hl, hm', Bool.false_and]
end
end Go.Proofs.Ytcdlbjomdokmiaa.A
/- A command is done with a chart, the program's way. -/
namespace Go.Proofs.Ytcdlbjomdokmiaa.A
open Go
set_option linter.unusedSimpArgs false
set_option linter.unusedVariables false
section
variable {F : Nat → Option RF} {Z : CallF} {h : Heap} {cs : List Cell} {c : Chart} {fp : List Nat}
set_option maxHeartbeats 4000000 in
theorem doMap_c (hI11 : Has F tI11) (hI12 : Has F tI12) (hLi : Has F tLibslicesIndexFuncimplRangeimplRange) (pr1 : PrimAt F Z 269 (insF 7 24)) (pr2 : PrimAt F Z 270 (delF 7)) (hf : h.floor ≤ h.next) (v : Chart.RI h cs c fp) (q : MapCmd) (okq : q.Ok) (ok : c.Ok) (sm : c.Small) :
    ∃ cs' h' fq, call F Z 224 [.agg cs, .agg q.enc] h = some (.tup [.agg cs', .c (.int .i64 (doMap c q).2)], h') ∧ On h h' ∧ Chart.RI h' cs' (doMap c q).1 fq ∧ Fre h fq := by
  obtain ⟨x, p, rfl, hp, w⟩ := v
  subst hp
  have o0 := On.push h [[.int .i64 c.epoch, x, .bool c.moving, .int .u64 c.lo, .int .i64 c.to]]
  have hl : ∀ {g : Heap}, On (h.push [[.int .i64 c.epoch, x, .bool c.moving, .int .u64 c.lo, .int .i64 c.to]]) g → ∀ j n, loadP g h.next 0 j n = cut? [.int .i64 c.epoch, x, .bool c.moving, .int .u64 c.lo, .int .i64 c.to] j n := fun {g} o j n => by
    have := o.ext.2 h.next (by simp [Heap.push])
    rw [push_get] at this
    simp [loadP, rowOf, this]
  have w0 := w.on (Fl.ok _) o0
  have hl0 := hl (On.refl _)
  generalize hh0 : h.push [[.int .i64 c.epoch, x, .bool c.moving, .int .u64 c.lo, .int .i64 c.to]] = h0 at *
  have hf0 := o0.le hf
  obtain ⟨_, h1, f1, e1, o1, ⟨y, _, rfl, rfl, u⟩, r1⟩ := copyChart_c (Z := Z) hI12 hf0 (⟨x, _, rfl, rfl, w0⟩ : Chart.RI h0 _ c _) sm
  have w1 := w0.on (Fl.ok _) o1
  have hl1 := hl o1
  obtain ⟨h2, e2, o2⟩ := isChart_run (Z := Z) hI11 hI12 hLi (⟨x, _, rfl, rfl, w1⟩ : Chart.RI h1 _ c _) ok
  have w2 := w1.on (Fl.ok _) o2
  have o12 := o1.trans o2
  have hl2 := hl o12
  have nx : ∀ {fq : List Nat}, Fre h0 fq → Fre h fq := fun f => ⟨fun id hid => Nat.le_trans o0.ext.1 (f.lo id hid), f.nd⟩
  have nx2 : ∀ {g : Heap} {fq : List Nat}, On h0 g → Fre g fq → Fre h fq := fun o f => ⟨fun id hid => Nat.le_trans (Nat.le_trans o0.ext.1 o.ext.1) (f.lo id hid), f.nd⟩
  rw [call_run F Z (hI12.lk (g := 224) rfl) _ _ rfl]
  by_cases hbad : (c.good && (inR q.kind 0 4 && !(c.epoch == 1000000))) = false
  · have hd : doMap c q = (c, 1) := by simp only [doMap, hbad, cond_false]
    rw [hd]
    have o := o0.trans o12
    have u2 := u.on (Fl.ok _) o2
    cases hgd : c.good with
    | false =>
      rw [hgd] at e2
      simp only [run0, run1, run2, run3, run4, noSlot, ownS, ownK, memN, RO.dst, lk, drop, forget, number, Nat.reduceBEq, cut?, splice?, builds, List.length_cons, List.length_nil, List.drop_succ_cons, List.drop_zero, List.take_succ_cons, List.take_zero, List.cons_append, List.nil_append, List.append_nil, List.drop_nil, List.take_nil, Nat.reduceAdd, Nat.reduceLeDiff, Nat.zero_add, Nat.add_zero, ↓reduceIte, Bool.not_true, Bool.not_false, decide_true, decide_false, eq_self, bne_self_eq_false, List.getElem?_cons_zero, List.getElem?_cons_succ, decide_eq_true_eq, Bool.false_eq_true, Bool.true_eq_false, reduceCtorEq, Nat.le_refl, MapCmd.enc, hh0, hl0, e1, hl1, e2]
      exact ⟨_, _, _, rfl, o, ⟨y, _, rfl, rfl, u2⟩, nx r1⟩
    | true =>
      rw [hgd] at e2
      by_cases k1 : q.kind < 0
      · simp only [run0, run1, run2, run3, run4, noSlot, ownS, ownK, memN, RO.dst, lk, drop, forget, number, Nat.reduceBEq, cut?, splice?, builds, List.length_cons, List.length_nil, List.drop_succ_cons, List.drop_zero, List.take_succ_cons, List.take_zero, List.cons_append, List.nil_append, List.append_nil, List.drop_nil, List.take_nil, Nat.reduceAdd, Nat.reduceLeDiff, Nat.zero_add, Nat.add_zero, ↓reduceIte, Bool.not_true, Bool.not_false, decide_true, decide_false, eq_self, bne_self_eq_false, List.getElem?_cons_zero, List.getElem?_cons_succ, decide_eq_true_eq, Bool.false_eq_true, Bool.true_eq_false, reduceCtorEq, Nat.le_refl, MapCmd.enc, hh0, hl0, e1, hl1, e2, k1]
        exact ⟨_, _, _, rfl, o, ⟨y, _, rfl, rfl, u2⟩, nx r1⟩
      · by_cases k2 : 4 < q.kind
        · simp only [run0, run1, run2, run3, run4, noSlot, ownS, ownK, memN, RO.dst, lk, drop, forget, number, Nat.reduceBEq, cut?, splice?, builds, List.length_cons, List.length_nil, List.drop_succ_cons, List.drop_zero, List.take_succ_cons, List.take_zero, List.cons_append, List.nil_append, List.append_nil, List.drop_nil, List.take_nil, Nat.reduceAdd, Nat.reduceLeDiff, Nat.zero_add, Nat.add_zero, ↓reduceIte, Bool.not_true, Bool.not_false, decide_true, decide_false, eq_self, bne_self_eq_false, List.getElem?_cons_zero, List.getElem?_cons_succ, decide_eq_true_eq, Bool.false_eq_true, Bool.true_eq_false, reduceCtorEq, Nat.le_refl, MapCmd.enc, hh0, hl0, e1, hl1, e2, k1, k2]
          exact ⟨_, _, _, rfl, o, ⟨y, _, rfl, rfl, u2⟩, nx r1⟩
        · have hep : (c.epoch == 1000000) = true := by
            have : inR q.kind 0 4 = true := by simp [inR]; omega
            simpa [hgd, this] using hbad
          simp only [run0, run1, run2, run3, run4, noSlot, ownS, ownK, memN, RO.dst, lk, drop, forget, number, Nat.reduceBEq, cut?, splice?, builds, List.length_cons, List.length_nil, List.drop_succ_cons, List.drop_zero, List.take_succ_cons, List.take_zero, List.cons_append, List.nil_append, List.append_nil, List.drop_nil, List.take_nil, Nat.reduceAdd, Nat.reduceLeDiff, Nat.zero_add, Nat.add_zero, ↓reduceIte, Bool.not_true, Bool.not_false, decide_true, decide_false, eq_self, bne_self_eq_false, List.getElem?_cons_zero, List.getElem?_cons_succ, decide_eq_true_eq, Bool.false_eq_true, Bool.true_eq_false, reduceCtorEq, Nat.le_refl, MapCmd.enc, hh0, hl0, e1, hl1, e2, k1, k2, hl2, hep]
          exact ⟨_, _, _, rfl, o, ⟨y, _, rfl, rfl, u2⟩, nx r1⟩
  · have hgood : (c.good && (inR q.kind 0 4 && !(c.epoch == 1000000))) = true := by simpa using hbad
    have hd : doMap c q = c.act q := by simp only [doMap, hgood, cond_true]
    rw [hd]
    simp only [Bool.and_eq_true, Bool.not_eq_true'] at hgood
    obtain ⟨hgd, hk, hep⟩ := hgood
    have hki := hk
    simp only [inR, Bool.and_eq_true, decide_eq_true_eq] at hki
    have k1 : ¬ q.kind < 0 := by omega
    have k2 : ¬ 4 < q.kind := by omega
    rw [hgd] at e2
    have hr := Chart.good_ranges hgd
    obtain ⟨k, hkl, q1, q2, q3, q4, q5⟩ := Chart.has (c := c) hr okq.at_.1 okq.at_.2
    have e3 := findRange_run (Z := Z) hI11 hLi w2 q.at_
    rw [q1] at e3
    have o3 := On.push h2 [[.int .u64 q.at_]]
    generalize h2.push [[.int .u64 q.at_]] = h3 at *
    have w3 := w2.on (Fl.ok _) o3
    have o13 := o12.trans o3
    have hl3 := hl o13
    have hf3 := o13.le hf0
    have u3 := u.on (Fl.ok _) (o2.trans o3)
    have hpl : c.pl q.at_ = k := by simp [Chart.pl, q1]
    have hxi := w.idx hkl
    have hld := w3.load hkl
    rw [← at_get hkl] at hld
    simp only [Range.enc] at hld
    have hepr : IntKind.i64.wrap (c.epoch + 1) = c.epoch + 1 := by
      simp only [Chart.good, inR, Bool.and_eq_true, decide_eq_true_eq] at hgd
      exact wrapI _ (by omega) (by omega)
    have mv : ∀ i, call F Z 254 [.agg [.int .u64 (Range.at_ c.ranges i).lo, .int .u64 (Range.at_ c.ranges i).hi, .int .i64 (Range.at_ c.ranges i).group], .c (.ptr h.next 0 0)] h3 = some (.c (.bool (c.mv i)), h3) := fun i => moves_run (Z := Z) hI12 (c := c) (x := x) hl3 (Range.at_ c.ranges i)
    have copy : ∀ {g : Heap}, On h0 g → ∃ z g' fz, call F Z 116 [.agg [.int .i64 c.epoch, x, .bool c.moving, .int .u64 c.lo, .int .i64 c.to]] g = some (.agg [.int .i64 c.epoch, z, .bool c.moving, .int .u64 c.lo, .int .i64 c.to], g') ∧ On h g' ∧ SlR 7 (Fl Range.enc) g' z c.ranges fz ∧ Fre h fz := fun {g} o => by
      obtain ⟨_, h5, f5, e, o5, ⟨z, _, rfl, rfl, u5⟩, r5⟩ := copyChart_c (Z := Z) hI12 (o.le hf0) (⟨x, _, rfl, rfl, w0.on (Fl.ok _) o⟩ : Chart.RI g _ c _) sm
      exact ⟨z, h5, f5, e, (o0.trans o).trans o5, u5, nx2 o r5⟩
    have oh3 := o0.trans o13
    by_cases k0 : q.kind = 0
    · have k0' : (q.kind == 0) = true := by simpa using k0
      cases hv : c.mv k with
      | true =>
        have mk := mv k
        rw [hv] at mk
        have ha : c.act q = (c, 2) := by simp [Chart.act, k0, hpl, hv]
        rw [ha]
        simp only [run0, run1, run2, run3, run4, noSlot, ownS, ownK, memN, RO.dst, lk, drop, forget, number, Nat.reduceBEq, cut?, splice?, builds, List.length_cons, List.length_nil, List.drop_succ_cons, List.drop_zero, List.take_succ_cons, List.take_zero, List.cons_append, List.nil_append, List.append_nil, List.drop_nil, List.take_nil, Nat.reduceAdd, Nat.reduceLeDiff, Nat.zero_add, Nat.add_zero, ↓reduceIte, Bool.not_true, Bool.not_false, decide_true, decide_false, eq_self, bne_self_eq_false, List.getElem?_cons_zero, List.getElem?_cons_succ, decide_eq_true_eq, Bool.false_eq_true, Bool.true_eq_false, reduceCtorEq, Nat.le_refl, MapCmd.enc, hh0, hl0, e1, hl1, e2, k1, k2, hl2, hep, e3, hl3, hxi, hld, evPtrs, capV_cons, k0', mk]
        exact ⟨_, _, _, rfl, oh3, ⟨y, _, rfl, rfl, u3⟩, nx r1⟩
      | false =>
        have mk := mv k
        rw [hv] at mk
        have ha : c.act q = c.fin (splitRg c.ranges q.at_ (Range.at_ c.ranges k).group) := by simp [Chart.act, k0, hpl, hv]
        rw [ha]
        obtain ⟨z, h4, f4, e6, o4, u4, r4⟩ := splitRange_c (Z := Z) hI11 hLi pr1 hf3 w3 q.at_ (Range.at_ c.ranges k).group okq.at_ ok.ranges sm
        have o14 := o13.trans o4
        have hl4 := hl o14
        cases hb : (splitRg c.ranges q.at_ (Range.at_ c.ranges k).group).2 with
        | false =>
          rw [hb] at e6
          obtain ⟨z', h5, f5, e7, o5, w5, r5⟩ := copy o14
          simp only [Chart.fin, hb, cond_false]
          simp only [run0, run1, run2, run3, run4, noSlot, ownS, ownK, memN, RO.dst, lk, drop, forget, number, Nat.reduceBEq, cut?, splice?, builds, List.length_cons, List.length_nil, List.drop_succ_cons, List.drop_zero, List.take_succ_cons, List.take_zero, List.cons_append, List.nil_append, List.append_nil, List.drop_nil, List.take_nil, Nat.reduceAdd, Nat.reduceLeDiff, Nat.zero_add, Nat.add_zero, ↓reduceIte, Bool.not_true, Bool.not_false, decide_true, decide_false, eq_self, bne_self_eq_false, List.getElem?_cons_zero, List.getElem?_cons_succ, decide_eq_true_eq, Bool.false_eq_true, Bool.true_eq_false, reduceCtorEq, Nat.le_refl, MapCmd.enc, hh0, hl0, e1, hl1, e2, k1, k2, hl2, hep, e3, hl3, hxi, hld, evPtrs, capV_cons, k0', mk, e6, hl4, e7]
          exact ⟨_, _, _, rfl, o5, ⟨z', _, rfl, rfl, w5⟩, r5⟩
        | true =>
          rw [hb] at e6
          simp only [Chart.fin, hb, cond_true]
          simp only [run0, run1, run2, run3, run4, noSlot, ownS, ownK, memN, RO.dst, lk, drop, forget, number, Nat.reduceBEq, cut?, splice?, builds, List.length_cons, List.length_nil, List.drop_succ_cons, List.drop_zero, List.take_succ_cons, List.take_zero, List.cons_append, List.nil_append, List.append_nil, List.drop_nil, List.take_nil, Nat.reduceAdd, Nat.reduceLeDiff, Nat.zero_add, Nat.add_zero, ↓reduceIte, Bool.not_true, Bool.not_false, decide_true, decide_false, eq_self, bne_self_eq_false, List.getElem?_cons_zero, List.getElem?_cons_succ, decide_eq_true_eq, Bool.false_eq_true, Bool.true_eq_false, reduceCtorEq, Nat.le_refl, MapCmd.enc, hh0, hl0, e1, hl1, e2, k1, k2, hl2, hep, e3, hl3, hxi, hld, evPtrs, capV_cons, k0', mk, e6, hl4, hepr]
          exact ⟨_, _, _, rfl, o0.trans o14, ⟨z, _, rfl, rfl, u4⟩, nx2 o13 r4⟩
    have k0' : (q.kind == 0) = false := by simpa using k0
    by_cases k1_ : q.kind = 1
    · have k1' : (q.kind == 1) = true := by simpa using k1_
      by_cases hla : (Range.at_ c.ranges k).lo = q.at_
      case neg =>
        have hln : ((Range.at_ c.ranges k).lo != q.at_) = true := by simpa using hla
        have ha : c.act q = (c, 4) := by simp [Chart.act, k1_, hpl, hln]
        rw [ha]
        simp only [run0, run1, run2, run3, run4, noSlot, ownS, ownK, memN, RO.dst, lk, drop, forget, number, Nat.reduceBEq, cut?, splice?, builds, List.length_cons, List.length_nil, List.drop_succ_cons, List.drop_zero, List.take_succ_cons, List.take_zero, List.cons_append, List.nil_append, List.append_nil, List.drop_nil, List.take_nil, Nat.reduceAdd, Nat.reduceLeDiff, Nat.zero_add, Nat.add_zero, ↓reduceIte, Bool.not_true, Bool.not_false, decide_true, decide_false, eq_self, bne_self_eq_false, List.getElem?_cons_zero, List.getElem?_cons_succ, decide_eq_true_eq, Bool.false_eq_true, Bool.true_eq_false, reduceCtorEq, Nat.le_refl, MapCmd.enc, hh0, hl0, e1, hl1, e2, k1, k2, hl2, hep, e3, hl3, hxi, hld, evPtrs, capV_cons, k0', k1', hln]
        exact ⟨_, _, _, rfl, oh3, ⟨y, _, rfl, rfl, u3⟩, nx r1⟩
      have hln : ((Range.at_ c.ranges k).lo != q.at_) = false := by simpa using hla
      cases hkz : (q.at_ == 0) with
      | true =>
        have ha : c.act q = (c, 4) := by simp [Chart.act, k1_, hpl, hln, hkz]
        rw [ha]
        simp only [run0, run1, run2, run3, run4, noSlot, ownS, ownK, memN, RO.dst, lk, drop, forget, number, Nat.reduceBEq, cut?, splice?, builds, List.length_cons, List.length_nil, List.drop_succ_cons, List.drop_zero, List.take_succ_cons, List.take_zero, List.cons_append, List.nil_append, List.append_nil, List.drop_nil, List.take_nil, Nat.reduceAdd, Nat.reduceLeDiff, Nat.zero_add, Nat.add_zero, ↓reduceIte, Bool.not_true, Bool.not_false, decide_true, decide_false, eq_self, bne_self_eq_false, List.getElem?_cons_zero, List.getElem?_cons_succ, decide_eq_true_eq, Bool.false_eq_true, Bool.true_eq_false, reduceCtorEq, Nat.le_refl, MapCmd.enc, hh0, hl0, e1, hl1, e2, k1, k2, hl2, hep, e3, hl3, hxi, hld, evPtrs, capV_cons, k0', k1', hln, hkz]
        exact ⟨_, _, _, rfl, oh3, ⟨y, _, rfl, rfl, u3⟩, nx r1⟩
      | false =>
        have hk1 : 1 ≤ k := by
          have hfit := rangesOk_fit hr
          rcases Nat.eq_zero_or_pos k with hk0 | hk0
          · subst hk0
            have := hfit.lo0
            simp only [beq_eq_false_iff_ne] at hkz
            omega
          · exact hk0
        have hwk : IntKind.i64.wrap ((k : Int) - 1) = ((k - 1 : Nat) : Int) := by
          have := w.le2
          rw [wrapI _ (by omega) (by omega)]; omega
        have hkk : k - 1 < c.ranges.length := by omega
        have hxj := w.idx hkk
        have hlj := w3.load hkk
        rw [← at_get hkk] at hlj
        simp only [Range.enc] at hlj
        cases hv : c.mv k with
        | true =>
          have mk := mv k
          rw [hv] at mk
          have ha : c.act q = (c, 2) := by simp [Chart.act, k1_, hpl, hln, hkz, hv]
          rw [ha]
          simp only [run0, run1, run2, run3, run4, noSlot, ownS, ownK, memN, RO.dst, lk, drop, forget, number, Nat.reduceBEq, cut?, splice?, builds, List.length_cons, List.length_nil, List.drop_succ_cons, List.drop_zero, List.take_succ_cons, List.take_zero, List.cons_append, List.nil_append, List.append_nil, List.drop_nil, List.take_nil, Nat.reduceAdd, Nat.reduceLeDiff, Nat.zero_add, Nat.add_zero, ↓reduceIte, Bool.not_true, Bool.not_false, decide_true, decide_false, eq_self, bne_self_eq_false, List.getElem?_cons_zero, List.getElem?_cons_succ, decide_eq_true_eq, Bool.false_eq_true, Bool.true_eq_false, reduceCtorEq, Nat.le_refl, MapCmd.enc, hh0, hl0, e1, hl1, e2, k1, k2, hl2, hep, e3, hl3, hxi, hld, evPtrs, capV_cons, k0', k1', hln, hkz, mk]
          exact ⟨_, _, _, rfl, oh3, ⟨y, _, rfl, rfl, u3⟩, nx r1⟩
        | false =>
          have mk := mv k
          rw [hv] at mk
          cases hv1 : c.mv (k - 1) with
          | true =>
            have mk1 := mv (k - 1)
            rw [hv1] at mk1
            have ha : c.act q = (c, 2) := by simp [Chart.act, k1_, hpl, hln, hkz, hv, hv1]
            rw [ha]
            simp only [run0, run1, run2, run3, run4, noSlot, ownS, ownK, memN, RO.dst, lk, drop, forget, number, Nat.reduceBEq, cut?, splice?, builds, List.length_cons, List.length_nil, List.drop_succ_cons, List.drop_zero, List.take_succ_cons, List.take_zero, List.cons_append, List.nil_append, List.append_nil, List.drop_nil, List.take_nil, Nat.reduceAdd, Nat.reduceLeDiff, Nat.zero_add, Nat.add_zero, ↓reduceIte, Bool.not_true, Bool.not_false, decide_true, decide_false, eq_self, bne_self_eq_false, List.getElem?_cons_zero, List.getElem?_cons_succ, decide_eq_true_eq, Bool.false_eq_true, Bool.true_eq_false, reduceCtorEq, Nat.le_refl, MapCmd.enc, hh0, hl0, e1, hl1, e2, k1, k2, hl2, hep, e3, hl3, hxi, hld, evPtrs, capV_cons, k0', k1', hln, hkz, mk, hwk, hxj, hlj, mk1]
            exact ⟨_, _, _, rfl, oh3, ⟨y, _, rfl, rfl, u3⟩, nx r1⟩
          | false =>
            have mk1 := mv (k - 1)
            rw [hv1] at mk1
            have ha : c.act q = c.fin (mergeRg c.ranges ((k : Nat) - 1 : Int)) := by simp [Chart.act, k1_, hpl, hln, hkz, hv, hv1]
            rw [ha]
            have hkc : ((k : Nat) : Int) - 1 = ((k - 1 : Nat) : Int) := by omega
            rw [hkc]
            obtain ⟨z, h4, f4, e6, o4, u4, r4⟩ := mergeRange_c (Z := Z) hI11 pr2 hf3 w3 ((k - 1 : Nat) : Int) ok.ranges sm
            have o14 := o13.trans o4
            have hl4 := hl o14
            cases hb : (mergeRg c.ranges ((k - 1 : Nat) : Int)).2 with
            | false =>
              rw [hb] at e6
              obtain ⟨z', h5, f5, e7, o5, w5, r5⟩ := copy o14
              simp only [Chart.fin, hb, cond_false]
              simp only [run0, run1, run2, run3, run4, noSlot, ownS, ownK, memN, RO.dst, lk, drop, forget, number, Nat.reduceBEq, cut?, splice?, builds, List.length_cons, List.length_nil, List.drop_succ_cons, List.drop_zero, List.take_succ_cons, List.take_zero, List.cons_append, List.nil_append, List.append_nil, List.drop_nil, List.take_nil, Nat.reduceAdd, Nat.reduceLeDiff, Nat.zero_add, Nat.add_zero, ↓reduceIte, Bool.not_true, Bool.not_false, decide_true, decide_false, eq_self, bne_self_eq_false, List.getElem?_cons_zero, List.getElem?_cons_succ, decide_eq_true_eq, Bool.false_eq_true, Bool.true_eq_false, reduceCtorEq, Nat.le_refl, MapCmd.enc, hh0, hl0, e1, hl1, e2, k1, k2, hl2, hep, e3, hl3, hxi, hld, evPtrs, capV_cons, k0', k1', hln, hkz, mk, hwk, hxj, hlj, mk1, e6, hl4, e7]
              exact ⟨_, _, _, rfl, o5, ⟨z', _, rfl, rfl, w5⟩, r5⟩
            | true =>
              rw [hb] at e6
              simp only [Chart.fin, hb, cond_true]
              simp only [run0, run1, run2, run3, run4, noSlot, ownS, ownK, memN, RO.dst, lk, drop, forget, number, Nat.reduceBEq, cut?, splice?, builds, List.length_cons, List.length_nil, List.drop_succ_cons, List.drop_zero, List.take_succ_cons, List.take_zero, List.cons_append, List.nil_append, List.append_nil, List.drop_nil, List.take_nil, Nat.reduceAdd, Nat.reduceLeDiff, Nat.zero_add, Nat.add_zero, ↓reduceIte, Bool.not_true, Bool.not_false, decide_true, decide_false, eq_self, bne_self_eq_false, List.getElem?_cons_zero, List.getElem?_cons_succ, decide_eq_true_eq, Bool.false_eq_true, Bool.true_eq_false, reduceCtorEq, Nat.le_refl, MapCmd.enc, hh0, hl0, e1, hl1, e2, k1, k2, hl2, hep, e3, hl3, hxi, hld, evPtrs, capV_cons, k0', k1', hln, hkz, mk, hwk, hxj, hlj, mk1, e6, hl4, hepr]
              exact ⟨_, _, _, rfl, o0.trans o14, ⟨z, _, rfl, rfl, u4⟩, nx2 o13 r4⟩
    have k1' : (q.kind == 1) = false := by simpa using k1_
    have e4 := fun g => isGroupId_run (Z := Z) hI11 q.group g
    by_cases k2_ : q.kind = 2
    · have k2' : (q.kind == 2) = true := by simpa using k2_
      by_cases hm : c.moving = true
      · rw [hm] at e1 e2 hh0
        have ha : c.act q = (c, 2) := by simp [Chart.act, k2_, hm]
        rw [ha]
        simp only [run0, run1, run2, run3, run4, noSlot, ownS, ownK, memN, RO.dst, lk, drop, forget, number, Nat.reduceBEq, cut?, splice?, builds, List.length_cons, List.length_nil, List.drop_succ_cons, List.drop_zero, List.take_succ_cons, List.take_zero, List.cons_append, List.nil_append, List.append_nil, List.drop_nil, List.take_nil, Nat.reduceAdd, Nat.reduceLeDiff, Nat.zero_add, Nat.add_zero, ↓reduceIte, Bool.not_true, Bool.not_false, decide_true, decide_false, eq_self, bne_self_eq_false, List.getElem?_cons_zero, List.getElem?_cons_succ, decide_eq_true_eq, Bool.false_eq_true, Bool.true_eq_false, reduceCtorEq, Nat.le_refl, MapCmd.enc, hh0, hl0, e1, hl1, e2, k1, k2, hl2, hep, e3, hl3, hxi, hld, evPtrs, capV_cons, k0', k1', k2', hm]
        exact ⟨_, _, _, rfl, oh3, ⟨y, _, (by first | rfl | rw [hm] | simp [hm]), rfl, u3⟩, nx r1⟩
      · replace hm : c.moving = false := by simpa using hm
        rw [hm] at e1 e2 hh0
        cases hg : inR q.group 0 99 with
        | false =>
          rw [hg] at e4
          have ha : c.act q = (c, 4) := by simp [Chart.act, k2_, hm, hg]
          rw [ha]
          obtain ⟨z', h5, f5, e7, o5, w5, r5⟩ := copy o13
          rw [hm] at e7
          simp only [run0, run1, run2, run3, run4, noSlot, ownS, ownK, memN, RO.dst, lk, drop, forget, number, Nat.reduceBEq, cut?, splice?, builds, List.length_cons, List.length_nil, List.drop_succ_cons, List.drop_zero, List.take_succ_cons, List.take_zero, List.cons_append, List.nil_append, List.append_nil, List.drop_nil, List.take_nil, Nat.reduceAdd, Nat.reduceLeDiff, Nat.zero_add, Nat.add_zero, ↓reduceIte, Bool.not_true, Bool.not_false, decide_true, decide_false, eq_self, bne_self_eq_false, List.getElem?_cons_zero, List.getElem?_cons_succ, decide_eq_true_eq, Bool.false_eq_true, Bool.true_eq_false, reduceCtorEq, Nat.le_refl, MapCmd.enc, hh0, hl0, e1, hl1, e2, k1, k2, hl2, hep, e3, hl3, hxi, hld, evPtrs, capV_cons, k0', k1', k2', hm, e4, e7]
          exact ⟨_, _, _, rfl, o5, ⟨z', _, (by first | rfl | rw [hm] | simp [hm]), rfl, w5⟩, r5⟩
        | true =>
          rw [hg] at e4
          cases hg2 : (q.group != (Range.at_ c.ranges k).group) with
          | false =>
            have ha : c.act q = (c, 4) := by simp [Chart.act, k2_, hm, hg, hpl, hg2]
            rw [ha]
            obtain ⟨z', h5, f5, e7, o5, w5, r5⟩ := copy o13
            rw [hm] at e7
            simp only [run0, run1, run2, run3, run4, noSlot, ownS, ownK, memN, RO.dst, lk, drop, forget, number, Nat.reduceBEq, cut?, splice?, builds, List.length_cons, List.length_nil, List.drop_succ_cons, List.drop_zero, List.take_succ_cons, List.take_zero, List.cons_append, List.nil_append, List.append_nil, List.drop_nil, List.take_nil, Nat.reduceAdd, Nat.reduceLeDiff, Nat.zero_add, Nat.add_zero, ↓reduceIte, Bool.not_true, Bool.not_false, decide_true, decide_false, eq_self, bne_self_eq_false, List.getElem?_cons_zero, List.getElem?_cons_succ, decide_eq_true_eq, Bool.false_eq_true, Bool.true_eq_false, reduceCtorEq, Nat.le_refl, MapCmd.enc, hh0, hl0, e1, hl1, e2, k1, k2, hl2, hep, e3, hl3, hxi, hld, evPtrs, capV_cons, k0', k1', k2', hm, e4, hg2, e7]
            exact ⟨_, _, _, rfl, o5, ⟨z', _, (by first | rfl | rw [hm] | simp [hm]), rfl, w5⟩, r5⟩
          | true =>
            have ha : c.act q = (⟨c.epoch + 1, c.ranges, true, (Range.at_ c.ranges k).lo, q.group⟩, 0) := by simp [Chart.act, k2_, hm, hpl, hg, hg2]
            rw [ha]
            simp only [run0, run1, run2, run3, run4, noSlot, ownS, ownK, memN, RO.dst, lk, drop, forget, number, Nat.reduceBEq, cut?, splice?, builds, List.length_cons, List.length_nil, List.drop_succ_cons, List.drop_zero, List.take_succ_cons, List.take_zero, List.cons_append, List.nil_append, List.append_nil, List.drop_nil, List.take_nil, Nat.reduceAdd, Nat.reduceLeDiff, Nat.zero_add, Nat.add_zero, ↓reduceIte, Bool.not_true, Bool.not_false, decide_true, decide_false, eq_self, bne_self_eq_false, List.getElem?_cons_zero, List.getElem?_cons_succ, decide_eq_true_eq, Bool.false_eq_true, Bool.true_eq_false, reduceCtorEq, Nat.le_refl, MapCmd.enc, hh0, hl0, e1, hl1, e2, k1, k2, hl2, hep, e3, hl3, hxi, hld, evPtrs, capV_cons, k0', k1', k2', hm, e4, hg2, hepr]
            exact ⟨_, _, _, rfl, oh3, ⟨y, _, rfl, rfl, u3⟩, nx r1⟩
    have k2' : (q.kind == 2) = false := by simpa using k2_
    by_cases hm : c.moving = true
    case neg =>
      replace hm : c.moving = false := by simpa using hm
      rw [hm] at e1 e2 hh0
      have ha : c.act q = (c, 3) := by simp [Chart.act, k0', k1', k2', hm]
      rw [ha]
      by_cases k3_ : q.kind = 3
      · have k3 : (q.kind == 3) = true := by simpa using k3_
        simp only [run0, run1, run2, run3, run4, noSlot, ownS, ownK, memN, RO.dst, lk, drop, forget, number, Nat.reduceBEq, cut?, splice?, builds, List.length_cons, List.length_nil, List.drop_succ_cons, List.drop_zero, List.take_succ_cons, List.take_zero, List.cons_append, List.nil_append, List.append_nil, List.drop_nil, List.take_nil, Nat.reduceAdd, Nat.reduceLeDiff, Nat.zero_add, Nat.add_zero, ↓reduceIte, Bool.not_true, Bool.not_false, decide_true, decide_false, eq_self, bne_self_eq_false, List.getElem?_cons_zero, List.getElem?_cons_succ, decide_eq_true_eq, Bool.false_eq_true, Bool.true_eq_false, reduceCtorEq, Nat.le_refl, MapCmd.enc, hh0, hl0, e1, hl1, e2, k1, k2, hl2, hep, e3, hl3, hxi, hld, evPtrs, capV_cons, k0', k1', k2', k3, hm]
        exact ⟨_, _, _, rfl, oh3, ⟨y, _, (by first | rfl | rw [hm] | simp [hm]), rfl, u3⟩, nx r1⟩
      · have k3 : (q.kind == 3) = false := by simpa using k3_
        have k4 : (q.kind == 4) = true := by simp; omega
        simp only [run0, run1, run2, run3, run4, noSlot, ownS, ownK, memN, RO.dst, lk, drop, forget, number, Nat.reduceBEq, cut?, splice?, builds, List.length_cons, List.length_nil, List.drop_succ_cons, List.drop_zero, List.take_succ_cons, List.take_zero, List.cons_append, List.nil_append, List.append_nil, List.drop_nil, List.take_nil, Nat.reduceAdd, Nat.reduceLeDiff, Nat.zero_add, Nat.add_zero, ↓reduceIte, Bool.not_true, Bool.not_false, decide_true, decide_false, eq_self, bne_self_eq_false, List.getElem?_cons_zero, List.getElem?_cons_succ, decide_eq_true_eq, Bool.false_eq_true, Bool.true_eq_false, reduceCtorEq, Nat.le_refl, MapCmd.enc, hh0, hl0, e1, hl1, e2, k1, k2, hl2, hep, e3, hl3, hxi, hld, evPtrs, capV_cons, k0', k1', k2', k3, k4, hm]
        exact ⟨_, _, _, rfl, oh3, ⟨y, _, (by first | rfl | rw [hm] | simp [hm]), rfl, u3⟩, nx r1⟩
    rw [hm] at e1 e2 hh0
    by_cases k3_ : q.kind = 3
    · have k3 : (q.kind == 3) = true := by simpa using k3_
      obtain ⟨j, hj, p1, p2, p3, p4, p5⟩ := Chart.mv_place hgd hm ok.lo
      have ha : c.act q = (⟨c.epoch + 1, c.ranges.set j ⟨(Range.at_ c.ranges j).lo, (Range.at_ c.ranges j).hi, c.to⟩, false, 0, 0⟩, 0) := by simp [Chart.act, k0', k1', k2', k3, hm, p2]
      rw [ha]
      obtain ⟨hq, g, e6, hgq, o4⟩ := findRange_q (Z := Z) hI11 hLi w3 c.lo
      rw [p3] at e6
      have u4 := u3.on (Fl.ok _) o4
      have o14 := o13.trans o4
      have hyi := u4.idx hj
      obtain ⟨r, f, rows, hR, hs, hld2, hself, hst, hl2', fin⟩ := u4.putRow (Fl.ok _) r1.nd (r1.own o14 hf0) hj
      obtain ⟨rfl, rfl⟩ := hR
      have hst1 := hst c.ranges[j].enc 2 [.int .i64 c.to]
      rw [hself] at hst1
      obtain ⟨uu, m2⟩ := fin (⟨(Range.at_ c.ranges j).lo, (Range.at_ c.ranges j).hi, c.to⟩ : Range).enc ⟨(Range.at_ c.ranges j).lo, (Range.at_ c.ranges j).hi, c.to⟩ ⟨rfl, rfl⟩
      rw [← at_get hj] at hst1
      simp only [Range.enc] at hst1 uu m2
      have hst2 : storeP g y.sid j 2 [.int .i64 c.to] = some (g.put y.sid (rows.set j [.int .u64 (Range.at_ c.ranges j).lo, .int .u64 (Range.at_ c.ranges j).hi, .int .i64 c.to])) := by rw [hst1]; simp [splice?, putM_s]
      simp only [run0, run1, run2, run3, run4, noSlot, ownS, ownK, memN, RO.dst, lk, drop, forget, number, Nat.reduceBEq, cut?, splice?, builds, List.length_cons, List.length_nil, List.drop_succ_cons, List.drop_zero, List.take_succ_cons, List.take_zero, List.cons_append, List.nil_append, List.append_nil, List.drop_nil, List.take_nil, Nat.reduceAdd, Nat.reduceLeDiff, Nat.zero_add, Nat.add_zero, ↓reduceIte, Bool.not_true, Bool.not_false, decide_true, decide_false, eq_self, bne_self_eq_false, List.getElem?_cons_zero, List.getElem?_cons_succ, decide_eq_true_eq, Bool.false_eq_true, Bool.true_eq_false, reduceCtorEq, Nat.le_refl, MapCmd.enc, hh0, hl0, e1, hl1, e2, k1, k2, hl2, hep, e3, hl3, hxi, hld, evPtrs, capV_cons, k0', k1', k2', k3, hm, e6, hgq, hyi, hst2, hepr]
      exact ⟨_, _, _, rfl, o0.trans (o14.turned m2 r1), ⟨y, _, rfl, rfl, uu⟩, nx r1⟩
    · have k3 : (q.kind == 3) = false := by simpa using k3_
      have k4 : (q.kind == 4) = true := by simp; omega
      have ha : c.act q = (⟨c.epoch + 1, c.ranges, false, 0, 0⟩, 0) := by simp [Chart.act, k0', k1', k2', k3, hm]
      rw [ha]
      simp only [run0, run1, run2, run3, run4, noSlot, ownS, ownK, memN, RO.dst, lk, drop, forget, number, Nat.reduceBEq, cut?, splice?, builds, List.length_cons, List.length_nil, List.drop_succ_cons, List.drop_zero, List.take_succ_cons, List.take_zero, List.cons_append, List.nil_append, List.append_nil, List.drop_nil, List.take_nil, Nat.reduceAdd, Nat.reduceLeDiff, Nat.zero_add, Nat.add_zero, ↓reduceIte, Bool.not_true, Bool.not_false, decide_true, decide_false, eq_self, bne_self_eq_false, List.getElem?_cons_zero, List.getElem?_cons_succ, decide_eq_true_eq, Bool.false_eq_true, Bool.true_eq_false, reduceCtorEq, Nat.le_refl, MapCmd.enc, hh0, hl0, e1, hl1, e2, k1, k2, hl2, hep, e3, hl3, hxi, hld, evPtrs, capV_cons, k0', k1', k2', k3, k4, hm, hepr]
      exact ⟨_, _, _, rfl, oh3, ⟨y, _, rfl, rfl, u3⟩, nx r1⟩
end
end Go.Proofs.Ytcdlbjomdokmiaa.A
/- A command done with a chart, as the laws need it. -/
namespace Go.Proofs.Ytcdlbjomdokmiaa.A
open Go
set_option linter.unusedSimpArgs false
set_option linter.unusedVariables false
theorem doMap_bad {c : Chart} (h : c.good = false) (q : MapCmd) : doMap c q = (c, 1) := by simp [doMap, h]
theorem doMap_small {c : Chart} (sm : c.Small) (q : MapCmd) : (doMap c q).1.Small := by
  cases hg : c.good with
  | false => rw [doMap_bad hg]; exact sm
  | true =>
    have h1 := doMap_len c q
    have h2 := (rangesOk_fit (Chart.good_ranges hg)).few
    show (doMap c q).1.ranges.length ≤ 1048576
    omega
section
variable {F : Nat → Option RF} {Z : CallF} {h : Heap} {cs : List Cell} {c : Chart} {fp : List Nat}
theorem DoMap_c (hI11 : Has F tI11) (hI12 : Has F tI12) (hLi : Has F tLibslicesIndexFuncimplRangeimplRange) (pr1 : PrimAt F Z 269 (insF 7 24)) (pr2 : PrimAt F Z 270 (delF 7)) (hf : h.floor ≤ h.next) (v : Chart.RI h cs c fp) (q : MapCmd) (okq : q.Ok) (ok : c.Ok) (sm : c.Small) :
    ∃ cs' h' fq, call F Z 181 [.agg cs, .agg q.enc] h = some (.tup [.agg cs', .c (.int .i64 (doMap c q).2)], h') ∧ On h h' ∧ Chart.RI h' cs' (doMap c q).1 fq ∧ Fre h fq := by
  obtain ⟨l1, l2, l3⟩ := Chart.lenI v
  obtain ⟨cs', h', fq, e, o, u, f⟩ := doMap_c (Z := Z) hI11 hI12 hLi pr1 pr2 hf v q okq ok sm
  obtain ⟨k1, k2, k3⟩ := Chart.lenI u
  rw [call_run F Z (hI12.lk (g := 181) rfl) _ _ rfl]
  simp only [run0, run1, run2, run3, run4, noSlot, ownS, ownK, memN, RO.dst, lk, drop, forget, number, Nat.reduceBEq, cut?, splice?, builds, List.length_cons, List.length_nil, List.drop_succ_cons, List.drop_zero, List.take_succ_cons, List.take_zero, List.cons_append, List.nil_append, List.append_nil, List.drop_nil, List.take_nil, Nat.reduceAdd, Nat.reduceLeDiff, Nat.zero_add, Nat.add_zero, ↓reduceIte, Bool.not_true, Bool.not_false, decide_true, decide_false, eq_self, bne_self_eq_false, List.getElem?_cons_zero, List.getElem?_cons_succ, decide_eq_true_eq, Bool.false_eq_true, Bool.true_eq_false, reduceCtorEq, Nat.le_refl, MapCmd.len, MapCmd.tak, l1, l2, l3, e, k1, k2, k3]
  exact ⟨_, _, _, rfl, o, u, f⟩
end
end Go.Proofs.Ytcdlbjomdokmiaa.A
/- What the converters of MapCmd compute. -/
namespace Go.Proofs.Ytcdlbjomdokmiaa.A
open Go
set_option linter.unusedSimpArgs false
set_option linter.unusedVariables false
section
variable {F : Nat → Option RF} {Z : CallF} {h : Heap} {x y : Cell} {xs ys : List MapCmd} {fp fq : List Nat}
def MapCmd.zero : List Cell := [.int .i64 0, .int .u64 0, .int .i64 0]
theorem toMapCmd_run (hL : Has F tLMapCmd) (p : MapCmd) (h : Heap) : call F Z 179 [.agg p.enc] h = some (.agg p.enc, h) := by
  rw [call_run F Z (hL.lk (g := 179) rfl) _ _ rfl]
  simp only [MapCmd.enc, run0, run1, run2, run3, run4, noSlot, ownS, ownK, memN, RO.dst, lk, drop, forget, number, Nat.reduceBEq, cut?, splice?, builds, List.length_cons, List.length_nil, List.drop_succ_cons, List.drop_zero, List.take_succ_cons, List.take_zero, List.cons_append, List.nil_append, List.append_nil, List.drop_nil, List.take_nil, Nat.reduceAdd, Nat.reduceLeDiff, Nat.zero_add, Nat.add_zero, ↓reduceIte, Bool.not_true, Bool.not_false, decide_true, decide_false, eq_self, bne_self_eq_false, List.getElem?_cons_zero, List.getElem?_cons_succ, decide_eq_true_eq, Bool.false_eq_true, Bool.true_eq_false, reduceCtorEq, Nat.le_refl]
set_option maxHeartbeats 1000000 in
theorem eqMapCmd_run (hL : Has F tLMapCmd) (p q : MapCmd) (h : Heap) : call F Z 369 [.agg p.enc, .agg q.enc] h = some (.c (.bool (decide (p = q))), h) := by
  rw [call_run F Z (hL.lk (g := 369) rfl) _ _ rfl]
  obtain ⟨kind1, at_1, group1⟩ := p
  obtain ⟨kind2, at_2, group2⟩ := q
  simp only [MapCmd.enc, run0, run1, run2, run3, run4, noSlot, ownS, ownK, memN, RO.dst, lk, drop, forget, number, Nat.reduceBEq, cut?, splice?, builds, List.length_cons, List.length_nil, List.drop_succ_cons, List.drop_zero, List.take_succ_cons, List.take_zero, List.cons_append, List.nil_append, List.append_nil, List.drop_nil, List.take_nil, Nat.reduceAdd, Nat.reduceLeDiff, Nat.zero_add, Nat.add_zero, ↓reduceIte, Bool.not_true, Bool.not_false, decide_true, decide_false, eq_self, bne_self_eq_false, List.getElem?_cons_zero, List.getElem?_cons_succ, decide_eq_true_eq, Bool.false_eq_true, Bool.true_eq_false, reduceCtorEq, Nat.le_refl]
  (repeat' ((first | (rw [gF_if]; split) | (rw [condC_if]; split) | (rw [pickR_if]; split)) <;> (rename_i hh; (try simp only [Bool.not_eq_true, decide_eq_true_eq] at hh); simp only [hh, run0, run1, run2, run3, run4, noSlot, ownS, ownK, memN, RO.dst, lk, drop, forget, number, Nat.reduceBEq, cut?, splice?, builds, List.length_cons, List.length_nil, List.drop_succ_cons, List.drop_zero, List.take_succ_cons, List.take_zero, List.cons_append, List.nil_append, List.append_nil, List.drop_nil, List.take_nil, Nat.reduceAdd, Nat.reduceLeDiff, Nat.zero_add, Nat.add_zero, ↓reduceIte, Bool.not_true, Bool.not_false, decide_true, decide_false, eq_self, bne_self_eq_false, List.getElem?_cons_zero, List.getElem?_cons_succ, decide_eq_true_eq, Bool.false_eq_true, Bool.true_eq_false, reduceCtorEq, Nat.le_refl]))) <;> refine fin_bool ?_ <;> simp_all <;> (try (intros; omega))
theorem szMapCmdS_run (hL : Has F tLMapCmd) (w : SlR 21 (Fl MapCmd.enc) h x xs fp) (left : Int) (h1 : 0 ≤ left) (h2 : left ≤ 1048576) : call F Z 355 [.c x, .c (.int .i64 left)] h = some (.c (.int .i64 (if left - xs.length < 0 then -1 else left - xs.length)), h) := by
  have := w.le2
  rw [call_run F Z (hL.lk (g := 355) rfl) _ _ rfl]
  simp only [run0, run1, run2, run3, run4, noSlot, ownS, ownK, memN, RO.dst, lk, drop, forget, number, Nat.reduceBEq, cut?, splice?, builds, List.length_cons, List.length_nil, List.drop_succ_cons, List.drop_zero, List.take_succ_cons, List.take_zero, List.cons_append, List.nil_append, List.append_nil, List.drop_nil, List.take_nil, Nat.reduceAdd, Nat.reduceLeDiff, Nat.zero_add, Nat.add_zero, ↓reduceIte, Bool.not_true, Bool.not_false, decide_true, decide_false, eq_self, bne_self_eq_false, List.getElem?_cons_zero, List.getElem?_cons_succ, decide_eq_true_eq, Bool.false_eq_true, Bool.true_eq_false, reduceCtorEq, Nat.le_refl, w.len, wrapI (left - xs.length) (by omega) (by omega)]
  (repeat' ((first | (rw [gF_if]; split) | (rw [condC_if]; split) | (rw [pickR_if]; split)) <;> (rename_i hh; (try simp only [Bool.not_eq_true, decide_eq_true_eq] at hh); simp only [hh, run0, run1, run2, run3, run4, noSlot, ownS, ownK, memN, RO.dst, lk, drop, forget, number, Nat.reduceBEq, cut?, splice?, builds, List.length_cons, List.length_nil, List.drop_succ_cons, List.drop_zero, List.take_succ_cons, List.take_zero, List.cons_append, List.nil_append, List.append_nil, List.drop_nil, List.take_nil, Nat.reduceAdd, Nat.reduceLeDiff, Nat.zero_add, Nat.add_zero, ↓reduceIte, Bool.not_true, Bool.not_false, decide_true, decide_false, eq_self, bne_self_eq_false, List.getElem?_cons_zero, List.getElem?_cons_succ, decide_eq_true_eq, Bool.false_eq_true, Bool.true_eq_false, reduceCtorEq, Nat.le_refl]))) <;> simp_all
theorem szMapCmdS_c (hL : Has F tLMapCmd) (w : SlR 21 (Fl MapCmd.enc) h x xs fp) (left : Int) (h1 : 0 ≤ left) (h2 : left ≤ 1048576) : ∃ r, call F Z 355 [.c x, .c (.int .i64 left)] h = some (.c (.int .i64 r), h) ∧ r ≤ left ∧ (0 ≤ r → xs.length ≤ 1048576) :=
  ⟨_, szMapCmdS_run hL w left h1 h2, by split <;> omega, by split <;> omega⟩
theorem toMapCmd_lit (hL : Has F tLMapCmd) (kind1 at_1 group1 : Int) (h : Heap) : call F Z 179 [.agg [.int .i64 kind1, .int .u64 at_1, .int .i64 group1]] h = some (.agg [.int .i64 kind1, .int .u64 at_1, .int .i64 group1], h) := toMapCmd_run hL ⟨kind1, at_1, group1⟩ h
theorem eqMapCmd_lit (hL : Has F tLMapCmd) (kind1 at_1 group1 kind2 at_2 group2 : Int) (h : Heap) : call F Z 369 [.agg [.int .i64 kind1, .int .u64 at_1, .int .i64 group1], .agg [.int .i64 kind2, .int .u64 at_2, .int .i64 group2]] h = some (.c (.bool (decide ((⟨kind1, at_1, group1⟩ : MapCmd) = ⟨kind2, at_2, group2⟩))), h) := eqMapCmd_run hL ⟨kind1, at_1, group1⟩ ⟨kind2, at_2, group2⟩ h
theorem toMapCmdS_run (hL : Has F tLMapCmd) (hf : h.floor ≤ h.next) (w : SlR 21 (Fl MapCmd.enc) h x xs fp) (hn : xs.length ≤ 1048576) : call F Z 356 [.c x] h = some (.c (.sl 14 h.next 0 xs.length), h.push (xs.map MapCmd.enc)) := by
  rw [call_run F Z (hL.lk (g := 356) rfl) _ _ rfl]
  simp only [run0, run1, run2, run3, run4, noSlot, ownS, ownK, memN, RO.dst, lk, drop, forget, number, Nat.reduceBEq, cut?, splice?, builds, List.length_cons, List.length_nil, List.drop_succ_cons, List.drop_zero, List.take_succ_cons, List.take_zero, List.cons_append, List.nil_append, List.append_nil, List.drop_nil, List.take_nil, Nat.reduceAdd, Nat.reduceLeDiff, Nat.zero_add, Nat.add_zero, ↓reduceIte, Bool.not_true, Bool.not_false, decide_true, decide_false, eq_self, bne_self_eq_false, List.getElem?_cons_zero, List.getElem?_cons_succ, decide_eq_true_eq, Bool.false_eq_true, Bool.true_eq_false, reduceCtorEq, Nat.le_refl, w.len]
  rw [if_pos (by omega)]
  simp only [run0, run1, run2, run3, run4, noSlot, ownS, ownK, memN, RO.dst, lk, drop, forget, number, Nat.reduceBEq, cut?, splice?, builds, List.length_cons, List.length_nil, List.drop_succ_cons, List.drop_zero, List.take_succ_cons, List.take_zero, List.cons_append, List.nil_append, List.append_nil, List.drop_nil, List.take_nil, Nat.reduceAdd, Nat.reduceLeDiff, Nat.zero_add, Nat.add_zero, ↓reduceIte, Bool.not_true, Bool.not_false, decide_true, decide_false, eq_self, bne_self_eq_false, List.getElem?_cons_zero, List.getElem?_cons_succ, decide_eq_true_eq, Bool.false_eq_true, Bool.true_eq_false, reduceCtorEq, Nat.le_refl, Int.toNat_natCast]
  have key : loop F Z [0, 3, 4] r356L0 ⟨[(0, .c x), (3, .c (.sl 14 h.next 0 xs.length)), (4, .c (.int .i64 (0 : Nat)))], [], [], h.push (fillR MapCmd.enc MapCmd.zero xs 0)⟩ = loop F Z [0, 3, 4] r356L0 ⟨[(0, .c x), (3, .c (.sl 14 h.next 0 xs.length)), (4, .c (.int .i64 (xs.length : Nat)))], [], [], h.push (fillR MapCmd.enc MapCmd.zero xs xs.length)⟩ :=
    loop_goesF xs.length (fun i => ⟨[(0, .c x), (3, .c (.sl 14 h.next 0 xs.length)), (4, .c (.int .i64 (i : Nat)))], [], [], h.push (fillR MapCmd.enc MapCmd.zero xs i)⟩) fun i hi => by
      have w' := w.mono (Fl.ok _) (HExt.push h (fillR MapCmd.enc MapCmd.zero xs i))
      have hlt : (i : Int) < xs.length := by omega
      have h0 : (0 : Int) ≤ i := by omega
      rw [loop_run]
      simp only [r356L0, run0, run1, run2, run3, run4, noSlot, ownS, ownK, memN, RO.dst, lk, drop, forget, number, Nat.reduceBEq, cut?, splice?, builds, List.length_cons, List.length_nil, List.drop_succ_cons, List.drop_zero, List.take_succ_cons, List.take_zero, List.cons_append, List.nil_append, List.append_nil, List.drop_nil, List.take_nil, Nat.reduceAdd, Nat.reduceLeDiff, Nat.zero_add, Nat.add_zero, ↓reduceIte, Bool.not_true, Bool.not_false, decide_true, decide_false, eq_self, bne_self_eq_false, List.getElem?_cons_zero, List.getElem?_cons_succ, decide_eq_true_eq, Bool.false_eq_true, Bool.true_eq_false, reduceCtorEq, Nat.le_refl, w.len, hlt, w.idx hi, w'.load hi, MapCmd.len, MapCmd.tak, toMapCmd_run hL, h0, and_self, Int.toNat_natCast, storeP_push hf (fillR_get MapCmd.enc MapCmd.zero xs hi) (MapCmd.len xs[i]), wrapS i (by omega)]
      rw [← fillR_set MapCmd.enc MapCmd.zero xs hi]
  rw [fillR_0] at key
  rw [fillR_n] at key
  rw [show ((0 : Nat) : Int) = 0 from rfl] at key
  simp only [MapCmd.zero] at key
  rw [key, loop_run]
  have hlt : ¬ (xs.length : Int) < xs.length := by omega
  simp only [r356L0, run0, run1, run2, run3, run4, noSlot, ownS, ownK, memN, RO.dst, lk, drop, forget, number, Nat.reduceBEq, cut?, splice?, builds, List.length_cons, List.length_nil, List.drop_succ_cons, List.drop_zero, List.take_succ_cons, List.take_zero, List.cons_append, List.nil_append, List.append_nil, List.drop_nil, List.take_nil, Nat.reduceAdd, Nat.reduceLeDiff, Nat.zero_add, Nat.add_zero, ↓reduceIte, Bool.not_true, Bool.not_false, decide_true, decide_false, eq_self, bne_self_eq_false, List.getElem?_cons_zero, List.getElem?_cons_succ, decide_eq_true_eq, Bool.false_eq_true, Bool.true_eq_false, reduceCtorEq, Nat.le_refl, w.len, hlt]
theorem toMapCmdS_c (hL : Has F tLMapCmd) (hf : h.floor ≤ h.next) (w : SlR 21 (Fl MapCmd.enc) h x xs fp) (hn : xs.length ≤ 1048576) : ∃ y h' fq, call F Z 356 [.c x] h = some (.c y, h') ∧ On h h' ∧ SlR 14 (Fl MapCmd.enc) h' y xs fq ∧ Fre h fq :=
  ⟨_, _, _, toMapCmdS_run hL hf w hn, On.push _ _, SlR.ofFlat w.le (push_get _ _) (by rw [push_next]; omega), Fre.one h⟩
theorem eqMapCmdS_run (hL : Has F tLMapCmd) (w : SlR 14 (Fl MapCmd.enc) h x xs fp) (v : SlR 14 (Fl MapCmd.enc) h y ys fq) : call F Z 357 [.c x, .c y] h = some (.c (.bool (decide (xs = ys))), h) := by
  have hw := w.le2
  have hv := v.le2
  rw [call_run F Z (hL.lk (g := 357) rfl) _ _ rfl]
  simp only [run0, run1, run2, run3, run4, noSlot, ownS, ownK, memN, RO.dst, lk, drop, forget, number, Nat.reduceBEq, cut?, splice?, builds, List.length_cons, List.length_nil, List.drop_succ_cons, List.drop_zero, List.take_succ_cons, List.take_zero, List.cons_append, List.nil_append, List.append_nil, List.drop_nil, List.take_nil, Nat.reduceAdd, Nat.reduceLeDiff, Nat.zero_add, Nat.add_zero, ↓reduceIte, Bool.not_true, Bool.not_false, decide_true, decide_false, eq_self, bne_self_eq_false, List.getElem?_cons_zero, List.getElem?_cons_succ, decide_eq_true_eq, Bool.false_eq_true, Bool.true_eq_false, reduceCtorEq, Nat.le_refl, w.len, v.len]
  rw [condC_if]
  split
  · rename_i hne
    have : xs ≠ ys := by rintro rfl; simp at hne
    simp only [run0, run1, run2, run3, run4, noSlot, ownS, ownK, memN, RO.dst, lk, drop, forget, number, Nat.reduceBEq, cut?, splice?, builds, List.length_cons, List.length_nil, List.drop_succ_cons, List.drop_zero, List.take_succ_cons, List.take_zero, List.cons_append, List.nil_append, List.append_nil, List.drop_nil, List.take_nil, Nat.reduceAdd, Nat.reduceLeDiff, Nat.zero_add, Nat.add_zero, ↓reduceIte, Bool.not_true, Bool.not_false, decide_true, decide_false, eq_self, bne_self_eq_false, List.getElem?_cons_zero, List.getElem?_cons_succ, decide_eq_true_eq, Bool.false_eq_true, Bool.true_eq_false, reduceCtorEq, Nat.le_refl, this]
  · rename_i he
    have he : xs.length = ys.length := by simp at he; omega
    simp only [run0, run1, run2, run3, run4, noSlot, ownS, ownK, memN, RO.dst, lk, drop, forget, number, Nat.reduceBEq, cut?, splice?, builds, List.length_cons, List.length_nil, List.drop_succ_cons, List.drop_zero, List.take_succ_cons, List.take_zero, List.cons_append, List.nil_append, List.append_nil, List.drop_nil, List.take_nil, Nat.reduceAdd, Nat.reduceLeDiff, Nat.zero_add, Nat.add_zero, ↓reduceIte, Bool.not_true, Bool.not_false, decide_true, decide_false, eq_self, bne_self_eq_false, List.getElem?_cons_zero, List.getElem?_cons_succ, decide_eq_true_eq, Bool.false_eq_true, Bool.true_eq_false, reduceCtorEq, Nat.le_refl]
    have key := loop_allN (F := F) (Z := Z) (live := [0, 1, 5]) (b := r357L0) xs.length (fun i => ⟨[(0, .c x), (1, .c y), (5, .c (.int .i64 (i : Nat)))], [], [], h⟩) (fun i => decide (xs[i]? = ys[i]?)) (fun s => lk s.env 4 = some (.c (.bool false)) ∧ s.hp = h) fun i hi => by
      have hi' : i < ys.length := by omega
      have hlt : (i : Int) < xs.length := by omega
      rw [loop_run]
      simp only [r357L0, run0, run1, run2, run3, run4, noSlot, ownS, ownK, memN, RO.dst, lk, drop, forget, number, Nat.reduceBEq, cut?, splice?, builds, List.length_cons, List.length_nil, List.drop_succ_cons, List.drop_zero, List.take_succ_cons, List.take_zero, List.cons_append, List.nil_append, List.append_nil, List.drop_nil, List.take_nil, Nat.reduceAdd, Nat.reduceLeDiff, Nat.zero_add, Nat.add_zero, ↓reduceIte, Bool.not_true, Bool.not_false, decide_true, decide_false, eq_self, bne_self_eq_false, List.getElem?_cons_zero, List.getElem?_cons_succ, decide_eq_true_eq, Bool.false_eq_true, Bool.true_eq_false, reduceCtorEq, Nat.le_refl, w.len, hlt, w.idx hi, v.idx hi', w.load hi, v.load hi', MapCmd.len, MapCmd.tak, eqMapCmd_run hL, wrapS i (by omega)]
      rw [List.getElem?_eq_getElem hi, List.getElem?_eq_getElem hi']
      (repeat' ((first | (rw [gF_if]; split) | (rw [condC_if]; split) | (rw [pickR_if]; split)) <;> (rename_i hh; (try simp only [Bool.not_eq_true, decide_eq_true_eq] at hh); simp only [hh, run0, run1, run2, run3, run4, noSlot, ownS, ownK, memN, RO.dst, lk, drop, forget, number, Nat.reduceBEq, cut?, splice?, builds, List.length_cons, List.length_nil, List.drop_succ_cons, List.drop_zero, List.take_succ_cons, List.take_zero, List.cons_append, List.nil_append, List.append_nil, List.drop_nil, List.take_nil, Nat.reduceAdd, Nat.reduceLeDiff, Nat.zero_add, Nat.add_zero, ↓reduceIte, Bool.not_true, Bool.not_false, decide_true, decide_false, eq_self, bne_self_eq_false, List.getElem?_cons_zero, List.getElem?_cons_succ, decide_eq_true_eq, Bool.false_eq_true, Bool.true_eq_false, reduceCtorEq, Nat.le_refl, wrapS i (by omega)])))
      · exact .inr ⟨by simp_all, _, rfl, rfl, rfl⟩
      · exact .inl ⟨by simp_all, rfl⟩
    rw [all_same he] at key
    rcases key with ⟨k1, k2⟩ | ⟨k1, s, k2, k3, k4⟩
    · simp only [show ((0 : Nat) : Int) = 0 from rfl] at k2
      rw [k2, loop_run]
      have hlt : ¬ (xs.length : Int) < xs.length := by omega
      simp only [r357L0, run0, run1, run2, run3, run4, noSlot, ownS, ownK, memN, RO.dst, lk, drop, forget, number, Nat.reduceBEq, cut?, splice?, builds, List.length_cons, List.length_nil, List.drop_succ_cons, List.drop_zero, List.take_succ_cons, List.take_zero, List.cons_append, List.nil_append, List.append_nil, List.drop_nil, List.take_nil, Nat.reduceAdd, Nat.reduceLeDiff, Nat.zero_add, Nat.add_zero, ↓reduceIte, Bool.not_true, Bool.not_false, decide_true, decide_false, eq_self, bne_self_eq_false, List.getElem?_cons_zero, List.getElem?_cons_succ, decide_eq_true_eq, Bool.false_eq_true, Bool.true_eq_false, reduceCtorEq, Nat.le_refl, w.len, hlt, k1]
    · simp only [show ((0 : Nat) : Int) = 0 from rfl] at k2
      rw [k2]
      simp only [run0, run1, run2, run3, run4, noSlot, ownS, ownK, memN, RO.dst, lk, drop, forget, number, Nat.reduceBEq, cut?, splice?, builds, List.length_cons, List.length_nil, List.drop_succ_cons, List.drop_zero, List.take_succ_cons, List.take_zero, List.cons_append, List.nil_append, List.append_nil, List.drop_nil, List.take_nil, Nat.reduceAdd, Nat.reduceLeDiff, Nat.zero_add, Nat.add_zero, ↓reduceIte, Bool.not_true, Bool.not_false, decide_true, decide_false, eq_self, bne_self_eq_false, List.getElem?_cons_zero, List.getElem?_cons_succ, decide_eq_true_eq, Bool.false_eq_true, Bool.true_eq_false, reduceCtorEq, Nat.le_refl, k3, k4, k1]
/-- What is written to mark one. -/
def MapCmd.mk_ (k : Int) : MapCmd := ⟨k, k + 1, k + 1 + 1⟩
def MapCmd.marks (n : Nat) (k : Int) : List MapCmd := (List.range n).map fun i : Nat => MapCmd.mk_ (k + 3 * (i : Int))
theorem MapCmd.marks_len (n : Nat) (k : Int) : (MapCmd.marks n k).length = n := by simp [MapCmd.marks]
set_option maxHeartbeats 1000000 in
theorem markMapCmdS_run (hL : Has F tLMapCmd) (w : SlR 14 (Fl MapCmd.enc) h x xs fp) (hlo : ∀ id, id ∈ fp → h.floor ≤ id) (k : Int) (h1 : 0 ≤ k) (h2 : k + 3 * xs.length ≤ 9200000000000000000) :
    ∃ h', call F Z 358 [.c x, .c (.int .i64 k)] h = some (.c (.int .i64 (k + 3 * xs.length)), h') ∧ Mk h h' fp ∧ SlR 14 (Fl MapCmd.enc) h' x (MapCmd.marks xs.length k) fp := by
  have hle := w.le2
  have hlm := MapCmd.marks_len xs.length k
  rw [call_run F Z (hL.lk (g := 358) rfl) _ _ rfl]
  simp only [run0, run1, run2, run3, run4, noSlot, ownS, ownK, memN, RO.dst, lk, drop, forget, number, Nat.reduceBEq, cut?, splice?, builds, List.length_cons, List.length_nil, List.drop_succ_cons, List.drop_zero, List.take_succ_cons, List.take_zero, List.cons_append, List.nil_append, List.append_nil, List.drop_nil, List.take_nil, Nat.reduceAdd, Nat.reduceLeDiff, Nat.zero_add, Nat.add_zero, ↓reduceIte, Bool.not_true, Bool.not_false, decide_true, decide_false, eq_self, bne_self_eq_false, List.getElem?_cons_zero, List.getElem?_cons_succ, decide_eq_true_eq, Bool.false_eq_true, Bool.true_eq_false, reduceCtorEq, Nat.le_refl]
  rcases w.flat with ⟨rfl, rfl, rfl⟩ | ⟨hx, hg, hn, rfl⟩
  · rw [loop_run]
    simp only [r358L0, run0, run1, run2, run3, run4, noSlot, ownS, ownK, memN, RO.dst, lk, drop, forget, number, Nat.reduceBEq, cut?, splice?, builds, List.length_cons, List.length_nil, List.drop_succ_cons, List.drop_zero, List.take_succ_cons, List.take_zero, List.cons_append, List.nil_append, List.append_nil, List.drop_nil, List.take_nil, Nat.reduceAdd, Nat.reduceLeDiff, Nat.zero_add, Nat.add_zero, ↓reduceIte, Bool.not_true, Bool.not_false, decide_true, decide_false, eq_self, bne_self_eq_false, List.getElem?_cons_zero, List.getElem?_cons_succ, decide_eq_true_eq, Bool.false_eq_true, Bool.true_eq_false, reduceCtorEq, Nat.le_refl, show ¬ ((0 : Int) < 0) from by omega]
    exact ⟨h, by simp, Mk.refl _ _, by simpa [MapCmd.marks] using w⟩
  · have hfl : h.floor ≤ x.sid := hlo _ (by simp)
    have key : loop F Z [0, 1, 5] r358L0 ⟨[(0, .c x), (1, .c (.int .i64 (k + 3 * (0 : Nat)))), (5, .c (.int .i64 (0 : Nat)))], [], [], h.put x.sid (mixR MapCmd.enc (MapCmd.marks xs.length k) xs 0)⟩ = loop F Z [0, 1, 5] r358L0 ⟨[(0, .c x), (1, .c (.int .i64 (k + 3 * (xs.length : Nat)))), (5, .c (.int .i64 (xs.length : Nat)))], [], [], h.put x.sid (mixR MapCmd.enc (MapCmd.marks xs.length k) xs xs.length)⟩ :=
      loop_goesF xs.length (fun i => ⟨[(0, .c x), (1, .c (.int .i64 (k + 3 * (i : Nat)))), (5, .c (.int .i64 (i : Nat)))], [], [], h.put x.sid (mixR MapCmd.enc (MapCmd.marks xs.length k) xs i)⟩) fun i hi => by
        have hlt : (i : Int) < xs.length := by omega
        have hi2 : i < (mixR MapCmd.enc (MapCmd.marks xs.length k) xs i).length := by rw [mixR_len _ hlm]; exact hi
        have hms : (MapCmd.marks xs.length k)[i]'(by omega) = MapCmd.mk_ (k + 3 * i) := by simp [MapCmd.marks]
        have hset := mixR_set MapCmd.enc hlm hi
        rw [hms] at hset
        have hput := storeP_put (h := h) hfl hi2
        rw [← mixR_cur MapCmd.enc hlm hi, ← hset, loop_run]
        simp (disch := omega) only [r358L0, run0, run1, run2, run3, run4, noSlot, ownS, ownK, memN, RO.dst, lk, drop, forget, number, Nat.reduceBEq, cut?, splice?, builds, List.length_cons, List.length_nil, List.drop_succ_cons, List.drop_zero, List.take_succ_cons, List.take_zero, List.cons_append, List.nil_append, List.append_nil, List.drop_nil, List.take_nil, Nat.reduceAdd, Nat.reduceLeDiff, Nat.zero_add, Nat.add_zero, ↓reduceIte, Bool.not_true, Bool.not_false, decide_true, decide_false, eq_self, bne_self_eq_false, List.getElem?_cons_zero, List.getElem?_cons_succ, decide_eq_true_eq, Bool.false_eq_true, Bool.true_eq_false, reduceCtorEq, Nat.le_refl, w.len, hlt, w.idx hi, hput, putM_s, wrapI1, wrapU1, MapCmd.enc, Int.reduceEq, MapCmd.mk_]
        rw [show k + 3 * ((i : Nat) : Int) + 1 + 1 + 1 = k + 3 * ((i + 1 : Nat) : Int) from by omega, show ((i : Nat) : Int) + 1 = ((i + 1 : Nat) : Int) from rfl]
    rw [mixR_0, put_same hg, mixR_n _ hlm] at key
    simp only [show ((0 : Nat) : Int) = 0 from rfl, Int.mul_zero, Int.add_zero] at key
    rw [key, loop_run]
    have hlt : ¬ (xs.length : Int) < xs.length := by omega
    simp only [r358L0, run0, run1, run2, run3, run4, noSlot, ownS, ownK, memN, RO.dst, lk, drop, forget, number, Nat.reduceBEq, cut?, splice?, builds, List.length_cons, List.length_nil, List.drop_succ_cons, List.drop_zero, List.take_succ_cons, List.take_zero, List.cons_append, List.nil_append, List.append_nil, List.drop_nil, List.take_nil, Nat.reduceAdd, Nat.reduceLeDiff, Nat.zero_add, Nat.add_zero, ↓reduceIte, Bool.not_true, Bool.not_false, decide_true, decide_false, eq_self, bne_self_eq_false, List.getElem?_cons_zero, List.getElem?_cons_succ, decide_eq_true_eq, Bool.false_eq_true, Bool.true_eq_false, reduceCtorEq, Nat.le_refl, w.len, hlt]
    refine ⟨_, rfl, Mk.put _ _ _, ?_⟩
    have := SlR.ofFlat (tag := 14) (h := h.put x.sid ((MapCmd.marks xs.length k).map MapCmd.enc)) (enc := MapCmd.enc) (xs := MapCmd.marks xs.length k) (id := x.sid) (by rw [hlm]; exact w.le) (by simp [Heap.put]) hn
    rw [hlm, ← hx] at this
    exact this
end
end Go.Proofs.Ytcdlbjomdokmiaa.A
/- What the converters of Int compute. -/
namespace Go.Proofs.Ytcdlbjomdokmiaa.A
open Go
set_option linter.unusedSimpArgs false
set_option linter.unusedVariables false
def int_enc (b : Int) : List Cell := [.int .i64 b]
theorem int_enc_len (b : Int) : (int_enc b).length = 1 := rfl
theorem int_enc_tak (b : Int) : (int_enc b).take 1 = int_enc b := rfl
section
variable {F : Nat → Option RF} {Z : CallF} {h : Heap} {x y : Cell} {xs ys : List Int} {fp fq : List Nat}
def int_zero : List Cell := [.int .i64 0]
theorem eqIntS_run (hL : Has F tLInt) (w : SlR 15 (Fl int_enc) h x xs fp) (v : SlR 15 (Fl int_enc) h y ys fq) : call F Z 285 [.c x, .c y] h = some (.c (.bool (decide (xs = ys))), h) := by
  have hw := w.le2
  have hv := v.le2
  rw [call_run F Z (hL.lk (g := 285) rfl) _ _ rfl]
  simp only [run0, run1, run2, run3, run4, noSlot, ownS, ownK, memN, RO.dst, lk, drop, forget, number, Nat.reduceBEq, cut?, splice?, builds, List.length_cons, List.length_nil, List.drop_succ_cons, List.drop_zero, List.take_succ_cons, List.take_zero, List.cons_append, List.nil_append, List.append_nil, List.drop_nil, List.take_nil, Nat.reduceAdd, Nat.reduceLeDiff, Nat.zero_add, Nat.add_zero, ↓reduceIte, Bool.not_true, Bool.not_false, decide_true, decide_false, eq_self, bne_self_eq_false, List.getElem?_cons_zero, List.getElem?_cons_succ, decide_eq_true_eq, Bool.false_eq_true, Bool.true_eq_false, reduceCtorEq, Nat.le_refl, w.len, v.len]
  rw [condC_if]
  split
  · rename_i hne
    have : xs ≠ ys := by rintro rfl; simp at hne
    simp only [run0, run1, run2, run3, run4, noSlot, ownS, ownK, memN, RO.dst, lk, drop, forget, number, Nat.reduceBEq, cut?, splice?, builds, List.length_cons, List.length_nil, List.drop_succ_cons, List.drop_zero, List.take_succ_cons, List.take_zero, List.cons_append, List.nil_append, List.append_nil, List.drop_nil, List.take_nil, Nat.reduceAdd, Nat.reduceLeDiff, Nat.zero_add, Nat.add_zero, ↓reduceIte, Bool.not_true, Bool.not_false, decide_true, decide_false, eq_self, bne_self_eq_false, List.getElem?_cons_zero, List.getElem?_cons_succ, decide_eq_true_eq, Bool.false_eq_true, Bool.true_eq_false, reduceCtorEq, Nat.le_refl, this]
  · rename_i he
    have he : xs.length = ys.length := by simp at he; omega
    simp only [run0, run1, run2, run3, run4, noSlot, ownS, ownK, memN, RO.dst, lk, drop, forget, number, Nat.reduceBEq, cut?, splice?, builds, List.length_cons, List.length_nil, List.drop_succ_cons, List.drop_zero, List.take_succ_cons, List.take_zero, List.cons_append, List.nil_append, List.append_nil, List.drop_nil, List.take_nil, Nat.reduceAdd, Nat.reduceLeDiff, Nat.zero_add, Nat.add_zero, ↓reduceIte, Bool.not_true, Bool.not_false, decide_true, decide_false, eq_self, bne_self_eq_false, List.getElem?_cons_zero, List.getElem?_cons_succ, decide_eq_true_eq, Bool.false_eq_true, Bool.true_eq_false, reduceCtorEq, Nat.le_refl]
    have key := loop_allN (F := F) (Z := Z) (live := [0, 1, 5]) (b := r285L0) xs.length (fun i => ⟨[(0, .c x), (1, .c y), (5, .c (.int .i64 (i : Nat)))], [], [], h⟩) (fun i => decide (xs[i]? = ys[i]?)) (fun s => lk s.env 4 = some (.c (.bool false)) ∧ s.hp = h) fun i hi => by
      have hi' : i < ys.length := by omega
      have hlt : (i : Int) < xs.length := by omega
      rw [loop_run]
      simp only [r285L0, run0, run1, run2, run3, run4, noSlot, ownS, ownK, memN, RO.dst, lk, drop, forget, number, Nat.reduceBEq, cut?, splice?, builds, List.length_cons, List.length_nil, List.drop_succ_cons, List.drop_zero, List.take_succ_cons, List.take_zero, List.cons_append, List.nil_append, List.append_nil, List.drop_nil, List.take_nil, Nat.reduceAdd, Nat.reduceLeDiff, Nat.zero_add, Nat.add_zero, ↓reduceIte, Bool.not_true, Bool.not_false, decide_true, decide_false, eq_self, bne_self_eq_false, List.getElem?_cons_zero, List.getElem?_cons_succ, decide_eq_true_eq, Bool.false_eq_true, Bool.true_eq_false, reduceCtorEq, Nat.le_refl, w.len, hlt, w.idx hi, v.idx hi', w.load hi, v.load hi', int_enc, wrapS i (by omega)]
      rw [List.getElem?_eq_getElem hi, List.getElem?_eq_getElem hi']
      (repeat' ((first | (rw [gF_if]; split) | (rw [condC_if]; split) | (rw [pickR_if]; split)) <;> (rename_i hh; (try simp only [Bool.not_eq_true, decide_eq_true_eq] at hh); simp only [hh, run0, run1, run2, run3, run4, noSlot, ownS, ownK, memN, RO.dst, lk, drop, forget, number, Nat.reduceBEq, cut?, splice?, builds, List.length_cons, List.length_nil, List.drop_succ_cons, List.drop_zero, List.take_succ_cons, List.take_zero, List.cons_append, List.nil_append, List.append_nil, List.drop_nil, List.take_nil, Nat.reduceAdd, Nat.reduceLeDiff, Nat.zero_add, Nat.add_zero, ↓reduceIte, Bool.not_true, Bool.not_false, decide_true, decide_false, eq_self, bne_self_eq_false, List.getElem?_cons_zero, List.getElem?_cons_succ, decide_eq_true_eq, Bool.false_eq_true, Bool.true_eq_false, reduceCtorEq, Nat.le_refl, wrapS i (by omega)])))
      · exact .inr ⟨by simp_all, _, rfl, rfl, rfl⟩
      · exact .inl ⟨by simp_all, rfl⟩
    rw [all_same he] at key
    rcases key with ⟨k1, k2⟩ | ⟨k1, s, k2, k3, k4⟩
    · simp only [show ((0 : Nat) : Int) = 0 from rfl] at k2
      rw [k2, loop_run]
      have hlt : ¬ (xs.length : Int) < xs.length := by omega
      simp only [r285L0, run0, run1, run2, run3, run4, noSlot, ownS, ownK, memN, RO.dst, lk, drop, forget, number, Nat.reduceBEq, cut?, splice?, builds, List.length_cons, List.length_nil, List.drop_succ_cons, List.drop_zero, List.take_succ_cons, List.take_zero, List.cons_append, List.nil_append, List.append_nil, List.drop_nil, List.take_nil, Nat.reduceAdd, Nat.reduceLeDiff, Nat.zero_add, Nat.add_zero, ↓reduceIte, Bool.not_true, Bool.not_false, decide_true, decide_false, eq_self, bne_self_eq_false, List.getElem?_cons_zero, List.getElem?_cons_succ, decide_eq_true_eq, Bool.false_eq_true, Bool.true_eq_false, reduceCtorEq, Nat.le_refl, w.len, hlt, k1]
    · simp only [show ((0 : Nat) : Int) = 0 from rfl] at k2
      rw [k2]
      simp only [run0, run1, run2, run3, run4, noSlot, ownS, ownK, memN, RO.dst, lk, drop, forget, number, Nat.reduceBEq, cut?, splice?, builds, List.length_cons, List.length_nil, List.drop_succ_cons, List.drop_zero, List.take_succ_cons, List.take_zero, List.cons_append, List.nil_append, List.append_nil, List.drop_nil, List.take_nil, Nat.reduceAdd, Nat.reduceLeDiff, Nat.zero_add, Nat.add_zero, ↓reduceIte, Bool.not_true, Bool.not_false, decide_true, decide_false, eq_self, bne_self_eq_false, List.getElem?_cons_zero, List.getElem?_cons_succ, decide_eq_true_eq, Bool.false_eq_true, Bool.true_eq_false, reduceCtorEq, Nat.le_refl, k3, k4, k1]
/-- What is written to mark one. -/
def int_mk (k : Int) : Int := k
def int_marks (n : Nat) (k : Int) : List Int := (List.range n).map fun i : Nat => int_mk (k + 1 * (i : Int))
theorem int_marks_len (n : Nat) (k : Int) : (int_marks n k).length = n := by simp [int_marks]
set_option maxHeartbeats 1000000 in
theorem markIntS_run (hL : Has F tLInt) (w : SlR 15 (Fl int_enc) h x xs fp) (hlo : ∀ id, id ∈ fp → h.floor ≤ id) (k : Int) (h1 : 0 ≤ k) (h2 : k + 1 * xs.length ≤ 9200000000000000000) :
    ∃ h', call F Z 287 [.c x, .c (.int .i64 k)] h = some (.c (.int .i64 (k + 1 * xs.length)), h') ∧ Mk h h' fp ∧ SlR 15 (Fl int_enc) h' x (int_marks xs.length k) fp := by
  have hle := w.le2
  have hlm := int_marks_len xs.length k
  rw [call_run F Z (hL.lk (g := 287) rfl) _ _ rfl]
  simp only [run0, run1, run2, run3, run4, noSlot, ownS, ownK, memN, RO.dst, lk, drop, forget, number, Nat.reduceBEq, cut?, splice?, builds, List.length_cons, List.length_nil, List.drop_succ_cons, List.drop_zero, List.take_succ_cons, List.take_zero, List.cons_append, List.nil_append, List.append_nil, List.drop_nil, List.take_nil, Nat.reduceAdd, Nat.reduceLeDiff, Nat.zero_add, Nat.add_zero, ↓reduceIte, Bool.not_true, Bool.not_false, decide_true, decide_false, eq_self, bne_self_eq_false, List.getElem?_cons_zero, List.getElem?_cons_succ, decide_eq_true_eq, Bool.false_eq_true, Bool.true_eq_false, reduceCtorEq, Nat.le_refl]
  rcases w.flat with ⟨rfl, rfl, rfl⟩ | ⟨hx, hg, hn, rfl⟩
  · rw [loop_run]
    simp only [r287L0, run0, run1, run2, run3, run4, noSlot, ownS, ownK, memN, RO.dst, lk, drop, forget, number, Nat.reduceBEq, cut?, splice?, builds, List.length_cons, List.length_nil, List.drop_succ_cons, List.drop_zero, List.take_succ_cons, List.take_zero, List.cons_append, List.nil_append, List.append_nil, List.drop_nil, List.take_nil, Nat.reduceAdd, Nat.reduceLeDiff, Nat.zero_add, Nat.add_zero, ↓reduceIte, Bool.not_true, Bool.not_false, decide_true, decide_false, eq_self, bne_self_eq_false, List.getElem?_cons_zero, List.getElem?_cons_succ, decide_eq_true_eq, Bool.false_eq_true, Bool.true_eq_false, reduceCtorEq, Nat.le_refl, show ¬ ((0 : Int) < 0) from by omega]
    exact ⟨h, by simp, Mk.refl _ _, by simpa [int_marks] using w⟩
  · have hfl : h.floor ≤ x.sid := hlo _ (by simp)
    have key : loop F Z [0, 1, 5] r287L0 ⟨[(0, .c x), (1, .c (.int .i64 (k + 1 * (0 : Nat)))), (5, .c (.int .i64 (0 : Nat)))], [], [], h.put x.sid (mixR int_enc (int_marks xs.length k) xs 0)⟩ = loop F Z [0, 1, 5] r287L0 ⟨[(0, .c x), (1, .c (.int .i64 (k + 1 * (xs.length : Nat)))), (5, .c (.int .i64 (xs.length : Nat)))], [], [], h.put x.sid (mixR int_enc (int_marks xs.length k) xs xs.length)⟩ :=
      loop_goesF xs.length (fun i => ⟨[(0, .c x), (1, .c (.int .i64 (k + 1 * (i : Nat)))), (5, .c (.int .i64 (i : Nat)))], [], [], h.put x.sid (mixR int_enc (int_marks xs.length k) xs i)⟩) fun i hi => by
        have hlt : (i : Int) < xs.length := by omega
        have hi2 : i < (mixR int_enc (int_marks xs.length k) xs i).length := by rw [mixR_len _ hlm]; exact hi
        have hms : (int_marks xs.length k)[i]'(by omega) = int_mk (k + 1 * i) := by simp [int_marks]
        have hset := mixR_set int_enc hlm hi
        rw [hms] at hset
        have hput := storeP_put (h := h) hfl hi2
        rw [← mixR_cur int_enc hlm hi, ← hset, loop_run]
        simp (disch := omega) only [r287L0, run0, run1, run2, run3, run4, noSlot, ownS, ownK, memN, RO.dst, lk, drop, forget, number, Nat.reduceBEq, cut?, splice?, builds, List.length_cons, List.length_nil, List.drop_succ_cons, List.drop_zero, List.take_succ_cons, List.take_zero, List.cons_append, List.nil_append, List.append_nil, List.drop_nil, List.take_nil, Nat.reduceAdd, Nat.reduceLeDiff, Nat.zero_add, Nat.add_zero, ↓reduceIte, Bool.not_true, Bool.not_false, decide_true, decide_false, eq_self, bne_self_eq_false, List.getElem?_cons_zero, List.getElem?_cons_succ, decide_eq_true_eq, Bool.false_eq_true, Bool.true_eq_false, reduceCtorEq, Nat.le_refl, w.len, hlt, w.idx hi, hput, putM_s, wrapI1, wrapU1, int_enc, b_rem, beq_self_eq_true, Int.reduceEq, int_mk]
        rw [show k + 1 * ((i : Nat) : Int) + 1 = k + 1 * ((i + 1 : Nat) : Int) from by omega, show ((i : Nat) : Int) + 1 = ((i + 1 : Nat) : Int) from rfl]
    rw [mixR_0, put_same hg, mixR_n _ hlm] at key
    simp only [show ((0 : Nat) : Int) = 0 from rfl, Int.mul_zero, Int.add_zero] at key
    rw [key, loop_run]
    have hlt : ¬ (xs.length : Int) < xs.length := by omega
    simp only [r287L0, run0, run1, run2, run3, run4, noSlot, ownS, ownK, memN, RO.dst, lk, drop, forget, number, Nat.reduceBEq, cut?, splice?, builds, List.length_cons, List.length_nil, List.drop_succ_cons, List.drop_zero, List.take_succ_cons, List.take_zero, List.cons_append, List.nil_append, List.append_nil, List.drop_nil, List.take_nil, Nat.reduceAdd, Nat.reduceLeDiff, Nat.zero_add, Nat.add_zero, ↓reduceIte, Bool.not_true, Bool.not_false, decide_true, decide_false, eq_self, bne_self_eq_false, List.getElem?_cons_zero, List.getElem?_cons_succ, decide_eq_true_eq, Bool.false_eq_true, Bool.true_eq_false, reduceCtorEq, Nat.le_refl, w.len, hlt]
    refine ⟨_, rfl, Mk.put _ _ _, ?_⟩
    have := SlR.ofFlat (tag := 15) (h := h.put x.sid ((int_marks xs.length k).map int_enc)) (enc := int_enc) (xs := int_marks xs.length k) (id := x.sid) (by rw [hlm]; exact w.le) (by simp [Heap.put]) hn
    rw [hlm, ← hx] at this
    exact this
set_option maxHeartbeats 1000000 in
theorem heldIntS_run (hL : Has F tLInt) {n : Nat} {k : Int} (w : SlR 15 (Fl int_enc) h x (int_marks n k) fp) (h1 : 0 ≤ k) (h2 : k + 1 * n ≤ 9200000000000000000) :
    call F Z 288 [.c x, .c (.int .i64 k)] h = some (.c (.int .i64 (k + 1 * n)), h) := by
  have hle := w.le2
  have hwl := w.len
  rw [int_marks_len] at hle hwl
  rw [call_run F Z (hL.lk (g := 288) rfl) _ _ rfl]
  simp only [run0, run1, run2, run3, run4, noSlot, ownS, ownK, memN, RO.dst, lk, drop, forget, number, Nat.reduceBEq, cut?, splice?, builds, List.length_cons, List.length_nil, List.drop_succ_cons, List.drop_zero, List.take_succ_cons, List.take_zero, List.cons_append, List.nil_append, List.append_nil, List.drop_nil, List.take_nil, Nat.reduceAdd, Nat.reduceLeDiff, Nat.zero_add, Nat.add_zero, ↓reduceIte, Bool.not_true, Bool.not_false, decide_true, decide_false, eq_self, bne_self_eq_false, List.getElem?_cons_zero, List.getElem?_cons_succ, decide_eq_true_eq, Bool.false_eq_true, Bool.true_eq_false, reduceCtorEq, Nat.le_refl]
  have key : loop F Z [0, 1, 5] r288L0 ⟨[(0, .c x), (1, .c (.int .i64 (k + 1 * (0 : Nat)))), (5, .c (.int .i64 (0 : Nat)))], [], [], h⟩ = loop F Z [0, 1, 5] r288L0 ⟨[(0, .c x), (1, .c (.int .i64 (k + 1 * (n : Nat)))), (5, .c (.int .i64 (n : Nat)))], [], [], h⟩ :=
    loop_goesF n (fun i => ⟨[(0, .c x), (1, .c (.int .i64 (k + 1 * (i : Nat)))), (5, .c (.int .i64 (i : Nat)))], [], [], h⟩) fun i hi0 => by
      have hi : i < (int_marks n k).length := by rw [int_marks_len]; exact hi0
      have hlt : (i : Int) < n := by omega
      have hms : (int_marks n k)[i] = int_mk (k + 1 * i) := by simp [int_marks]
      have hld := w.load hi
      rw [hms] at hld
      rw [loop_run]
      simp (disch := omega) only [r288L0, run0, run1, run2, run3, run4, noSlot, ownS, ownK, memN, RO.dst, lk, drop, forget, number, Nat.reduceBEq, cut?, splice?, builds, List.length_cons, List.length_nil, List.drop_succ_cons, List.drop_zero, List.take_succ_cons, List.take_zero, List.cons_append, List.nil_append, List.append_nil, List.drop_nil, List.take_nil, Nat.reduceAdd, Nat.reduceLeDiff, Nat.zero_add, Nat.add_zero, ↓reduceIte, Bool.not_true, Bool.not_false, decide_true, decide_false, eq_self, bne_self_eq_false, List.getElem?_cons_zero, List.getElem?_cons_succ, decide_eq_true_eq, Bool.false_eq_true, Bool.true_eq_false, reduceCtorEq, Nat.le_refl, hwl, hlt, w.idx hi, hld, wrapI1, wrapU1, int_enc, b_rem, beq_self_eq_true, int_mk, Int.reduceEq]
      rw [show k + 1 * ((i : Nat) : Int) + 1 = k + 1 * ((i + 1 : Nat) : Int) from by omega, show ((i : Nat) : Int) + 1 = ((i + 1 : Nat) : Int) from rfl]
  simp only [show ((0 : Nat) : Int) = 0 from rfl, Int.mul_zero, Int.add_zero] at key
  rw [key, loop_run]
  have hlt : ¬ (n : Int) < n := by omega
  simp only [r288L0, run0, run1, run2, run3, run4, noSlot, ownS, ownK, memN, RO.dst, lk, drop, forget, number, Nat.reduceBEq, cut?, splice?, builds, List.length_cons, List.length_nil, List.drop_succ_cons, List.drop_zero, List.take_succ_cons, List.take_zero, List.cons_append, List.nil_append, List.append_nil, List.drop_nil, List.take_nil, Nat.reduceAdd, Nat.reduceLeDiff, Nat.zero_add, Nat.add_zero, ↓reduceIte, Bool.not_true, Bool.not_false, decide_true, decide_false, eq_self, bne_self_eq_false, List.getElem?_cons_zero, List.getElem?_cons_succ, decide_eq_true_eq, Bool.false_eq_true, Bool.true_eq_false, reduceCtorEq, Nat.le_refl, hwl, hlt]
end
end Go.Proofs.Ytcdlbjomdokmiaa.A
/- Commands done with a chart one by one: what stays right; the play of commands on data; codes gathered beside a chart. -/
namespace Go.Proofs.Ytcdlbjomdokmiaa.A
open Go
set_option linter.unusedSimpArgs false
set_option linter.unusedVariables false
theorem Range.at_ok {xs : List Range} (h : ∀ t, t ∈ xs → t.Ok) (i : Nat) : (Range.at_ xs i).Ok := by
  unfold Range.at_
  cases hx : xs[i]? with
  | none => exact ⟨by simp [Range.none_], by simp [Range.none_], by simp [Range.none_]⟩
  | some t => exact h t (List.mem_of_getElem? hx)
theorem cutRg_ok {xs : List Range} (h : ∀ t, t ∈ xs → t.Ok) (k : Nat) {a g : Int} (ha : 1 ≤ a ∧ a ≤ 18446744073709551615) (hg : -9223372036854775808 ≤ g ∧ g ≤ 9223372036854775807) : ∀ t, t ∈ cutRg xs k a g → t.Ok := by
  intro t ht
  have h0 := Range.at_ok h k
  simp only [cutRg, List.mem_append, List.mem_cons, List.not_mem_nil, or_false] at ht
  rcases ht with (ht | ht | ht) | ht
  · exact h t (List.mem_of_mem_take ht)
  · subst ht; exact ⟨h0.lo, ⟨by show 0 ≤ a - 1; omega, by show a - 1 ≤ _; omega⟩, h0.group⟩
  · subst ht; exact ⟨⟨by show 0 ≤ a; omega, ha.2⟩, h0.hi, hg⟩
  · exact h t (List.mem_of_mem_drop ht)
theorem splitRg_ok {xs : List Range} (hr : rangesOk xs = true) (h : ∀ t, t ∈ xs → t.Ok) {a g : Int} (ha : 0 ≤ a ∧ a ≤ 18446744073709551615) (hg : -9223372036854775808 ≤ g ∧ g ≤ 9223372036854775807) : ∀ t, t ∈ (splitRg xs a g).1 → t.Ok := by
  obtain ⟨i, h1, h2, h3, h4, h5⟩ := (rangesOk_fit hr).has ha.1 ha.2
  unfold splitRg
  cases (rangesOk xs && (inR g 0 99 && !((xs.length : Int) == 24))) <;> simp only [cond_true, cond_false]
  · intro t ht; simp at ht
  · rw [h2]
    cases hlo : ((Range.at_ xs ((i : Nat) : Int).toNat).lo == a) with
    | true => intro t ht; simp at ht
    | false =>
      simp only [Int.toNat_natCast, beq_eq_false_iff_ne] at hlo
      have := (Range.at_ok h i).lo
      exact cutRg_ok h _ ⟨by omega, ha.2⟩ hg
theorem mergeRg_ok {xs : List Range} (h : ∀ t, t ∈ xs → t.Ok) (k : Int) : ∀ t, t ∈ (mergeRg xs k).1 → t.Ok := by
  unfold mergeRg
  cases (rangesOk xs && (decide (0 ≤ k) && (decide (k < (xs.length : Int) - 1) && ((Range.at_ xs k.toNat).group == (Range.at_ xs (k.toNat + 1)).group)))) <;> simp only [cond_true, cond_false]
  · intro t ht; simp at ht
  · intro t ht
    have ht := List.mem_of_mem_eraseIdx ht
    rcases List.mem_or_eq_of_mem_set ht with ht | ht
    · exact h t ht
    · subst ht; exact ⟨(Range.at_ok h _).lo, (Range.at_ok h _).hi, (Range.at_ok h _).group⟩
theorem doMap_ok {c : Chart} (ok : c.Ok) {q : MapCmd} (okq : q.Ok) : (doMap c q).1.Ok := by
  cases hgd : (c.good && (inR q.kind 0 4 && !(c.epoch == 1000000))) with
  | false => simp only [doMap, hgd, cond_false]; exact ok
  | true =>
    simp only [doMap, hgd, cond_true]
    have hg : c.good = true := by simp only [Bool.and_eq_true] at hgd; exact hgd.1
    have hr := Chart.good_ranges hg
    have hep : 1 ≤ c.epoch ∧ c.epoch ≤ 1000000 := by
      simp only [Chart.good, inR, Bool.and_eq_true, decide_eq_true_eq] at hg; exact hg.1
    have he : -9223372036854775808 ≤ c.epoch + 1 ∧ c.epoch + 1 ≤ 9223372036854775807 := by omega
    have fin : ∀ p : List Range × Bool, (∀ t, t ∈ p.1 → t.Ok) → (c.fin p).1.Ok := fun p hp => by
      unfold Chart.fin
      cases p.2
      · exact ok
      · exact ⟨he, hp, ok.lo, ok.to⟩
    unfold Chart.act
    cases (q.kind == 0) <;> simp only [cond_true, cond_false]
    · cases (q.kind == 1) <;> simp only [cond_true, cond_false]
      · cases (q.kind == 2) <;> simp only [cond_true, cond_false]
        · cases c.moving <;> simp only [cond_true, cond_false]
          · exact ok
          · refine ⟨he, ?_, by simp, by simp⟩
            cases (q.kind == 3) <;> simp only [cond_true, cond_false]
            · exact ok.ranges
            · intro t ht
              rcases List.mem_or_eq_of_mem_set ht with ht | ht
              · exact ok.ranges t ht
              · subst ht; exact ⟨(Range.at_ok ok.ranges _).lo, (Range.at_ok ok.ranges _).hi, ok.to⟩
        · cases c.moving <;> simp only [cond_true, cond_false]
          · cases (inR q.group 0 99 && (q.group != (Range.at_ c.ranges (c.pl q.at_)).group)) <;> simp only [cond_true, cond_false]
            · exact ok
            · exact ⟨he, ok.ranges, (Range.at_ok ok.ranges _).lo, okq.group⟩
          · exact ok
      · cases (((Range.at_ c.ranges (c.pl q.at_)).lo != q.at_) || (q.at_ == 0)) <;> simp only [cond_true, cond_false]
        · cases (c.mv (c.pl q.at_) || c.mv (c.pl q.at_ - 1)) <;> simp only [cond_true, cond_false]
          · exact fin _ (mergeRg_ok ok.ranges _)
          · exact ok
        · exact ok
    · cases c.mv (c.pl q.at_) <;> simp only [cond_true, cond_false]
      · exact fin _ (splitRg_ok hr ok.ranges okq.at_ (Range.at_ok ok.ranges _).group)
      · exact ok
def mapStep (a : Chart × List Int) (q : MapCmd) : Chart × List Int := ((doMap a.1 q).1, a.2 ++ [(doMap a.1 q).2])
def playMap (c : Chart) (qs : List MapCmd) : Chart × List Int := bif c.good && decide (qs.length ≤ 200) then qs.foldl mapStep (c, []) else (c, [])
theorem mapStep_small {qs : List MapCmd} : ∀ {a : Chart × List Int}, a.1.Small → (qs.foldl mapStep a).1.Small := by
  induction qs with
  | nil => intro a h; exact h
  | cons q r ih => intro a h; exact ih (doMap_small h q)
theorem playMap_small {c : Chart} (sm : c.Small) (qs : List MapCmd) : (playMap c qs).1.Small := by
  unfold playMap
  cases (c.good && decide (qs.length ≤ 200))
  · exact sm
  · exact mapStep_small (a := (c, [])) sm
theorem mapStep_len (qs : List MapCmd) : ∀ a : Chart × List Int, (qs.foldl mapStep a).2.length = a.2.length + qs.length := by
  induction qs with
  | nil => intro a; rfl
  | cons q r ih => intro a; rw [List.foldl_cons, ih]; simp [mapStep]; omega
theorem playMap_len (c : Chart) (qs : List MapCmd) : (playMap c qs).2.length ≤ 200 := by
  unfold playMap
  cases h : (c.good && decide (qs.length ≤ 200))
  · simp
  · simp only [Bool.and_eq_true, decide_eq_true_eq] at h
    simp only [cond_true]
    rw [mapStep_len]; simpa using h.2
/-! ### what append leaves alone -/
section
variable {α : Type} {R : Rel α} {h : Heap} {tag tag' : Nat} {x : Cell} {xs : List α} {fp : List Nat}
theorem catH_keep (w : SlR tag R h x xs fp) (new : List (List Cell)) {id : Nat} (hid : id < h.next) (hn : id ∉ fp) : (catH h x new).get id = h.get id := by
  rcases w with ⟨_, ⟨rfl, _, _⟩ | ⟨k, rows, fps, rfl, _, _, rfl, _⟩⟩
  · simp only [catH]
    split
    · rfl
    · simp only [Heap.push]; rw [if_neg (by omega)]
  · have hk : id ≠ k := fun he => hn (by simp [he])
    show (if id = h.next then some (((h.get k).getD []) ++ new) else (if id = k then none else h.get id)) = h.get id
    rw [if_neg (by omega), if_neg hk]
theorem catH_next (h : Heap) (x : Cell) (new : List (List Cell)) : h.next ≤ (catH h x new).next := by
  unfold catH
  split
  · simp [Heap.push, Heap.kill]
  · split
    · exact Nat.le_refl _
    · simp [Heap.push]
theorem catX_sid (tag : Nat) (h : Heap) (x : Cell) : (catX tag h x 1).sid = h.next := by cases x <;> rfl
/-- Cells that show something, beside a list that grows. -/
structure Beside {β : Type} (P : Rel β) (tag : Nat) (h0 g : Heap) (y : Cell) (rows : List (List Cell)) (cs : List Cell) (b : β) (fq : List Nat) : Prop where
  acc : Acc tag h0 g y rows
  v : P g cs b fq
  fr : Fre h0 fq
  dj : ∃ fy, SlR tag (Fl fun r => r) g y rows fy ∧ Fre h0 fy ∧ ∀ id, id ∈ fq → id ∉ fy
theorem Beside.step {β : Type} {P : Rel β} (okP : RelOk P) {h0 g g1 : Heap} {y : Cell} {rows : List (List Cell)} {cs cs1 : List Cell} {b b1 : β} {fq fq1 : List Nat} (w : Beside P tag h0 g y rows cs b fq) (hf : h0.floor ≤ h0.next) (hl : rows.length + 1 ≤ 140737488355328)
    (o : On g g1) (v1 : P g1 cs1 b1 fq1) (f1 : Fre g fq1) (row : List Cell) :
    Beside P tag h0 (catH (g1.push [row]) y [row]) (catX tag (g1.push [row]) y 1) (rows ++ [row]) cs1 b1 fq1 := by
  have a1 := w.acc.go o
  have a2 := a1.one hf hl row
  obtain ⟨fy, hy, fry, dj⟩ := w.dj
  have hy1 := hy.on (Fl.ok _) o
  have hyp := hy1.on (Fl.ok _) (On.push g1 [row])
  have hlt := okP.lt v1
  have hoff : ∀ id, id ∈ fq1 → id ∉ fy := fun id h1 h2 => by
    have := f1.lo id h1
    have := hy.lt (Fl.ok _) id h2
    omega
  refine ⟨a2, okP.mv v1 ?_ fun id hid => ?_, ⟨fun id hid => ?_, f1.nd⟩, ?_⟩
  · exact Nat.le_trans (by simp [Heap.push]) (catH_next (g1.push [row]) y [row])
  · have h1 := hlt id hid
    rw [catH_keep hyp [row] (by simp only [Heap.push]; omega) (hoff id hid)]
    simp only [Heap.push]; rw [if_neg (by omega)]
  · have := f1.lo id hid
    have := w.acc.on.ext.1
    omega
  · obtain ⟨fy2, q1, q2⟩ := a2.sh
    refine ⟨fy2, q1, q2, fun id h1 h2 => ?_⟩
    have h3 : id ∈ [(catX tag (g1.push [row]) y 1).sid] := by
      rcases q1.flat with ⟨_, h4, _⟩ | ⟨_, _, _, h4⟩
      · simp at h4
      · rw [← h4]; exact h2
    rw [catX_sid] at h3
    have := hlt id h1
    simp only [Heap.push, List.mem_cons, List.not_mem_nil, or_false] at h3
    omega
end
end Go.Proofs.Ytcdlbjomdokmiaa.A
/- The play of commands: both ways. -/
namespace Go.Proofs.Ytcdlbjomdokmiaa.A
open Go
set_option linter.unusedSimpArgs false
set_option linter.unusedVariables false
section
variable {F : Nat → Option RF} {Z : CallF} {h g : Heap} {cs : List Cell} {c : Chart} {fp fq : List Nat} {x y : Cell} {qs : List MapCmd} {rows : List (List Cell)}
abbrev zChart : List Cell := [.int .i64 0, .nil, .bool false, .int .u64 0, .int .i64 0]
set_option maxHeartbeats 1000000 in
theorem mapPlay_turn (hI11 : Has F tI11) (hI12 : Has F tI12) (hLi : Has F tLibslicesIndexFuncimplRangeimplRange) (pr1 : PrimAt F Z 269 (insF 7 24)) (pr2 : PrimAt F Z 270 (delF 7)) (hf : h.floor ≤ h.next) (w : SlR 14 (Fl MapCmd.enc) h x qs fp) (okq : ∀ q, q ∈ qs → q.Ok)
    (J : Beside Chart.RI 15 h g y rows cs c fq) (ok : c.Ok) (sm : c.Small) (i : Nat) (hi : i < qs.length) (hl : rows.length ≤ i) (h2 : qs.length ≤ 200) :
    ∃ y' g' cs' fq', Beside Chart.RI 15 h g' y' (rows ++ [[.int .i64 (doMap c qs[i]).2]]) cs' (doMap c qs[i]).1 fq' ∧
      loop F Z [4, 6, 7, 24, 25, 26] r184L0 ⟨[(7, .c y), (24, .c x), (25, .c (.int .i64 (qs.length : Nat))), (26, .c (.int .i64 ((i : Nat) : Int)))], [(4, 4, 0), (6, 6, 0)], [(4, zChart), (6, cs)], g⟩ =
      loop F Z [4, 6, 7, 24, 25, 26] r184L0 ⟨[(7, .c y'), (24, .c x), (25, .c (.int .i64 (qs.length : Nat))), (26, .c (.int .i64 ((i + 1 : Nat) : Int)))], [(4, 4, 0), (6, 6, 0)], [(4, zChart), (6, cs')], g'⟩ := by
  have hle := w.le
  unfold maxLen at hle
  have hlt : (i : Int) < qs.length := by omega
  have wg := w.on (Fl.ok _) J.acc.on
  have hws := wrapS i (by omega)
  obtain ⟨l1, l2, l3⟩ := Chart.lenI J.v
  obtain ⟨cs1, g1, f1, e, o1, u, r1⟩ := doMap_c (Z := Z) hI11 hI12 hLi pr1 pr2 (J.acc.on.le hf) J.v qs[i] (okq _ (List.getElem_mem hi)) ok sm
  obtain ⟨k1, k2, k3⟩ := Chart.lenI u
  have e1 := (J.acc.go o1).one_eq hf (bytes := 8) (by omega) [.int .i64 (doMap c qs[i]).2]
  have hix := w.idx hi
  have hld := wg.load hi
  have st := J.step Chart.okI hf (by omega) o1 u r1 [.int .i64 (doMap c qs[i]).2]
  refine ⟨_, _, _, _, st, ?_⟩
  simp only [MapCmd.enc] at e hld
  rw [loop_run]
  conv in (codeF _ _ r184L0 _) => unfold r184L0
  simp only [run0, run1, run2, run3, run4, noSlot, ownS, ownK, memN, RO.dst, lk, drop, forget, number, Nat.reduceBEq, cut?, splice?, builds, List.length_cons, List.length_nil, List.drop_succ_cons, List.drop_zero, List.take_succ_cons, List.take_zero, List.cons_append, List.nil_append, List.append_nil, List.drop_nil, List.take_nil, Nat.reduceAdd, Nat.reduceLeDiff, Nat.zero_add, Nat.add_zero, ↓reduceIte, Bool.not_true, Bool.not_false, decide_true, decide_false, eq_self, bne_self_eq_false, List.getElem?_cons_zero, List.getElem?_cons_succ, decide_eq_true_eq, Bool.false_eq_true, Bool.true_eq_false, reduceCtorEq, Nat.le_refl, hlt, hix, hld, l1, l2, l3, e, k1, k2, k3, hws, List.replicate_succ, List.replicate_zero, fills, and_self, Nat.zero_lt_one, List.set_cons_zero, e1]
set_option maxHeartbeats 1000000 in
theorem sMapPlay_turn (hS : Has F tS01d) (hS11 : Has F tS11) (hS12 : Has F tS12) (hf : h.floor ≤ h.next) (w : SlR 14 (Fl MapCmd.enc) h x qs fp) (okq : ∀ q, q ∈ qs → q.Ok)
    (J : Beside Chart.RI 15 h g y rows cs c fq) (ok : c.Ok) (sm : c.Small) (i : Nat) (hi : i < qs.length) (hl : rows.length ≤ i) (h2 : qs.length ≤ 200) :
    ∃ y' g' cs' fq', Beside Chart.RI 15 h g' y' (rows ++ [[.int .i64 (doMap c qs[i]).2]]) cs' (doMap c qs[i]).1 fq' ∧
      loop F Z [1, 4, 6, 7, 8] r187L0 ⟨[(1, .c x), (7, .c y), (8, .c (.int .i64 ((i : Nat) : Int)))], [(4, 4, 0), (6, 6, 0)], [(4, zChart), (6, cs)], g⟩ =
      loop F Z [1, 4, 6, 7, 8] r187L0 ⟨[(1, .c x), (7, .c y'), (8, .c (.int .i64 ((i + 1 : Nat) : Int)))], [(4, 4, 0), (6, 6, 0)], [(4, zChart), (6, cs')], g'⟩ := by
  have hle := w.le
  unfold maxLen at hle
  have hlt : (i : Int) < qs.length := by omega
  have wg := w.on (Fl.ok _) J.acc.on
  have hws := wrapS i (by omega)
  obtain ⟨l1, l2, l3⟩ := Chart.lenI J.v
  obtain ⟨cs1, hq, f1, e, oq, uq, rq⟩ := sDoMap_c (Z := Z) (h := ⟨g.next, g.next, g.get⟩) hS hS11 hS12 (Nat.le_refl _) (Chart.okI.up J.v _) qs[i] (okq _ (List.getElem_mem hi)) ok sm
  obtain ⟨g1, mq⟩ : ∃ g', Heap.mk hq.next g.floor hq.get = g' := ⟨_, rfl⟩
  have o1 : On g g1 := by rw [← mq]; exact ⟨⟨oq.ext.1, oq.ext.2⟩, rfl⟩
  have u := Chart.okI.up uq g.floor
  rw [mq] at u
  have r1 : Fre g f1 := ⟨rq.lo, rq.nd⟩
  obtain ⟨k1, k2, k3⟩ := Chart.lenI u
  have e1 := (J.acc.go o1).one_eq hf (bytes := 8) (by omega) [.int .i64 (doMap c qs[i]).2]
  have hix := w.idx hi
  have hld := wg.load hi
  have st := J.step Chart.okI hf (by omega) o1 u r1 [.int .i64 (doMap c qs[i]).2]
  refine ⟨_, _, _, _, st, ?_⟩
  simp only [MapCmd.enc] at e hld
  rw [loop_run]
  conv in (codeF _ _ r187L0 _) => unfold r187L0
  simp only [run0, run1, run2, run3, run4, noSlot, ownS, ownK, memN, RO.dst, lk, drop, forget, number, Nat.reduceBEq, cut?, splice?, builds, List.length_cons, List.length_nil, List.drop_succ_cons, List.drop_zero, List.take_succ_cons, List.take_zero, List.cons_append, List.nil_append, List.append_nil, List.drop_nil, List.take_nil, Nat.reduceAdd, Nat.reduceLeDiff, Nat.zero_add, Nat.add_zero, ↓reduceIte, Bool.not_true, Bool.not_false, decide_true, decide_false, eq_self, bne_self_eq_false, List.getElem?_cons_zero, List.getElem?_cons_succ, decide_eq_true_eq, Bool.false_eq_true, Bool.true_eq_false, reduceCtorEq, Nat.le_refl, w.len, hlt, hix, hld, l1, l2, l3, e, mq, k1, k2, k3, hws, List.replicate_succ, List.replicate_zero, fills, and_self, Nat.zero_lt_one, List.set_cons_zero, e1]
/-- What the play leaves. -/
def Played (h h' : Heap) (cs : List Cell) (y : Cell) (p : Chart × List Int) (f1 f2 : List Nat) : Prop := On h h' ∧ Chart.RI h' cs p.1 f1 ∧ Fre h f1 ∧ SlR 15 (Fl int_enc) h' y p.2 f2 ∧ Fre h f2 ∧ ∀ id, id ∈ f1 → id ∉ f2
theorem Beside.played {p : Chart × List Int} (J : Beside Chart.RI 15 h g y (p.2.map int_enc) cs p.1 fq) : ∃ f2, Played h g cs y p fq f2 := by
  obtain ⟨fy, h1, h2, h3⟩ := J.dj
  exact ⟨fy, J.acc.on, J.v, J.fr, SlR.ofRaw h1, h2, h3⟩
theorem Beside.start {x : Cell} {p : List Nat} (v : Chart.RI g cs c p) (o : On h g) (f : Fre h p) : Beside Chart.RI 15 h (g.push []) (.sl 15 g.next 0 0) [] cs c p := by
  have hlt := Chart.okI.lt v
  refine ⟨Acc.lit0 o, Chart.okI.on v (On.push g []), f, ?_⟩
  obtain ⟨fy, h1, h2⟩ := (Acc.lit0 (tag := 15) o).sh
  refine ⟨fy, h1, h2, fun id hid hy => ?_⟩
  rcases h1.flat with ⟨_, _, h3⟩ | ⟨_, _, _, h3⟩
  · rw [h3] at hy; cases hy
  · rw [h3] at hy
    have := hlt id hid
    simp [Cell.sid] at hy; omega
def PInv (h : Heap) (st : Cell → List Cell → Heap → Nat → St) (i : Nat) (a : Chart × List Int) (s : St) : Prop :=
  ∃ y g cs fq, s = st y cs g i ∧ Beside Chart.RI 15 h g y (a.2.map int_enc) cs a.1 fq ∧ a.1.Ok ∧ a.1.Small ∧ a.2.length ≤ i
theorem PlayMap_c (hI11 : Has F tI11) (hI12 : Has F tI12) (hLi : Has F tLibslicesIndexFuncimplRangeimplRange) (pr1 : PrimAt F Z 269 (insF 7 24)) (pr2 : PrimAt F Z 270 (delF 7)) (hf : h.floor ≤ h.next) (v : Chart.RI h cs c fp) (w : SlR 14 (Fl MapCmd.enc) h x qs fq) (ok : c.Ok) (sm : c.Small) (okq : ∀ q, q ∈ qs → q.Ok) :
    ∃ cs' y h' f1 f2, call F Z 184 [.agg cs, .c x] h = some (.tup [.agg cs', .c y], h') ∧ Played h h' cs' y (playMap c qs) f1 f2 := by
  obtain ⟨l1, l2, l3⟩ := Chart.lenI v
  obtain ⟨cs1, h1, f1, e1, o1, u1, r1⟩ := copyChart_c (Z := Z) hI12 hf v sm
  obtain ⟨k1, k2, k3⟩ := Chart.lenI u1
  obtain ⟨h2, e2, o2⟩ := isChart_run (Z := Z) hI11 hI12 hLi (Chart.okI.on v o1) ok
  have u2 := Chart.okI.on u1 o2
  have o12 := o1.trans o2
  have w2 := w.on (Fl.ok _) o12
  rw [call_run F Z (hI12.lk (g := 184) rfl) _ _ rfl]
  cases hg : c.good with
  | false =>
    rw [hg] at e2
    simp only [run0, run1, run2, run3, run4, noSlot, ownS, ownK, memN, RO.dst, lk, drop, forget, number, Nat.reduceBEq, cut?, splice?, builds, List.length_cons, List.length_nil, List.drop_succ_cons, List.drop_zero, List.take_succ_cons, List.take_zero, List.cons_append, List.nil_append, List.append_nil, List.drop_nil, List.take_nil, Nat.reduceAdd, Nat.reduceLeDiff, Nat.zero_add, Nat.add_zero, ↓reduceIte, Bool.not_true, Bool.not_false, decide_true, decide_false, eq_self, bne_self_eq_false, List.getElem?_cons_zero, List.getElem?_cons_succ, decide_eq_true_eq, Bool.false_eq_true, Bool.true_eq_false, reduceCtorEq, Nat.le_refl, l1, l2, l3, e1, k1, k2, k3, e2]
    exact ⟨_, _, _, _, _, rfl, o12, by simp only [playMap, hg, Bool.false_and, cond_false]; exact u2, r1, by simp only [playMap, hg, Bool.false_and, cond_false]; exact SlR.nil _ _ _, Fre.nil _, fun _ _ h => nomatch h⟩
  | true =>
    rw [hg] at e2
    by_cases hq : (200 : Int) < qs.length
    · have hd : playMap c qs = (c, []) := by simp only [playMap, hg, Bool.true_and, show decide (qs.length ≤ 200) = false from by simp; omega, cond_false]
      simp only [run0, run1, run2, run3, run4, noSlot, ownS, ownK, memN, RO.dst, lk, drop, forget, number, Nat.reduceBEq, cut?, splice?, builds, List.length_cons, List.length_nil, List.drop_succ_cons, List.drop_zero, List.take_succ_cons, List.take_zero, List.cons_append, List.nil_append, List.append_nil, List.drop_nil, List.take_nil, Nat.reduceAdd, Nat.reduceLeDiff, Nat.zero_add, Nat.add_zero, ↓reduceIte, Bool.not_true, Bool.not_false, decide_true, decide_false, eq_self, bne_self_eq_false, List.getElem?_cons_zero, List.getElem?_cons_succ, decide_eq_true_eq, Bool.false_eq_true, Bool.true_eq_false, reduceCtorEq, Nat.le_refl, l1, l2, l3, e1, k1, k2, k3, e2, w.len, gt_iff_lt, hq]
      exact ⟨_, _, _, _, _, rfl, o12, by rw [hd]; exact u2, r1, by rw [hd]; exact SlR.nil _ _ _, Fre.nil _, fun _ _ h => nomatch h⟩
    · have hd : playMap c qs = qs.foldl mapStep (c, []) := by simp only [playMap, hg, Bool.true_and, show decide (qs.length ≤ 200) = true from by simp; omega, cond_true]
      obtain ⟨s', ⟨y', g', cs', fq', hs', J', _⟩, le⟩ := loop_fold (F := F) (Z := Z) (live := [4, 6, 7, 24, 25, 26]) (b := r184L0) qs mapStep
        (PInv h fun y cs g i => ⟨[(7, .c y), (24, .c x), (25, .c (.int .i64 (qs.length : Nat))), (26, .c (.int .i64 ((i : Nat) : Int)))], [(4, 4, 0), (6, 6, 0)], [(4, zChart), (6, cs)], g⟩) (fun i hi a s ⟨y, g, cs, fq, hs, J, oka, sma, hla⟩ => by
          subst hs
          obtain ⟨y', g', cs', fq', J', e'⟩ := mapPlay_turn (F := F) (Z := Z) hI11 hI12 hLi pr1 pr2 hf w okq J oka sma i hi (by simpa using hla) (by omega)
          exact ⟨_, ⟨y', g', cs', fq', rfl, by simpa [mapStep, int_enc] using J', doMap_ok oka (okq _ (List.getElem_mem hi)), doMap_small sma _, by simp [mapStep]; omega⟩, e'⟩) (a := (c, []))
        (s := ⟨[(7, .c (.sl 15 h2.next 0 0)), (24, .c x), (25, .c (.int .i64 (qs.length : Nat))), (26, .c (.int .i64 ((0 : Nat) : Int)))], [(4, 4, 0), (6, 6, 0)], [(4, zChart), (6, cs1)], h2.push []⟩)
        ⟨_, _, _, _, rfl, Beside.start (x := x) u2 o12 r1, ok, sm, by simp⟩
      subst hs'
      rw [← hd] at J'
      simp only [show ((0 : Nat) : Int) = 0 from rfl, zChart] at le
      obtain ⟨m1, m2, m3⟩ := Chart.lenI J'.v
      have hlt : ¬ (qs.length : Int) < qs.length := by omega
      obtain ⟨f2, P⟩ := J'.played
      simp only [run0, run1, run2, run3, run4, noSlot, ownS, ownK, memN, RO.dst, lk, drop, forget, number, Nat.reduceBEq, cut?, splice?, builds, List.length_cons, List.length_nil, List.drop_succ_cons, List.drop_zero, List.take_succ_cons, List.take_zero, List.cons_append, List.nil_append, List.append_nil, List.drop_nil, List.take_nil, Nat.reduceAdd, Nat.reduceLeDiff, Nat.zero_add, Nat.add_zero, ↓reduceIte, Bool.not_true, Bool.not_false, decide_true, decide_false, eq_self, bne_self_eq_false, List.getElem?_cons_zero, List.getElem?_cons_succ, decide_eq_true_eq, Bool.false_eq_true, Bool.true_eq_false, reduceCtorEq, Nat.le_refl, l1, l2, l3, e1, k1, k2, k3, e2, w.len, gt_iff_lt, hq, List.replicate_zero, fills, le]
      rw [loop_run]
      conv in (codeF _ _ r184L0 _) => unfold r184L0
      simp only [run0, run1, run2, run3, run4, noSlot, ownS, ownK, memN, RO.dst, lk, drop, forget, number, Nat.reduceBEq, cut?, splice?, builds, List.length_cons, List.length_nil, List.drop_succ_cons, List.drop_zero, List.take_succ_cons, List.take_zero, List.cons_append, List.nil_append, List.append_nil, List.drop_nil, List.take_nil, Nat.reduceAdd, Nat.reduceLeDiff, Nat.zero_add, Nat.add_zero, ↓reduceIte, Bool.not_true, Bool.not_false, decide_true, decide_false, eq_self, bne_self_eq_false, List.getElem?_cons_zero, List.getElem?_cons_succ, decide_eq_true_eq, Bool.false_eq_true, Bool.true_eq_false, reduceCtorEq, Nat.le_refl, hlt, m1, m2, m3]
      exact ⟨_, _, _, _, _, rfl, P⟩
theorem sPlayMap_c (hS : Has F tS01d) (hS11 : Has F tS11) (hS12 : Has F tS12) (hf : h.floor ≤ h.next) (v : Chart.RI h cs c fp) (w : SlR 14 (Fl MapCmd.enc) h x qs fq) (ok : c.Ok) (sm : c.Small) (okq : ∀ q, q ∈ qs → q.Ok) :
    ∃ cs' y h' f1 f2, call F Z 187 [.agg cs, .c x] h = some (.tup [.agg cs', .c y], h') ∧ Played h h' cs' y (playMap c qs) f1 f2 := by
  obtain ⟨l1, l2, l3⟩ := Chart.lenI v
  obtain ⟨cs1, h1, f1, e1, o1, u1, r1⟩ := l12Copy_c (Z := Z) hS12 hf v sm
  obtain ⟨k1, k2, k3⟩ := Chart.lenI u1
  have e2 := sChartOk_run (Z := Z) hS hS11 hS12 v ok
  rw [call_run F Z (hS12.lk (g := 187) rfl) _ _ rfl]
  cases hg : c.good with
  | false =>
    rw [hg] at e2
    simp only [run0, run1, run2, run3, run4, noSlot, ownS, ownK, memN, RO.dst, lk, drop, forget, number, Nat.reduceBEq, cut?, splice?, builds, List.length_cons, List.length_nil, List.drop_succ_cons, List.drop_zero, List.take_succ_cons, List.take_zero, List.cons_append, List.nil_append, List.append_nil, List.drop_nil, List.take_nil, Nat.reduceAdd, Nat.reduceLeDiff, Nat.zero_add, Nat.add_zero, ↓reduceIte, Bool.not_true, Bool.not_false, decide_true, decide_false, eq_self, bne_self_eq_false, List.getElem?_cons_zero, List.getElem?_cons_succ, decide_eq_true_eq, Bool.false_eq_true, Bool.true_eq_false, reduceCtorEq, Nat.le_refl, l1, l2, l3, e1, k1, k2, k3, e2]
    exact ⟨_, _, _, _, _, rfl, o1, by simp only [playMap, hg, Bool.false_and, cond_false]; exact u1, r1, by simp only [playMap, hg, Bool.false_and, cond_false]; exact SlR.nil _ _ _, Fre.nil _, fun _ _ h => nomatch h⟩
  | true =>
    rw [hg] at e2
    by_cases hq : (200 : Int) < qs.length
    · have hd : playMap c qs = (c, []) := by simp only [playMap, hg, Bool.true_and, show decide (qs.length ≤ 200) = false from by simp; omega, cond_false]
      simp only [run0, run1, run2, run3, run4, noSlot, ownS, ownK, memN, RO.dst, lk, drop, forget, number, Nat.reduceBEq, cut?, splice?, builds, List.length_cons, List.length_nil, List.drop_succ_cons, List.drop_zero, List.take_succ_cons, List.take_zero, List.cons_append, List.nil_append, List.append_nil, List.drop_nil, List.take_nil, Nat.reduceAdd, Nat.reduceLeDiff, Nat.zero_add, Nat.add_zero, ↓reduceIte, Bool.not_true, Bool.not_false, decide_true, decide_false, eq_self, bne_self_eq_false, List.getElem?_cons_zero, List.getElem?_cons_succ, decide_eq_true_eq, Bool.false_eq_true, Bool.true_eq_false, reduceCtorEq, Nat.le_refl, l1, l2, l3, e1, k1, k2, k3, e2, w.len, gt_iff_lt, hq]
      exact ⟨_, _, _, _, _, rfl, o1, by rw [hd]; exact u1, r1, by rw [hd]; exact SlR.nil _ _ _, Fre.nil _, fun _ _ h => nomatch h⟩
    · have hd : playMap c qs = qs.foldl mapStep (c, []) := by simp only [playMap, hg, Bool.true_and, show decide (qs.length ≤ 200) = true from by simp; omega, cond_true]
      obtain ⟨s', ⟨y', g', cs', fq', hs', J', _⟩, le⟩ := loop_fold (F := F) (Z := Z) (live := [1, 4, 6, 7, 8]) (b := r187L0) qs mapStep
        (PInv h fun y cs g i => ⟨[(1, .c x), (7, .c y), (8, .c (.int .i64 ((i : Nat) : Int)))], [(4, 4, 0), (6, 6, 0)], [(4, zChart), (6, cs)], g⟩) (fun i hi a s ⟨y, g, cs, fq, hs, J, oka, sma, hla⟩ => by
          subst hs
          obtain ⟨y', g', cs', fq', J', e'⟩ := sMapPlay_turn (F := F) (Z := Z) hS hS11 hS12 hf w okq J oka sma i hi (by simpa using hla) (by omega)
          exact ⟨_, ⟨y', g', cs', fq', rfl, by simpa [mapStep, int_enc] using J', doMap_ok oka (okq _ (List.getElem_mem hi)), doMap_small sma _, by simp [mapStep]; omega⟩, e'⟩) (a := (c, []))
        (s := ⟨[(1, .c x), (7, .c (.sl 15 h1.next 0 0)), (8, .c (.int .i64 ((0 : Nat) : Int)))], [(4, 4, 0), (6, 6, 0)], [(4, zChart), (6, cs1)], h1.push []⟩)
        ⟨_, _, _, _, rfl, Beside.start (x := x) u1 o1 r1, ok, sm, by simp⟩
      subst hs'
      rw [← hd] at J'
      simp only [show ((0 : Nat) : Int) = 0 from rfl, zChart] at le
      obtain ⟨m1, m2, m3⟩ := Chart.lenI J'.v
      have hlt : ¬ (qs.length : Int) < qs.length := by omega
      obtain ⟨f2, P⟩ := J'.played
      simp only [run0, run1, run2, run3, run4, noSlot, ownS, ownK, memN, RO.dst, lk, drop, forget, number, Nat.reduceBEq, cut?, splice?, builds, List.length_cons, List.length_nil, List.drop_succ_cons, List.drop_zero, List.take_succ_cons, List.take_zero, List.cons_append, List.nil_append, List.append_nil, List.drop_nil, List.take_nil, Nat.reduceAdd, Nat.reduceLeDiff, Nat.zero_add, Nat.add_zero, ↓reduceIte, Bool.not_true, Bool.not_false, decide_true, decide_false, eq_self, bne_self_eq_false, List.getElem?_cons_zero, List.getElem?_cons_succ, decide_eq_true_eq, Bool.false_eq_true, Bool.true_eq_false, reduceCtorEq, Nat.le_refl, l1, l2, l3, e1, k1, k2, k3, e2, w.len, gt_iff_lt, hq, List.replicate_zero, fills, le]
      rw [loop_run]
      conv in (codeF _ _ r187L0 _) => unfold r187L0
      simp only [run0, run1, run2, run3, run4, noSlot, ownS, ownK, memN, RO.dst, lk, drop, forget, number, Nat.reduceBEq, cut?, splice?, builds, List.length_cons, List.length_nil, List.drop_succ_cons, List.drop_zero, List.take_succ_cons, List.take_zero, List.cons_append, List.nil_append, List.append_nil, List.drop_nil, List.take_nil, Nat.reduceAdd, Nat.reduceLeDiff, Nat.zero_add, Nat.add_zero, ↓reduceIte, Bool.not_true, Bool.not_false, decide_true, decide_false, eq_self, bne_self_eq_false, List.getElem?_cons_zero, List.getElem?_cons_succ, decide_eq_true_eq, Bool.false_eq_true, Bool.true_eq_false, reduceCtorEq, Nat.le_refl, w.len, hlt, m1, m2, m3]
      exact ⟨_, _, _, _, _, rfl, P⟩
end
end Go.Proofs.Ytcdlbjomdokmiaa.A
