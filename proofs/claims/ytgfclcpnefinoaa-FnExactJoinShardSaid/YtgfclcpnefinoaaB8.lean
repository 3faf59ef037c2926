/- The equations of the run, bundled. -/
import Derived.Test.YtgfclcpnefinoaaB7
namespace Go.Proofs.Ytgfclcpnefinoaa.A
open Go
theorem run0 : (type_of% @regF_nil) ∧
  (type_of% @regF_one) ∧
  (type_of% @regF_grd) ∧
  (type_of% @gF_tt) ∧
  (type_of% @gF_ff) ∧
  (type_of% @gF_tf) ∧
  (type_of% @gF_ft) ∧
  (type_of% @gF_u) ∧
  (type_of% @setR_some) ∧
  (type_of% @cellR_some) ∧
  (type_of% @pickR_t) ∧
  (type_of% @pickR_f) ∧
  (type_of% @set_eq) ∧
  (type_of% @unset_eq) ∧
  (type_of% @skip_none) ∧
  (type_of% @ev_t) ∧
  (type_of% @ev_k) ∧
  (type_of% @op_own) ∧
  (type_of% @ownP_s) ∧
  (type_of% @ownP_n) ∧
  (type_of% @op_chk) ∧
  (type_of% @op_mov) ∧
  (type_of% @op_pick) ∧
  (type_of% @op_loc) ∧
  (type_of% @locbR_c) ∧
  (type_of% @locbR_a) ∧
  (type_of% @op_locb) ∧
  (type_of% @op_new) ∧
  (type_of% @newbR_c) ∧
  (type_of% @newbR_a) ∧
  (type_of% @op_newb) ∧
  (type_of% @mkR_a) ∧
  (type_of% @mkR_c) ∧
  (type_of% @loadR_l) ∧
  (type_of% @loadL_s) ∧
  (type_of% @loadR_h) ∧
  (type_of% @loadH_s) ∧
  (type_of% @op_load) ∧
  (type_of% @lldR_l) ∧
  (type_of% @op_lld) :=
  ⟨@regF_nil, @regF_one, @regF_grd, @gF_tt, @gF_ff, @gF_tf, @gF_ft, @gF_u, @setR_some, @cellR_some, @pickR_t, @pickR_f, @set_eq, @unset_eq, @skip_none, @ev_t, @ev_k, @op_own, @ownP_s, @ownP_n, @op_chk, @op_mov, @op_pick, @op_loc, @locbR_c, @locbR_a, @op_locb, @op_new, @newbR_c, @newbR_a, @op_newb, @mkR_a, @mkR_c, @loadR_l, @loadL_s, @loadR_h, @loadH_s, @op_load, @lldR_l, @op_lld⟩
theorem run1 : (type_of% @vcells_c) ∧
  (type_of% @vcells_a) ∧
  (type_of% @putL_s) ∧
  (type_of% @putH_s) ∧
  (type_of% @spl_s) ∧
  (type_of% @stoH_s) ∧
  (type_of% @stoA_l) ∧
  (type_of% @stoA_h) ∧
  (type_of% @stoR_s) ∧
  (type_of% @op_store) ∧
  (type_of% @lstA_l) ∧
  (type_of% @lstR_s) ∧
  (type_of% @op_lst) ∧
  (type_of% @escL_s) ∧
  (type_of% @escR_s) ∧
  (type_of% @op_esc) ∧
  (type_of% @fadH_s) ∧
  (type_of% @fadR_l) ∧
  (type_of% @fadR_h) ∧
  (type_of% @op_fad) ∧
  (type_of% @fldR_s) ∧
  (type_of% @op_fld) ∧
  (type_of% @cellOf_c) ∧
  (type_of% @evc_eq) ∧
  (type_of% @intOf_c) ∧
  (type_of% @evi_eq) ∧
  (type_of% @bin2_s) ∧
  (type_of% @op_bin) ∧
  (type_of% @b_add) ∧
  (type_of% @b_sub) ∧
  (type_of% @b_mul) ∧
  (type_of% @b_eql) ∧
  (type_of% @b_neq) ∧
  (type_of% @b_lss) ∧
  (type_of% @b_leq) ∧
  (type_of% @b_gtr) ∧
  (type_of% @b_geq) ∧
  (type_of% @beqR_t) ∧
  (type_of% @beqR_f) ∧
  (type_of% @op_beq) :=
  ⟨@vcells_c, @vcells_a, @putL_s, @putH_s, @spl_s, @stoH_s, @stoA_l, @stoA_h, @stoR_s, @op_store, @lstA_l, @lstR_s, @op_lst, @escL_s, @escR_s, @op_esc, @fadH_s, @fadR_l, @fadR_h, @op_fad, @fldR_s, @op_fld, @cellOf_c, @evc_eq, @intOf_c, @evi_eq, @bin2_s, @op_bin, @b_add, @b_sub, @b_mul, @b_eql, @b_neq, @b_lss, @b_leq, @b_gtr, @b_geq, @beqR_t, @beqR_f, @op_beq⟩
theorem run2 : (type_of% @notR_s) ∧
  (type_of% @op_not) ∧
  (type_of% @convR_s) ∧
  (type_of% @op_conv) ∧
  (type_of% @lenR_s) ∧
  (type_of% @lenR_n) ∧
  (type_of% @op_len) ∧
  (type_of% @idxR_s) ∧
  (type_of% @op_idx) ∧
  (type_of% @extR_s) ∧
  (type_of% @op_ext) ∧
  (type_of% @nilcR_p) ∧
  (type_of% @nilcR_f) ∧
  (type_of% @op_nilc) ∧
  (type_of% @op_eqs) ∧
  (type_of% @mkfR_s) ∧
  (type_of% @op_mkf) ∧
  (type_of% @appS_s) ∧
  (type_of% @appR_s) ∧
  (type_of% @op_app) ∧
  (type_of% @litR_s) ∧
  (type_of% @fillsO_s) ∧
  (type_of% @op_lit) ∧
  (type_of% @consP_s) ∧
  (type_of% @evParts_nil) ∧
  (type_of% @evParts_cons) ∧
  (type_of% @aggR_s) ∧
  (type_of% @buildsO_s) ∧
  (type_of% @op_build) ∧
  (type_of% @consP3_s) ∧
  (type_of% @evParts3_nil) ∧
  (type_of% @evParts3_cons) ∧
  (type_of% @sidxR_s) ∧
  (type_of% @op_sidx) ∧
  (type_of% @bndO_n) ∧
  (type_of% @someI_s) ∧
  (type_of% @bndO_s) ∧
  (type_of% @cutR_s) ∧
  (type_of% @cutR_n) ∧
  (type_of% @op_cut) :=
  ⟨@notR_s, @op_not, @convR_s, @op_conv, @lenR_s, @lenR_n, @op_len, @idxR_s, @op_idx, @extR_s, @op_ext, @nilcR_p, @nilcR_f, @op_nilc, @op_eqs, @mkfR_s, @op_mkf, @appS_s, @appR_s, @op_app, @litR_s, @fillsO_s, @op_lit, @consP_s, @evParts_nil, @evParts_cons, @aggR_s, @buildsO_s, @op_build, @consP3_s, @evParts3_nil, @evParts3_cons, @sidxR_s, @op_sidx, @bndO_n, @someI_s, @bndO_s, @cutR_s, @cutR_n, @op_cut⟩
theorem run3 : (type_of% @op_scut) ∧
  (type_of% @slenR_s) ∧
  (type_of% @op_slen) ∧
  (type_of% @addR_s) ∧
  (type_of% @op_add) ∧
  (type_of% @mksR_s) ∧
  (type_of% @op_mks) ∧
  (type_of% @retG_s) ∧
  (type_of% @retG_n) ∧
  (type_of% @callG_s) ∧
  (type_of% @op_call) ∧
  (type_of% @retQ_s) ∧
  (type_of% @callQ_s) ∧
  (type_of% @op_callQ) ∧
  (type_of% @evs_nil) ∧
  (type_of% @consV_s) ∧
  (type_of% @evs_cons) ∧
  (type_of% @capV_nil) ∧
  (type_of% @capV_cons) ∧
  (type_of% @calvG_s) ∧
  (type_of% @op_calv) ∧
  (type_of% @calvQ_s) ∧
  (type_of% @op_calvQ) ∧
  (type_of% @thenC_n) ∧
  (type_of% @thenC_r) ∧
  (type_of% @thenC_e) ∧
  (type_of% @code_skip) ∧
  (type_of% @code_ret) ∧
  (type_of% @code_exit) ∧
  (type_of% @normC_s) ∧
  (type_of% @code_reg) ∧
  (type_of% @code_seq) ∧
  (type_of% @condC_t) ∧
  (type_of% @condC_f) ∧
  (type_of% @code_cond) ∧
  (type_of% @blockC_n) ∧
  (type_of% @blockC_r) ∧
  (type_of% @blockC_e) ∧
  (type_of% @code_block) ∧
  (type_of% @code_loop) :=
  ⟨@op_scut, @slenR_s, @op_slen, @addR_s, @op_add, @mksR_s, @op_mks, @retG_s, @retG_n, @callG_s, @op_call, @retQ_s, @callQ_s, @op_callQ, @evs_nil, @consV_s, @evs_cons, @capV_nil, @capV_cons, @calvG_s, @op_calv, @calvQ_s, @op_calvQ, @thenC_n, @thenC_r, @thenC_e, @code_skip, @code_ret, @code_exit, @normC_s, @code_reg, @code_seq, @condC_t, @condC_f, @code_cond, @blockC_n, @blockC_r, @blockC_e, @code_block, @code_loop⟩
theorem run4 : (type_of% @prune_eq) ∧
  (type_of% @keepO_s) ∧
  (type_of% @keepO_n) ∧
  (type_of% @keep_nil) ∧
  (type_of% @keep_cons) ∧
  (type_of% @loopC_n) ∧
  (type_of% @loopC_r) ∧
  (type_of% @loopC_e) ∧
  (type_of% @outR_1) ∧
  (type_of% @outR_2) ∧
  (type_of% @outR_0) ∧
  (type_of% @endR_n) ∧
  (type_of% @endR_r) ∧
  (type_of% @res_nil) ∧
  (type_of% @resV_c) ∧
  (type_of% @resV_a) ∧
  (type_of% @res_tmp) ∧
  (type_of% @resL_s) ∧
  (type_of% @resA_s) ∧
  (type_of% @res_cell) ∧
  (type_of% @heap_eta) ∧
  (type_of% @bindS) ∧
  (type_of% @condT) ∧
  (type_of% @condF) :=
  ⟨@prune_eq, @keepO_s, @keepO_n, @keep_nil, @keep_cons, @loopC_n, @loopC_r, @loopC_e, @outR_1, @outR_2, @outR_0, @endR_n, @endR_r, @res_nil, @resV_c, @resV_a, @res_tmp, @resL_s, @resA_s, @res_cell, @heap_eta, @bindS, @condT, @condF⟩
theorem qqa : type_of% @List.length_cons := @List.length_cons
theorem qqb : type_of% @List.length_nil := @List.length_nil
theorem qqc : type_of% @List.drop_succ_cons := @List.drop_succ_cons
theorem qqd : type_of% @List.drop_zero := @List.drop_zero
theorem qqe : type_of% @List.take_succ_cons := @List.take_succ_cons
theorem qqf : type_of% @List.take_zero := @List.take_zero
theorem qqg : type_of% @List.cons_append := @List.cons_append
theorem qqh : type_of% @List.nil_append := @List.nil_append
theorem qqi : type_of% @List.append_nil := @List.append_nil
theorem qqj : type_of% @List.drop_nil := @List.drop_nil
theorem qqk : type_of% @List.take_nil := @List.take_nil
theorem qql : type_of% @Nat.zero_add := @Nat.zero_add
theorem qqm : type_of% @Nat.add_zero := @Nat.add_zero
theorem qqn : type_of% @Bool.not_true := @Bool.not_true
theorem qqo : type_of% @Bool.not_false := @Bool.not_false
theorem qqp : type_of% @decide_true := @decide_true
theorem qqq : type_of% @decide_false := @decide_false
theorem qqr : type_of% @eq_self := @eq_self
theorem qqs : type_of% @bne_self_eq_false := @bne_self_eq_false
theorem qqt : type_of% @List.getElem?_cons_zero := @List.getElem?_cons_zero
theorem qqu : type_of% @List.getElem?_cons_succ := @List.getElem?_cons_succ
theorem qqv : type_of% @decide_eq_true_eq := @decide_eq_true_eq
theorem qqw : type_of% @Bool.false_eq_true := @Bool.false_eq_true
theorem qqx : type_of% @Bool.true_eq_false := @Bool.true_eq_false
theorem qqy : type_of% @Nat.le_refl := @Nat.le_refl
end Go.Proofs.Ytgfclcpnefinoaa.A
