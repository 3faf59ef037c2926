/- TxAck: the law's function, run on any arguments, answers true. -/
import Derived.Test.YtgogajbfiocdbaaCTx2
import Derived.Test.YtgogajbfiocdbaaB5
import Derived.Test.YtgogajbfiocdbaaD
import Derived.Test.YtgogajbfiocdbaaGWTxAck
namespace Go.Proofs.Ytgogajbfiocdbaa.A
open Go
set_option linter.unusedSimpArgs false
set_option linter.unusedVariables false
theorem law_ExactTxAck {F : Nat → Option RF} {Z : CallF} (hI14 : Has F tI14) (hLTx : Has F tLTx) (hS01d : Has F tS01d) (hS14 : Has F tS14) (hWTxAck : Has F tWTxAck) (h : Heap) (avs : List V) (hfl : h.floor = h.next) (w : ArgsWf h 8 [shTx, .int .i64] avs) : ∃ h', call F Z 31 avs h = some (.c (.bool true), h') := by
  obtain ⟨cs, rest, rfl, w1, w2⟩ := ArgsWf.struct w
  obtain ⟨id, a, b, m, phase, yf, yt, af, at_, reason, rfl⟩ := Wf.tx w1
  obtain ⟨r, _, rfl, _, w3⟩ := ArgsWf.int w2
  obtain rfl := w3.nil
  refine ⟨h, ?_⟩
  rw [call_run F Z (hWTxAck.lk (g := 31) rfl) _ _ rfl]
  simp only [regF_nil, regF_one, regF_grd, gF_tt, gF_ff, gF_tf, gF_ft, gF_u, setR_some, cellR_some, pickR_t, pickR_f, set_eq, unset_eq, skip_none, ev_t, ev_k, op_chk, noSlot, memN, op_mov, op_pick, op_loc, locbR_c, locbR_a, op_locb, op_new, newbR_c, newbR_a, op_newb, mkR_a, mkR_c, loadR_l, loadL_s, loadR_h, loadH_s, op_load, vcells_c, vcells_a, putL_s, putH_s, spl_s, stoH_s, stoA_l, stoA_h, stoR_s, op_store, fadH_s, fadR_l, fadR_h, op_fad, fldR_s, op_fld, cellOf_c, evc_eq, intOf_c, evi_eq, bin2_s, op_bin, b_add, b_sub, b_mul, b_eql, b_neq, b_lss, b_leq, b_gtr, b_geq, beqR_t, beqR_f, op_beq, notR_s, op_not, convR_s, op_conv, lenR_s, lenR_n, op_len, idxR_s, op_idx, extR_s, op_ext, nilcR_p, nilcR_f, op_nilc, op_eqs, mkfR_s, op_mkf, appS_s, appR_s, op_app, sidxR_s, op_sidx, bndO_n, bndO_s, someI_s, cutR_s, cutR_n, op_cut, op_scut, slenR_s, op_slen, addR_s, op_add, mksR_s, op_mks, capV_nil, capV_cons, calvG_s, op_calv, calvQ_s, op_calvQ, litR_s, fillsO_s, op_lit, consP_s, evParts_nil, evParts_cons, aggR_s, buildsO_s, op_build, consP3_s, evParts3_nil, evParts3_cons, retG_s, retG_n, callG_s, op_call, retQ_s, callQ_s, op_callQ, evs_nil, consV_s, evs_cons, thenC_n, thenC_r, thenC_e, code_skip, code_ret, code_exit, normC_s, code_reg, code_seq, condC_t, condC_f, code_cond, blockC_n, blockC_r, blockC_e, code_block, code_loop, prune_eq, keepO_s, keepO_n, keep_nil, keep_cons, loopC_n, loopC_r, loopC_e, endR_n, endR_r, outR_0, outR_1, outR_2, res_nil, resV_c, resV_a, res_tmp, resL_s, resA_s, res_cell, RO.dst, lk, drop, forget, number, Nat.reduceBEq, cond_true, cond_false, Option.bind_some, cut?, splice?, builds, List.length_cons, List.length_nil, List.drop_succ_cons, List.drop_zero, List.take_succ_cons, List.take_zero, List.cons_append, List.nil_append, List.append_nil, List.drop_nil, List.take_nil, Nat.reduceAdd, Nat.reduceLeDiff, Nat.zero_add, Nat.add_zero, ↓reduceIte, Bool.not_true, Bool.not_false, decide_true, decide_false, eq_self, bne_self_eq_false, List.getElem?_cons_zero, List.getElem?_cons_succ, decide_eq_true_eq, Bool.false_eq_true, Bool.true_eq_false, reduceCtorEq, Nat.le_refl, toTx_run hLTx, TxAck_run hI14, sTxAck_run hS01d hS14, eqTx_enc hLTx, Tx.len, Tx.tak]
end Go.Proofs.Ytgogajbfiocdbaa.A
