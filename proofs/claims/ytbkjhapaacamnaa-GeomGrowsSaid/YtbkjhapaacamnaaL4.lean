/- What the functions that GeomGrows reaches answer, for every argument. No condition but those in each statement. -/
import Derived.Test.YtbkjhapaacamnaaL3
set_option linter.unusedSimpArgs false
set_option maxRecDepth 10000
namespace Go.Proofs.Ytbkjhapaacamnaa.G07
open Go Go.Proofs.Ytbkjhapaacamnaa.Eng

theorem slot_eq (n i x : Int) : (bif (decide (i < 0) || decide (i ≥ n)) then 0 else x) = (bif decide (i ≥ 0) && decide (i < n) then x else 0) := by
  by_cases h1 : i < 0
  · have h2 : ¬ i ≥ 0 := by omega
    simp [h1, h2]
  · have h2 : i ≥ 0 := by omega
    by_cases h3 : i < n
    · have h4 : ¬ i ≥ n := by omega
      simp [h1, h2, h3, h4]
    · have h4 : i ≥ n := by omega
      simp [h1, h2, h3, h4]

set_option maxHeartbeats 2000000 in
theorem tells (b s w a r i : Int) (h : AHeap) : (envL prog).call 3 [geo b s w a r, .int .i64 i] h = some (.bool true, h) := by
  rw [c3]
  unfold b3
  have g0 := goodR b s w a r
  have g1 := goodL b s w a r
  have g2 := bytesG b s w a r
  have g3 := pagesG b s w a r
  have g4 := ringG b s w a r
  have g5 := homeG b s w a r
  have g6 := slotG b s w a r i
  have g7 := areaG b s w a r i
  have g8 := fastZ b s w a r
  have g9 := slowZ b s w a r
  have r1 := ofR b s w a r
  have r2 := slotR b s w a r i
  have r3 := areaR b s w a r i
  have wk := wakesG
  unfold geo at *
  unfold ofL at r1
  unfold slotW at g6
  unfold areaW at g7
  unfold pagesB at g3
  unfold at4 at3 pagesB at g8
  unfold at3 pagesB at g6
  unfold byB at *
  rcases Bool.eq_false_or_eq_true (goodB b s w a r) with hg | hg
  · rw [hg] at g0 g1 g2 g3 g4 g5 g6 g7 g8 g9 r1 r2 r3
    simp only [cond_true, cond_false, Bool.not_true, Bool.not_false, Bool.false_or, Bool.true_or, Bool.true_and, Bool.false_and, slot_eq] at g0 g1 g2 g3 g4 g5 g6 g7 g8 g9 r1 r2 r3
    generalize (bif decide (i ≥ 0) && decide (i < a) then IntKind.i64.wrap (b + i) else 0) = z1 at *
    generalize (bif decide (i ≥ 0) && decide (i < IntKind.i64.wrap (s * w)) then IntKind.i64.wrap (IntKind.i64.wrap (at2 r + countW (bytesW b s w)) + i) else 0) = z2 at *
    generalize IntKind.i64.wrap (IntKind.i64.wrap (at2 r + countW (bytesW b s w)) + IntKind.i64.wrap (s * w)) = z3 at *
    generalize IntKind.i64.wrap (at2 r + countW (bytesW b s w)) = z4 at *
    generalize IntKind.i64.wrap (s * w) = z5 at *
    generalize countW (bytesW b s w) = z6 at *
    generalize bytesW b s w = z7 at *
    generalize IntKind.i64.wrap (b + a) = z8 at *
    generalize at2 r = z9 at *
    simp -implicitDefEqProofs (maxSteps := 5000000) only [runI_nil, runI_o, runI_u, runI_og, runI_ug, runD_nil, runD_o, runD_rd, runD_hv, runD_hvu, runD_og, runD_rdg, runD_hvg, chk_nil, Nat.testBit, Nat.reduceShiftRight, Nat.reduceAnd, Nat.reduceBNe, bne_self_eq_false, eq_self, chk_cons, chk_if, runC_skip, runC_exit, runC_ret, runC_reg, runC_drw, runC_seq, runC_ite, runC_block, normR_some, seqR_normal, seqR_exit', seqR_ret, condR_bool, seqR_cond, blockR_cond, fin_cond, trim_cond, blockR_normal, blockR_ret, blockR_exit, fin_ret, fin_normal, res_nil, res_tmp, res_cell, oneOf_one, oneOf_nil, oneOf_two, gval_bool, gval_undef, keepH_some', guarded_true, guarded_false, guarded_some, gval_may, mayV_true, mayV_false, may_bin1, may_bin1w, may_bin2, may_bin2w, may_un, may_unw, may_load, may_loadw, may_fa, may_faw, may_fi, may_fiw, may_pk, may_pkw, may_cl1, may_cl1w, may_cl2, may_cl2w, may_cl3, may_cl3w, may_cl4, may_cl4w, may_cv, may_cvw, may_ia1, may_ia1w, may_ia2, may_ia2w, may_is1, may_is1w, may_is2, may_is2w, may_ix1, may_ix1w, may_ix2, may_ix2w, may_st1, may_st1w, may_st2, may_st2w, may_ls, may_lsw, may_ll, may_llw, may_ex, may_exw, may_bx, may_bxw, beq_tt, beq_ff, pick_bool, cond_may1, cond_may2, cond_may3, cond_and', cond_or', cond_boolV, cond_intV, box_int, box_bool, box_agg, not_bool, eq_bool, ne_bool, int_add, int_quo, int_rem, ne_eq, Int.reduceEq, not_false_eq_true, guarded_heap, int_sub, int_mul, int_eql, int_neq, int_lss, int_leq, int_gtr, int_geq, cells_end, cells_add, cells_zero, cells_zero', cells_succ, load_agg, load_one, readN, read1, trim_some_id, trim_app, under_int, under_bool, under_agg, under_tup, underAll_nil, underAll_cons, contI_some, contIu_some, contD_some, contR_some, contH_some, contHu_some, tst_true, onI_some, onIu_some, onD_some, onR_some, onH_some, sMov_ap, X_ap, K_ap, sPick_ap, sAlloc_ap, sBox_ap, sBuild_ap, sBuildSl_ap, sLoad_ap, sStore_ap, sNil_ap, sBin_ap, sUn_ap, sConv_ap, sFun_ap, sMake_ap, sSliceA_ap, sSliceS_ap, sFieldAddr_ap, sField_ap, sIdxAddrA_ap, sIdxAddrS_ap, sIdxA_ap, sIdxStr_ap, sExtract_ap, sLenStr_ap, sLenSl_ap, sLenArr_ap, sCapSl_ap, sMax_ap, sMin_ap, sCopy_ap, sAppN_ap, sApp_ap, sCall_ap, sCallV_ap, ap, fieldAddrS, fieldS, allocV, get_zero, get_succ, List.set_cons_zero, List.set_cons_succ, List.map_cons, List.map_nil, Option.bind_some, Option.map_some, List.length_cons, List.length_nil, List.length_append, List.cons_append, List.nil_append, List.append_nil, List.append_assoc, List.replicate_succ, List.replicate_zero, List.drop_zero, List.drop_succ_cons, List.take_zero, List.take_succ_cons, List.getElem?_cons_zero, List.getElem?_cons_succ, Nat.reduceAdd, Nat.reduceSub, Nat.reduceMul, Nat.reduceLeDiff, Nat.zero_add, Nat.add_zero, Nat.add_assoc, Nat.le_refl, if_true, if_false, Bool.true_and, Bool.and_true, Bool.true_or, Bool.or_true, Bool.false_or, Bool.or_false, Bool.false_and, Bool.and_false, Bool.not_true, Bool.not_false, cond_true, cond_false, reduceIte, reduceCtorEq, decide_true, decide_false, beq_self_eq_true, Nat.reduceBEq, Nat.reduceEqDiff, Nat.add_left_cancel_iff, wrap64, loop_run, runC_loop, runC_range, callF_fn, callV_fn, callV_yld, yield_eq, yieldBody, yieldRaw, roundMid, roundEnd, rangeEnd, Bool.not_not, put_cons, put_nil, trim_same, at_zero, at_add, set_zero, set_add, store_one, write_zero, write_add, write_head, write_succ, splice_one, splice_more, List.drop_nil, List.take_nil, cell_int, cell_bool, fillS, splice_one, idxA, Ex.isNormal, List.set_nil, List.length_set, List.all_cons, List.all_nil, Bool.and_self, and_self, true_and, and_true, List.getElem?_nil, Int.reduceLT, Int.reduceLE, Int.reduceToNat, Int.toNat_zero, Int.toNat_one, Int.reduceAdd, Int.reduceSub, Int.reduceMul, Int.reduceNeg, Int.reduceBEq, Int.reduceBNe, Int.reduceGE, Int.reduceGT, Nat.reduceLT, trim_keep, under_fn, under_ptr, under_sl, Nat.lt_irrefl, not_lt_add, trim_tail, keepOk, ABlk.vals, Int.cast_ofNat_Int, decide_true, decide_false, List.all_cons, List.all_nil, Nat.zero_mul, Nat.mul_one, Nat.one_mul, g0, g1, g2, g3, g4, g5, g6, g7, g8, g9, r1, r2, r3, wk]
  · rw [hg] at g0 g1 g2 g3 g4 g5 g6 g7 g8 g9 r1 r2 r3
    have e0 : countW 0 = 0 := by decide
    simp only [cond_true, cond_false, Bool.not_true, Bool.not_false, Bool.false_or, Bool.true_or, Bool.true_and, Bool.false_and, e0] at g0 g1 g2 g3 g4 g5 g6 g7 g8 g9 r1 r2 r3
    simp -implicitDefEqProofs (maxSteps := 5000000) only [runI_nil, runI_o, runI_u, runI_og, runI_ug, runD_nil, runD_o, runD_rd, runD_hv, runD_hvu, runD_og, runD_rdg, runD_hvg, chk_nil, Nat.testBit, Nat.reduceShiftRight, Nat.reduceAnd, Nat.reduceBNe, bne_self_eq_false, eq_self, chk_cons, chk_if, runC_skip, runC_exit, runC_ret, runC_reg, runC_drw, runC_seq, runC_ite, runC_block, normR_some, seqR_normal, seqR_exit', seqR_ret, condR_bool, seqR_cond, blockR_cond, fin_cond, trim_cond, blockR_normal, blockR_ret, blockR_exit, fin_ret, fin_normal, res_nil, res_tmp, res_cell, oneOf_one, oneOf_nil, oneOf_two, gval_bool, gval_undef, keepH_some', guarded_true, guarded_false, guarded_some, gval_may, mayV_true, mayV_false, may_bin1, may_bin1w, may_bin2, may_bin2w, may_un, may_unw, may_load, may_loadw, may_fa, may_faw, may_fi, may_fiw, may_pk, may_pkw, may_cl1, may_cl1w, may_cl2, may_cl2w, may_cl3, may_cl3w, may_cl4, may_cl4w, may_cv, may_cvw, may_ia1, may_ia1w, may_ia2, may_ia2w, may_is1, may_is1w, may_is2, may_is2w, may_ix1, may_ix1w, may_ix2, may_ix2w, may_st1, may_st1w, may_st2, may_st2w, may_ls, may_lsw, may_ll, may_llw, may_ex, may_exw, may_bx, may_bxw, beq_tt, beq_ff, pick_bool, cond_may1, cond_may2, cond_may3, cond_and', cond_or', cond_boolV, cond_intV, box_int, box_bool, box_agg, not_bool, eq_bool, ne_bool, int_add, int_quo, int_rem, ne_eq, Int.reduceEq, not_false_eq_true, guarded_heap, int_sub, int_mul, int_eql, int_neq, int_lss, int_leq, int_gtr, int_geq, cells_end, cells_add, cells_zero, cells_zero', cells_succ, load_agg, load_one, readN, read1, trim_some_id, trim_app, under_int, under_bool, under_agg, under_tup, underAll_nil, underAll_cons, contI_some, contIu_some, contD_some, contR_some, contH_some, contHu_some, tst_true, onI_some, onIu_some, onD_some, onR_some, onH_some, sMov_ap, X_ap, K_ap, sPick_ap, sAlloc_ap, sBox_ap, sBuild_ap, sBuildSl_ap, sLoad_ap, sStore_ap, sNil_ap, sBin_ap, sUn_ap, sConv_ap, sFun_ap, sMake_ap, sSliceA_ap, sSliceS_ap, sFieldAddr_ap, sField_ap, sIdxAddrA_ap, sIdxAddrS_ap, sIdxA_ap, sIdxStr_ap, sExtract_ap, sLenStr_ap, sLenSl_ap, sLenArr_ap, sCapSl_ap, sMax_ap, sMin_ap, sCopy_ap, sAppN_ap, sApp_ap, sCall_ap, sCallV_ap, ap, fieldAddrS, fieldS, allocV, get_zero, get_succ, List.set_cons_zero, List.set_cons_succ, List.map_cons, List.map_nil, Option.bind_some, Option.map_some, List.length_cons, List.length_nil, List.length_append, List.cons_append, List.nil_append, List.append_nil, List.append_assoc, List.replicate_succ, List.replicate_zero, List.drop_zero, List.drop_succ_cons, List.take_zero, List.take_succ_cons, List.getElem?_cons_zero, List.getElem?_cons_succ, Nat.reduceAdd, Nat.reduceSub, Nat.reduceMul, Nat.reduceLeDiff, Nat.zero_add, Nat.add_zero, Nat.add_assoc, Nat.le_refl, if_true, if_false, Bool.true_and, Bool.and_true, Bool.true_or, Bool.or_true, Bool.false_or, Bool.or_false, Bool.false_and, Bool.and_false, Bool.not_true, Bool.not_false, cond_true, cond_false, reduceIte, reduceCtorEq, decide_true, decide_false, beq_self_eq_true, Nat.reduceBEq, Nat.reduceEqDiff, Nat.add_left_cancel_iff, wrap64, loop_run, runC_loop, runC_range, callF_fn, callV_fn, callV_yld, yield_eq, yieldBody, yieldRaw, roundMid, roundEnd, rangeEnd, Bool.not_not, put_cons, put_nil, trim_same, at_zero, at_add, set_zero, set_add, store_one, write_zero, write_add, write_head, write_succ, splice_one, splice_more, List.drop_nil, List.take_nil, cell_int, cell_bool, fillS, splice_one, idxA, Ex.isNormal, List.set_nil, List.length_set, List.all_cons, List.all_nil, Bool.and_self, and_self, true_and, and_true, List.getElem?_nil, Int.reduceLT, Int.reduceLE, Int.reduceToNat, Int.toNat_zero, Int.toNat_one, Int.reduceAdd, Int.reduceSub, Int.reduceMul, Int.reduceNeg, Int.reduceBEq, Int.reduceBNe, Int.reduceGE, Int.reduceGT, Nat.reduceLT, trim_keep, under_fn, under_ptr, under_sl, Nat.lt_irrefl, not_lt_add, trim_tail, keepOk, ABlk.vals, Int.cast_ofNat_Int, decide_true, decide_false, List.all_cons, List.all_nil, Nat.zero_mul, Nat.mul_one, Nat.one_mul, g0, g1, g2, g3, g4, g5, g6, g7, g8, g9, r1, r2, r3, wk]
end Go.Proofs.Ytbkjhapaacamnaa.G07

