/- What the functions that GeomGrows reaches answer, for every argument. No condition but those in each statement. -/
import Derived.Test.YtbkjhapaacamnaaL6
set_option linter.unusedSimpArgs false
set_option linter.unusedVariables false
set_option maxRecDepth 10000
namespace Go.Proofs.Ytbkjhapaacamnaa.G07
open Go Go.Proofs.Ytbkjhapaacamnaa.Eng

theorem min2 (k k' : IntKind) (x y : Int) : minV [.int k x, .int k' y] = some (.int k (if y < x then y else x)) := rfl
theorem conv_int (k k' : IntKind) (n : Int) (h : AHeap) : convV (.int k) (.int k' n) h = some (.int k (k.wrap n)) := rfl

theorem grows_bad (b s w a r m : Int) (h : AHeap) (hg : goodB b s w a r = false) : (envL prog).call 5 [geo b s w a r, .int .u8 m] h = some (.bool true, h) := by
  rw [c5]
  unfold b5
  have wk := wakesG
  have g0 := goodL b s w a r
  have g1 := goodR b s w a r
  rw [hg] at g0 g1
  unfold geo at *
  simp -implicitDefEqProofs (maxSteps := 5000000) only [runI_nil, runI_o, runI_u, runI_og, runI_ug, runD_nil, runD_o, runD_rd, runD_hv, runD_hvu, runD_og, runD_rdg, runD_hvg, chk_nil, Nat.testBit, Nat.reduceShiftRight, Nat.reduceAnd, Nat.reduceBNe, bne_self_eq_false, eq_self, chk_cons, chk_if, runC_skip, runC_exit, runC_ret, runC_reg, runC_drw, runC_seq, runC_ite, runC_block, normR_some, seqR_normal, seqR_exit', seqR_ret, condR_bool, seqR_cond, blockR_cond, fin_cond, trim_cond, blockR_normal, blockR_ret, blockR_exit, fin_ret, fin_normal, res_nil, res_tmp, res_cell, oneOf_one, oneOf_nil, oneOf_two, gval_bool, gval_undef, keepH_some', guarded_true, guarded_false, guarded_some, gval_may, mayV_true, mayV_false, may_bin1, may_bin1w, may_bin2, may_bin2w, may_un, may_unw, may_load, may_loadw, may_fa, may_faw, may_fi, may_fiw, may_pk, may_pkw, may_cl1, may_cl1w, may_cl2, may_cl2w, may_cl3, may_cl3w, may_cl4, may_cl4w, may_cv, may_cvw, may_ia1, may_ia1w, may_ia2, may_ia2w, may_is1, may_is1w, may_is2, may_is2w, may_ix1, may_ix1w, may_ix2, may_ix2w, may_st1, may_st1w, may_st2, may_st2w, may_ls, may_lsw, may_ll, may_llw, may_ex, may_exw, may_bx, may_bxw, beq_tt, beq_ff, pick_bool, cond_may1, cond_may2, cond_may3, cond_and', cond_or', cond_boolV, cond_intV, box_int, box_bool, box_agg, not_bool, eq_bool, ne_bool, int_add, int_quo, int_rem, ne_eq, Int.reduceEq, not_false_eq_true, guarded_heap, int_sub, int_mul, int_eql, int_neq, int_lss, int_leq, int_gtr, int_geq, cells_end, cells_add, cells_zero, cells_zero', cells_succ, load_agg, load_one, readN, read1, trim_some_id, trim_app, under_int, under_bool, under_agg, under_tup, underAll_nil, underAll_cons, contI_some, contIu_some, contD_some, contR_some, contH_some, contHu_some, tst_true, onI_some, onIu_some, onD_some, onR_some, onH_some, sMov_ap, X_ap, K_ap, sPick_ap, sAlloc_ap, sBox_ap, sBuild_ap, sBuildSl_ap, sLoad_ap, sStore_ap, sNil_ap, sBin_ap, sUn_ap, sConv_ap, sFun_ap, sMake_ap, sSliceA_ap, sSliceS_ap, sFieldAddr_ap, sField_ap, sIdxAddrA_ap, sIdxAddrS_ap, sIdxA_ap, sIdxStr_ap, sExtract_ap, sLenStr_ap, sLenSl_ap, sLenArr_ap, sCapSl_ap, sMax_ap, sMin_ap, sCopy_ap, sAppN_ap, sApp_ap, sCall_ap, sCallV_ap, ap, fieldAddrS, fieldS, allocV, get_zero, get_succ, List.set_cons_zero, List.set_cons_succ, List.map_cons, List.map_nil, Option.bind_some, Option.map_some, List.length_cons, List.length_nil, List.length_append, List.cons_append, List.nil_append, List.append_nil, List.append_assoc, List.replicate_succ, List.replicate_zero, List.drop_zero, List.drop_succ_cons, List.take_zero, List.take_succ_cons, List.getElem?_cons_zero, List.getElem?_cons_succ, Nat.reduceAdd, Nat.reduceSub, Nat.reduceMul, Nat.reduceLeDiff, Nat.zero_add, Nat.add_zero, Nat.add_assoc, Nat.le_refl, if_true, if_false, Bool.true_and, Bool.and_true, Bool.true_or, Bool.or_true, Bool.false_or, Bool.or_false, Bool.false_and, Bool.and_false, Bool.not_true, Bool.not_false, cond_true, cond_false, reduceIte, reduceCtorEq, decide_true, decide_false, beq_self_eq_true, Nat.reduceBEq, Nat.reduceEqDiff, Nat.add_left_cancel_iff, g0, g1, wk]

theorem kay {m : Int} (h : 0 ≤ m ∧ m ≤ 255) : ∃ k : Int, 1 ≤ k ∧ k ≤ 8 ∧ IntKind.i64.wrap (1 + (IntKind.i64.wrap ((IntKind.i64.wrap m).tdiv 4)).tmod 8) = k := by
  rw [show IntKind.i64.wrap m = m from wrap64 (by omega) (by omega), Int.tdiv_eq_ediv_of_nonneg (by omega), show IntKind.i64.wrap (m / 4) = m / 4 from wrap64 (by omega) (by omega),
    Int.tmod_eq_emod_of_nonneg (by omega), show IntKind.i64.wrap (1 + m / 4 % 8) = 1 + m / 4 % 8 from wrap64 (by omega) (by omega)]
  exact ⟨_, by omega, by omega, rfl⟩

set_option maxHeartbeats 4000000 in
theorem grows0 (b s w a r m : Int) (h : AHeap) (hm : 0 ≤ m ∧ m ≤ 255) (h4 : m.tmod 4 = 0) (hg : goodB b s w a r = true) : (envL prog).call 5 [geo b s w a r, .int .u8 m] h = some (.bool true, h) := by
  rw [c5]
  unfold b5
  have wk := wakesG
  obtain ⟨n, y, c, N⟩ := nums hg
  obtain ⟨k, k1, k2, ek⟩ := kay hm
  have g0 := N.good
  have g1 := N.goodr
  have g2 := N.bytes
  have g3 := N.pages
  have g4 := N.slow
  have hN := N.hn; have hr := N.hr; have hec := N.ec; have hey := N.ey; have hb := N.hb; have ha := N.ha
  have b1 : IntKind.i64.wrap (b + 1) = b + 1 := wrap64 (by omega) (by omega)
  have q0 : ((0:Int) == 0) = true := rfl
  rcases Bool.eq_false_or_eq_true (goodB (b + 1) s w a r) with hh | hh
  · obtain ⟨n', y', c', M⟩ := nums hh
    have m0 := M.good
    have m1 := M.goodr
    have m2 := M.bytes
    have m3 := M.pages
    have m4 := M.slow
    have hy' := M.ey
    have hc' := M.ec
    have hn' := M.en
    have hn := N.en
    have hy9 : y' = 10 + n + (b + 1) + 8 * (4 + (b + 8) / 8 + (b + 1)) := by rw [hy', ← hn', hn]; rw [show b + 1 + 7 = b + 8 by omega]
    have e1 : IntKind.i64.wrap (y + 9) = y + 9 := wrap64 (by omega) (by omega)
    have e2 : IntKind.i64.wrap (y + 17) = y + 17 := wrap64 (by omega) (by omega)
    have e3 : IntKind.i64.wrap (b + a + 1) = b + a + 1 := wrap64 (by omega) (by omega)
    have d1 : decide (y' ≥ y + 9) = true := by simp; omega
    have d2 : decide (y' ≤ y + 17) = true := by simp; omega
    have d3 : decide (c' ≥ c) = true := by simp; omega
    have d4 : (b + 1 + a == b + a + 1) = true := by simp; omega
    unfold geo at *
    simp -implicitDefEqProofs (maxSteps := 5000000) only [runI_nil, runI_o, runI_u, runI_og, runI_ug, runD_nil, runD_o, runD_rd, runD_hv, runD_hvu, runD_og, runD_rdg, runD_hvg, chk_nil, Nat.testBit, Nat.reduceShiftRight, Nat.reduceAnd, Nat.reduceBNe, bne_self_eq_false, eq_self, chk_cons, chk_if, runC_skip, runC_exit, runC_ret, runC_reg, runC_drw, runC_seq, runC_ite, runC_block, normR_some, seqR_normal, seqR_exit', seqR_ret, condR_bool, seqR_cond, blockR_cond, fin_cond, trim_cond, blockR_normal, blockR_ret, blockR_exit, fin_ret, fin_normal, res_nil, res_tmp, res_cell, oneOf_one, oneOf_nil, oneOf_two, gval_bool, gval_undef, keepH_some', guarded_true, guarded_false, guarded_some, gval_may, mayV_true, mayV_false, may_bin1, may_bin1w, may_bin2, may_bin2w, may_un, may_unw, may_load, may_loadw, may_fa, may_faw, may_fi, may_fiw, may_pk, may_pkw, may_cl1, may_cl1w, may_cl2, may_cl2w, may_cl3, may_cl3w, may_cl4, may_cl4w, may_cv, may_cvw, may_ia1, may_ia1w, may_ia2, may_ia2w, may_is1, may_is1w, may_is2, may_is2w, may_ix1, may_ix1w, may_ix2, may_ix2w, may_st1, may_st1w, may_st2, may_st2w, may_ls, may_lsw, may_ll, may_llw, may_ex, may_exw, may_bx, may_bxw, beq_tt, beq_ff, pick_bool, cond_may1, cond_may2, cond_may3, cond_and', cond_or', cond_boolV, cond_intV, box_int, box_bool, box_agg, not_bool, eq_bool, ne_bool, int_add, int_quo, int_rem, ne_eq, Int.reduceEq, not_false_eq_true, guarded_heap, int_sub, int_mul, int_eql, int_neq, int_lss, int_leq, int_gtr, int_geq, cells_end, cells_add, cells_zero, cells_zero', cells_succ, load_agg, load_one, readN, read1, trim_some_id, trim_app, under_int, under_bool, under_agg, under_tup, underAll_nil, underAll_cons, contI_some, contIu_some, contD_some, contR_some, contH_some, contHu_some, tst_true, onI_some, onIu_some, onD_some, onR_some, onH_some, sMov_ap, X_ap, K_ap, sPick_ap, sAlloc_ap, sBox_ap, sBuild_ap, sBuildSl_ap, sLoad_ap, sStore_ap, sNil_ap, sBin_ap, sUn_ap, sConv_ap, sFun_ap, sMake_ap, sSliceA_ap, sSliceS_ap, sFieldAddr_ap, sField_ap, sIdxAddrA_ap, sIdxAddrS_ap, sIdxA_ap, sIdxStr_ap, sExtract_ap, sLenStr_ap, sLenSl_ap, sLenArr_ap, sCapSl_ap, sMax_ap, sMin_ap, sCopy_ap, sAppN_ap, sApp_ap, sCall_ap, sCallV_ap, ap, fieldAddrS, fieldS, allocV, get_zero, get_succ, List.set_cons_zero, List.set_cons_succ, List.map_cons, List.map_nil, Option.bind_some, Option.map_some, List.length_cons, List.length_nil, List.length_append, List.cons_append, List.nil_append, List.append_nil, List.append_assoc, List.replicate_succ, List.replicate_zero, List.drop_zero, List.drop_succ_cons, List.take_zero, List.take_succ_cons, List.getElem?_cons_zero, List.getElem?_cons_succ, Nat.reduceAdd, Nat.reduceSub, Nat.reduceMul, Nat.reduceLeDiff, Nat.zero_add, Nat.add_zero, Nat.add_assoc, Nat.le_refl, if_true, if_false, Bool.true_and, Bool.and_true, Bool.true_or, Bool.or_true, Bool.false_or, Bool.or_false, Bool.false_and, Bool.and_false, Bool.not_true, Bool.not_false, cond_true, cond_false, reduceIte, reduceCtorEq, decide_true, decide_false, beq_self_eq_true, Nat.reduceBEq, Nat.reduceEqDiff, Nat.add_left_cancel_iff, wrap64, loop_run, runC_loop, runC_range, callF_fn, callV_fn, callV_yld, yield_eq, yieldBody, yieldRaw, roundMid, roundEnd, rangeEnd, Bool.not_not, put_cons, put_nil, trim_same, at_zero, at_add, set_zero, set_add, store_one, write_zero, write_add, write_head, write_succ, splice_one, splice_more, List.drop_nil, List.take_nil, cell_int, cell_bool, fillS, splice_one, idxA, Ex.isNormal, List.set_nil, List.length_set, List.all_cons, List.all_nil, Bool.and_self, and_self, true_and, and_true, List.getElem?_nil, Int.reduceLT, Int.reduceLE, Int.reduceToNat, Int.toNat_zero, Int.toNat_one, Int.reduceAdd, Int.reduceSub, Int.reduceMul, Int.reduceNeg, Int.reduceBEq, Int.reduceBNe, Int.reduceGE, Int.reduceGT, Nat.reduceLT, trim_keep, under_fn, under_ptr, under_sl, Nat.lt_irrefl, not_lt_add, trim_tail, keepOk, ABlk.vals, Int.cast_ofNat_Int, decide_true, decide_false, List.all_cons, List.all_nil, Nat.zero_mul, Nat.mul_one, Nat.one_mul, min2, conv_int, h4, ek, g0, g1, g2, g3, g4, m0, m1, m2, m3, m4, wk, b1, e1, e2, e3, d1, d2, d3, d4, q0]
  · have m0 := goodL (b + 1) s w a r
    have m1 := goodR (b + 1) s w a r
    rw [hh] at m0 m1
    unfold geo at *
    simp -implicitDefEqProofs (maxSteps := 5000000) only [runI_nil, runI_o, runI_u, runI_og, runI_ug, runD_nil, runD_o, runD_rd, runD_hv, runD_hvu, runD_og, runD_rdg, runD_hvg, chk_nil, Nat.testBit, Nat.reduceShiftRight, Nat.reduceAnd, Nat.reduceBNe, bne_self_eq_false, eq_self, chk_cons, chk_if, runC_skip, runC_exit, runC_ret, runC_reg, runC_drw, runC_seq, runC_ite, runC_block, normR_some, seqR_normal, seqR_exit', seqR_ret, condR_bool, seqR_cond, blockR_cond, fin_cond, trim_cond, blockR_normal, blockR_ret, blockR_exit, fin_ret, fin_normal, res_nil, res_tmp, res_cell, oneOf_one, oneOf_nil, oneOf_two, gval_bool, gval_undef, keepH_some', guarded_true, guarded_false, guarded_some, gval_may, mayV_true, mayV_false, may_bin1, may_bin1w, may_bin2, may_bin2w, may_un, may_unw, may_load, may_loadw, may_fa, may_faw, may_fi, may_fiw, may_pk, may_pkw, may_cl1, may_cl1w, may_cl2, may_cl2w, may_cl3, may_cl3w, may_cl4, may_cl4w, may_cv, may_cvw, may_ia1, may_ia1w, may_ia2, may_ia2w, may_is1, may_is1w, may_is2, may_is2w, may_ix1, may_ix1w, may_ix2, may_ix2w, may_st1, may_st1w, may_st2, may_st2w, may_ls, may_lsw, may_ll, may_llw, may_ex, may_exw, may_bx, may_bxw, beq_tt, beq_ff, pick_bool, cond_may1, cond_may2, cond_may3, cond_and', cond_or', cond_boolV, cond_intV, box_int, box_bool, box_agg, not_bool, eq_bool, ne_bool, int_add, int_quo, int_rem, ne_eq, Int.reduceEq, not_false_eq_true, guarded_heap, int_sub, int_mul, int_eql, int_neq, int_lss, int_leq, int_gtr, int_geq, cells_end, cells_add, cells_zero, cells_zero', cells_succ, load_agg, load_one, readN, read1, trim_some_id, trim_app, under_int, under_bool, under_agg, under_tup, underAll_nil, underAll_cons, contI_some, contIu_some, contD_some, contR_some, contH_some, contHu_some, tst_true, onI_some, onIu_some, onD_some, onR_some, onH_some, sMov_ap, X_ap, K_ap, sPick_ap, sAlloc_ap, sBox_ap, sBuild_ap, sBuildSl_ap, sLoad_ap, sStore_ap, sNil_ap, sBin_ap, sUn_ap, sConv_ap, sFun_ap, sMake_ap, sSliceA_ap, sSliceS_ap, sFieldAddr_ap, sField_ap, sIdxAddrA_ap, sIdxAddrS_ap, sIdxA_ap, sIdxStr_ap, sExtract_ap, sLenStr_ap, sLenSl_ap, sLenArr_ap, sCapSl_ap, sMax_ap, sMin_ap, sCopy_ap, sAppN_ap, sApp_ap, sCall_ap, sCallV_ap, ap, fieldAddrS, fieldS, allocV, get_zero, get_succ, List.set_cons_zero, List.set_cons_succ, List.map_cons, List.map_nil, Option.bind_some, Option.map_some, List.length_cons, List.length_nil, List.length_append, List.cons_append, List.nil_append, List.append_nil, List.append_assoc, List.replicate_succ, List.replicate_zero, List.drop_zero, List.drop_succ_cons, List.take_zero, List.take_succ_cons, List.getElem?_cons_zero, List.getElem?_cons_succ, Nat.reduceAdd, Nat.reduceSub, Nat.reduceMul, Nat.reduceLeDiff, Nat.zero_add, Nat.add_zero, Nat.add_assoc, Nat.le_refl, if_true, if_false, Bool.true_and, Bool.and_true, Bool.true_or, Bool.or_true, Bool.false_or, Bool.or_false, Bool.false_and, Bool.and_false, Bool.not_true, Bool.not_false, cond_true, cond_false, reduceIte, reduceCtorEq, decide_true, decide_false, beq_self_eq_true, Nat.reduceBEq, Nat.reduceEqDiff, Nat.add_left_cancel_iff, wrap64, loop_run, runC_loop, runC_range, callF_fn, callV_fn, callV_yld, yield_eq, yieldBody, yieldRaw, roundMid, roundEnd, rangeEnd, Bool.not_not, put_cons, put_nil, trim_same, at_zero, at_add, set_zero, set_add, store_one, write_zero, write_add, write_head, write_succ, splice_one, splice_more, List.drop_nil, List.take_nil, cell_int, cell_bool, fillS, splice_one, idxA, Ex.isNormal, List.set_nil, List.length_set, List.all_cons, List.all_nil, Bool.and_self, and_self, true_and, and_true, List.getElem?_nil, Int.reduceLT, Int.reduceLE, Int.reduceToNat, Int.toNat_zero, Int.toNat_one, Int.reduceAdd, Int.reduceSub, Int.reduceMul, Int.reduceNeg, Int.reduceBEq, Int.reduceBNe, Int.reduceGE, Int.reduceGT, Nat.reduceLT, trim_keep, under_fn, under_ptr, under_sl, Nat.lt_irrefl, not_lt_add, trim_tail, keepOk, ABlk.vals, Int.cast_ofNat_Int, decide_true, decide_false, List.all_cons, List.all_nil, Nat.zero_mul, Nat.mul_one, Nat.one_mul, min2, conv_int, h4, ek, g0, g1, m0, m1, wk, b1, q0]

set_option maxHeartbeats 4000000 in
theorem grows1 (b s w a r m : Int) (h : AHeap) (hm : 0 ≤ m ∧ m ≤ 255) (h4 : m.tmod 4 = 1) (hg : goodB b s w a r = true) : (envL prog).call 5 [geo b s w a r, .int .u8 m] h = some (.bool true, h) := by
  rw [c5]
  unfold b5
  have wk := wakesG
  obtain ⟨n, y, c, N⟩ := nums hg
  obtain ⟨k, k1, k2, ek⟩ := kay hm
  have g0 := N.good
  have g1 := N.goodr
  have g2 := N.bytes
  have g3 := N.pages
  have g4 := N.slow
  have g5 := N.fast
  have hN := N.hn; have hr := N.hr; have hec := N.ec; have hey := N.ey; have hb := N.hb; have ha := N.ha
  have q0 : ((1:Int) == 0) = false := rfl
  have q1 : ((1:Int) == 1) = true := rfl
  have w1 : IntKind.i64.wrap (200 - a) = 200 - a := wrap64 (by omega) (by omega)
  obtain ⟨d, hd⟩ : ∃ d, (if 200 - a < k then 200 - a else k) = d := ⟨_, rfl⟩
  have hd1 : 0 ≤ d ∧ d ≤ 200 - a := by rw [← hd]; split <;> omega
  have w2 : IntKind.i64.wrap (a + d) = a + d := wrap64 (by omega) (by omega)
  have hh : goodB b s w (a + d) r = true := by
    have := hg
    unfold goodB shapeB at this ⊢
    simp only [Bool.and_eq_true] at this ⊢
    refine ⟨⟨this.1.1, ?_⟩, this.2⟩
    unfold btw; simp; omega
  obtain ⟨n', y', c', M⟩ := nums hh
  have m0 := M.good
  have m1 := M.goodr
  have m2 := M.bytes
  have m3 := M.pages
  have m4 := M.slow
  have m5 := M.fast
  obtain rfl : n' = n := by rw [← M.en, ← N.en]
  obtain rfl : y' = y := by rw [← M.eb, ← N.eb]
  obtain rfl : c' = c := by rw [← M.ep, ← N.ep]
  have e1 : IntKind.i64.wrap (b + a + (a + d)) = b + a + (a + d) := wrap64 (by omega) (by omega)
  have e2 : IntKind.i64.wrap (b + a + (a + d) - a) = b + a + (a + d) - a := wrap64 (by omega) (by omega)
  have d1 : (b + (a + d) == b + a + (a + d) - a) = true := by simp; omega
  unfold geo at *
  simp -implicitDefEqProofs (maxSteps := 5000000) only [runI_nil, runI_o, runI_u, runI_og, runI_ug, runD_nil, runD_o, runD_rd, runD_hv, runD_hvu, runD_og, runD_rdg, runD_hvg, chk_nil, Nat.testBit, Nat.reduceShiftRight, Nat.reduceAnd, Nat.reduceBNe, bne_self_eq_false, eq_self, chk_cons, chk_if, runC_skip, runC_exit, runC_ret, runC_reg, runC_drw, runC_seq, runC_ite, runC_block, normR_some, seqR_normal, seqR_exit', seqR_ret, condR_bool, seqR_cond, blockR_cond, fin_cond, trim_cond, blockR_normal, blockR_ret, blockR_exit, fin_ret, fin_normal, res_nil, res_tmp, res_cell, oneOf_one, oneOf_nil, oneOf_two, gval_bool, gval_undef, keepH_some', guarded_true, guarded_false, guarded_some, gval_may, mayV_true, mayV_false, may_bin1, may_bin1w, may_bin2, may_bin2w, may_un, may_unw, may_load, may_loadw, may_fa, may_faw, may_fi, may_fiw, may_pk, may_pkw, may_cl1, may_cl1w, may_cl2, may_cl2w, may_cl3, may_cl3w, may_cl4, may_cl4w, may_cv, may_cvw, may_ia1, may_ia1w, may_ia2, may_ia2w, may_is1, may_is1w, may_is2, may_is2w, may_ix1, may_ix1w, may_ix2, may_ix2w, may_st1, may_st1w, may_st2, may_st2w, may_ls, may_lsw, may_ll, may_llw, may_ex, may_exw, may_bx, may_bxw, beq_tt, beq_ff, pick_bool, cond_may1, cond_may2, cond_may3, cond_and', cond_or', cond_boolV, cond_intV, box_int, box_bool, box_agg, not_bool, eq_bool, ne_bool, int_add, int_quo, int_rem, ne_eq, Int.reduceEq, not_false_eq_true, guarded_heap, int_sub, int_mul, int_eql, int_neq, int_lss, int_leq, int_gtr, int_geq, cells_end, cells_add, cells_zero, cells_zero', cells_succ, load_agg, load_one, readN, read1, trim_some_id, trim_app, under_int, under_bool, under_agg, under_tup, underAll_nil, underAll_cons, contI_some, contIu_some, contD_some, contR_some, contH_some, contHu_some, tst_true, onI_some, onIu_some, onD_some, onR_some, onH_some, sMov_ap, X_ap, K_ap, sPick_ap, sAlloc_ap, sBox_ap, sBuild_ap, sBuildSl_ap, sLoad_ap, sStore_ap, sNil_ap, sBin_ap, sUn_ap, sConv_ap, sFun_ap, sMake_ap, sSliceA_ap, sSliceS_ap, sFieldAddr_ap, sField_ap, sIdxAddrA_ap, sIdxAddrS_ap, sIdxA_ap, sIdxStr_ap, sExtract_ap, sLenStr_ap, sLenSl_ap, sLenArr_ap, sCapSl_ap, sMax_ap, sMin_ap, sCopy_ap, sAppN_ap, sApp_ap, sCall_ap, sCallV_ap, ap, fieldAddrS, fieldS, allocV, get_zero, get_succ, List.set_cons_zero, List.set_cons_succ, List.map_cons, List.map_nil, Option.bind_some, Option.map_some, List.length_cons, List.length_nil, List.length_append, List.cons_append, List.nil_append, List.append_nil, List.append_assoc, List.replicate_succ, List.replicate_zero, List.drop_zero, List.drop_succ_cons, List.take_zero, List.take_succ_cons, List.getElem?_cons_zero, List.getElem?_cons_succ, Nat.reduceAdd, Nat.reduceSub, Nat.reduceMul, Nat.reduceLeDiff, Nat.zero_add, Nat.add_zero, Nat.add_assoc, Nat.le_refl, if_true, if_false, Bool.true_and, Bool.and_true, Bool.true_or, Bool.or_true, Bool.false_or, Bool.or_false, Bool.false_and, Bool.and_false, Bool.not_true, Bool.not_false, cond_true, cond_false, reduceIte, reduceCtorEq, decide_true, decide_false, beq_self_eq_true, Nat.reduceBEq, Nat.reduceEqDiff, Nat.add_left_cancel_iff, wrap64, loop_run, runC_loop, runC_range, callF_fn, callV_fn, callV_yld, yield_eq, yieldBody, yieldRaw, roundMid, roundEnd, rangeEnd, Bool.not_not, put_cons, put_nil, trim_same, at_zero, at_add, set_zero, set_add, store_one, write_zero, write_add, write_head, write_succ, splice_one, splice_more, List.drop_nil, List.take_nil, cell_int, cell_bool, fillS, splice_one, idxA, Ex.isNormal, List.set_nil, List.length_set, List.all_cons, List.all_nil, Bool.and_self, and_self, true_and, and_true, List.getElem?_nil, Int.reduceLT, Int.reduceLE, Int.reduceToNat, Int.toNat_zero, Int.toNat_one, Int.reduceAdd, Int.reduceSub, Int.reduceMul, Int.reduceNeg, Int.reduceBEq, Int.reduceBNe, Int.reduceGE, Int.reduceGT, Nat.reduceLT, trim_keep, under_fn, under_ptr, under_sl, Nat.lt_irrefl, not_lt_add, trim_tail, keepOk, ABlk.vals, Int.cast_ofNat_Int, decide_true, decide_false, List.all_cons, List.all_nil, Nat.zero_mul, Nat.mul_one, Nat.one_mul, min2, conv_int, h4, ek, hd, g0, g1, g2, g3, g4, g5, m0, m1, m2, m3, m4, m5, wk, w1, w2, e1, e2, d1, q0, q1]

set_option maxHeartbeats 4000000 in
theorem grows2 (b s w a r m : Int) (h : AHeap) (hm : 0 ≤ m ∧ m ≤ 255) (h4 : m.tmod 4 = 2) (hg : goodB b s w a r = true) : (envL prog).call 5 [geo b s w a r, .int .u8 m] h = some (.bool true, h) := by
  rw [c5]
  unfold b5
  have wk := wakesG
  obtain ⟨n, y, c, N⟩ := nums hg
  obtain ⟨k, k1, k2, ek⟩ := kay hm
  have g0 := N.good
  have g1 := N.goodr
  have g2 := N.bytes
  have g3 := N.pages
  have g4 := N.slow
  have g5 := N.fast
  have hN := N.hn; have hr := N.hr; have hec := N.ec; have hey := N.ey; have hb := N.hb; have ha := N.ha
  have q0 : ((2:Int) == 0) = false := rfl
  have q1 : ((2:Int) == 1) = false := rfl
  have q2 : ((2:Int) == 2) = true := rfl
  have w1 : IntKind.i64.wrap (256 - r) = 256 - r := wrap64 (by omega) (by omega)
  obtain ⟨d, hd⟩ : ∃ d, (if 256 - r < k then 256 - r else k) = d := ⟨_, rfl⟩
  have hd1 : 0 ≤ d ∧ d ≤ 256 - r := by rw [← hd]; split <;> omega
  have w2 : IntKind.i64.wrap (r + d) = r + d := wrap64 (by omega) (by omega)
  have hh : goodB b s w a (r + d) = true := by
    have := hg
    unfold goodB at this ⊢
    simp only [Bool.and_eq_true] at this ⊢
    refine ⟨this.1, ?_⟩
    rw [N.eb, N.ep]
    have e : IntKind.i64.wrap (c + 2) = c + 2 := wrap64 (by omega) (by omega)
    rw [e]; unfold btw; simp; omega
  obtain ⟨n', y', c', M⟩ := nums hh
  have m0 := M.good
  have m1 := M.goodr
  have m2 := M.bytes
  have m3 := M.pages
  have m4 := M.slow
  have m5 := M.fast
  obtain rfl : n' = n := by rw [← M.en, ← N.en]
  obtain rfl : y' = y := by rw [← M.eb, ← N.eb]
  obtain rfl : c' = c := by rw [← M.ep, ← N.ep]
  have e1 : IntKind.i64.wrap (2 + r + c' + n' + (r + d)) = 2 + r + c' + n' + (r + d) := wrap64 (by omega) (by omega)
  have e2 : IntKind.i64.wrap (2 + r + c' + n' + (r + d) - r) = 2 + r + c' + n' + (r + d) - r := wrap64 (by omega) (by omega)
  have d1 : (2 + (r + d) + c' + n' == 2 + r + c' + n' + (r + d) - r) = true := by simp; omega
  unfold geo at *
  simp -implicitDefEqProofs (maxSteps := 5000000) only [runI_nil, runI_o, runI_u, runI_og, runI_ug, runD_nil, runD_o, runD_rd, runD_hv, runD_hvu, runD_og, runD_rdg, runD_hvg, chk_nil, Nat.testBit, Nat.reduceShiftRight, Nat.reduceAnd, Nat.reduceBNe, bne_self_eq_false, eq_self, chk_cons, chk_if, runC_skip, runC_exit, runC_ret, runC_reg, runC_drw, runC_seq, runC_ite, runC_block, normR_some, seqR_normal, seqR_exit', seqR_ret, condR_bool, seqR_cond, blockR_cond, fin_cond, trim_cond, blockR_normal, blockR_ret, blockR_exit, fin_ret, fin_normal, res_nil, res_tmp, res_cell, oneOf_one, oneOf_nil, oneOf_two, gval_bool, gval_undef, keepH_some', guarded_true, guarded_false, guarded_some, gval_may, mayV_true, mayV_false, may_bin1, may_bin1w, may_bin2, may_bin2w, may_un, may_unw, may_load, may_loadw, may_fa, may_faw, may_fi, may_fiw, may_pk, may_pkw, may_cl1, may_cl1w, may_cl2, may_cl2w, may_cl3, may_cl3w, may_cl4, may_cl4w, may_cv, may_cvw, may_ia1, may_ia1w, may_ia2, may_ia2w, may_is1, may_is1w, may_is2, may_is2w, may_ix1, may_ix1w, may_ix2, may_ix2w, may_st1, may_st1w, may_st2, may_st2w, may_ls, may_lsw, may_ll, may_llw, may_ex, may_exw, may_bx, may_bxw, beq_tt, beq_ff, pick_bool, cond_may1, cond_may2, cond_may3, cond_and', cond_or', cond_boolV, cond_intV, box_int, box_bool, box_agg, not_bool, eq_bool, ne_bool, int_add, int_quo, int_rem, ne_eq, Int.reduceEq, not_false_eq_true, guarded_heap, int_sub, int_mul, int_eql, int_neq, int_lss, int_leq, int_gtr, int_geq, cells_end, cells_add, cells_zero, cells_zero', cells_succ, load_agg, load_one, readN, read1, trim_some_id, trim_app, under_int, under_bool, under_agg, under_tup, underAll_nil, underAll_cons, contI_some, contIu_some, contD_some, contR_some, contH_some, contHu_some, tst_true, onI_some, onIu_some, onD_some, onR_some, onH_some, sMov_ap, X_ap, K_ap, sPick_ap, sAlloc_ap, sBox_ap, sBuild_ap, sBuildSl_ap, sLoad_ap, sStore_ap, sNil_ap, sBin_ap, sUn_ap, sConv_ap, sFun_ap, sMake_ap, sSliceA_ap, sSliceS_ap, sFieldAddr_ap, sField_ap, sIdxAddrA_ap, sIdxAddrS_ap, sIdxA_ap, sIdxStr_ap, sExtract_ap, sLenStr_ap, sLenSl_ap, sLenArr_ap, sCapSl_ap, sMax_ap, sMin_ap, sCopy_ap, sAppN_ap, sApp_ap, sCall_ap, sCallV_ap, ap, fieldAddrS, fieldS, allocV, get_zero, get_succ, List.set_cons_zero, List.set_cons_succ, List.map_cons, List.map_nil, Option.bind_some, Option.map_some, List.length_cons, List.length_nil, List.length_append, List.cons_append, List.nil_append, List.append_nil, List.append_assoc, List.replicate_succ, List.replicate_zero, List.drop_zero, List.drop_succ_cons, List.take_zero, List.take_succ_cons, List.getElem?_cons_zero, List.getElem?_cons_succ, Nat.reduceAdd, Nat.reduceSub, Nat.reduceMul, Nat.reduceLeDiff, Nat.zero_add, Nat.add_zero, Nat.add_assoc, Nat.le_refl, if_true, if_false, Bool.true_and, Bool.and_true, Bool.true_or, Bool.or_true, Bool.false_or, Bool.or_false, Bool.false_and, Bool.and_false, Bool.not_true, Bool.not_false, cond_true, cond_false, reduceIte, reduceCtorEq, decide_true, decide_false, beq_self_eq_true, Nat.reduceBEq, Nat.reduceEqDiff, Nat.add_left_cancel_iff, wrap64, loop_run, runC_loop, runC_range, callF_fn, callV_fn, callV_yld, yield_eq, yieldBody, yieldRaw, roundMid, roundEnd, rangeEnd, Bool.not_not, put_cons, put_nil, trim_same, at_zero, at_add, set_zero, set_add, store_one, write_zero, write_add, write_head, write_succ, splice_one, splice_more, List.drop_nil, List.take_nil, cell_int, cell_bool, fillS, splice_one, idxA, Ex.isNormal, List.set_nil, List.length_set, List.all_cons, List.all_nil, Bool.and_self, and_self, true_and, and_true, List.getElem?_nil, Int.reduceLT, Int.reduceLE, Int.reduceToNat, Int.toNat_zero, Int.toNat_one, Int.reduceAdd, Int.reduceSub, Int.reduceMul, Int.reduceNeg, Int.reduceBEq, Int.reduceBNe, Int.reduceGE, Int.reduceGT, Nat.reduceLT, trim_keep, under_fn, under_ptr, under_sl, Nat.lt_irrefl, not_lt_add, trim_tail, keepOk, ABlk.vals, Int.cast_ofNat_Int, decide_true, decide_false, List.all_cons, List.all_nil, Nat.zero_mul, Nat.mul_one, Nat.one_mul, min2, conv_int, h4, ek, hd, g0, g1, g2, g3, g4, g5, m0, m1, m2, m3, m4, m5, wk, w1, w2, e1, e2, d1, q0, q1, q2]

set_option maxHeartbeats 4000000 in
theorem grows3 (b s w a r m : Int) (h : AHeap) (hm : 0 ≤ m ∧ m ≤ 255) (h4 : m.tmod 4 = 3) (hg : goodB b s w a r = true) : (envL prog).call 5 [geo b s w a r, .int .u8 m] h = some (.bool true, h) := by
  rw [c5]
  unfold b5
  have wk := wakesG
  obtain ⟨n, y, c, N⟩ := nums hg
  obtain ⟨k, k1, k2, ek⟩ := kay hm
  have g0 := N.good
  have g1 := N.goodr
  have g2 := N.bytes
  have g3 := N.pages
  have g4 := N.slow
  have g5 := N.fast
  have hN := N.hn; have hr := N.hr; have hec := N.ec; have hey := N.ey; have hb := N.hb; have ha := N.ha; have hs := N.hs; have hw := N.hw
  have q0 : ((3:Int) == 0) = false := rfl
  have q1 : ((3:Int) == 1) = false := rfl
  have q2 : ((3:Int) == 2) = false := rfl
  have q3 : ((3:Int) == 3) = true := rfl
  have b1 : IntKind.i64.wrap (s + 1) = s + 1 := wrap64 (by omega) (by omega)
  rcases Bool.eq_false_or_eq_true (goodB b (s + 1) w a r) with hh | hh
  · obtain ⟨n', y', c', M⟩ := nums hh
    have m0 := M.good
    have m1 := M.goodr
    have m2 := M.bytes
    have m3 := M.pages
    have m4 := M.slow
    have m5 := M.fast
    have hy' := M.ey
    have hc' := M.ec
    have hr' := M.hr
    have hn' : n' = n + w := by rw [← M.en, ← N.en, Int.add_mul, Int.one_mul]
    have e1 : IntKind.i64.wrap (y + w) = y + w := wrap64 (by omega) (by omega)
    have e2 : IntKind.i64.wrap (2 + r + c + n + w) = 2 + r + c + n + w := wrap64 (by omega) (by omega)
    have e3 : IntKind.i64.wrap (2 + r + c + n + w + c') = 2 + r + c + n + w + c' := wrap64 (by omega) (by omega)
    have e4 : IntKind.i64.wrap (2 + r + c + n + w + c' - c) = 2 + r + c + n + w + c' - c := wrap64 (by omega) (by omega)
    have d1 : (y' == y + w) = true := by simp; omega
    have d2 : (2 + r + c' + n' == 2 + r + c + n + w + c' - c) = true := by simp; omega
    unfold geo at *
    simp -implicitDefEqProofs (maxSteps := 5000000) only [runI_nil, runI_o, runI_u, runI_og, runI_ug, runD_nil, runD_o, runD_rd, runD_hv, runD_hvu, runD_og, runD_rdg, runD_hvg, chk_nil, Nat.testBit, Nat.reduceShiftRight, Nat.reduceAnd, Nat.reduceBNe, bne_self_eq_false, eq_self, chk_cons, chk_if, runC_skip, runC_exit, runC_ret, runC_reg, runC_drw, runC_seq, runC_ite, runC_block, normR_some, seqR_normal, seqR_exit', seqR_ret, condR_bool, seqR_cond, blockR_cond, fin_cond, trim_cond, blockR_normal, blockR_ret, blockR_exit, fin_ret, fin_normal, res_nil, res_tmp, res_cell, oneOf_one, oneOf_nil, oneOf_two, gval_bool, gval_undef, keepH_some', guarded_true, guarded_false, guarded_some, gval_may, mayV_true, mayV_false, may_bin1, may_bin1w, may_bin2, may_bin2w, may_un, may_unw, may_load, may_loadw, may_fa, may_faw, may_fi, may_fiw, may_pk, may_pkw, may_cl1, may_cl1w, may_cl2, may_cl2w, may_cl3, may_cl3w, may_cl4, may_cl4w, may_cv, may_cvw, may_ia1, may_ia1w, may_ia2, may_ia2w, may_is1, may_is1w, may_is2, may_is2w, may_ix1, may_ix1w, may_ix2, may_ix2w, may_st1, may_st1w, may_st2, may_st2w, may_ls, may_lsw, may_ll, may_llw, may_ex, may_exw, may_bx, may_bxw, beq_tt, beq_ff, pick_bool, cond_may1, cond_may2, cond_may3, cond_and', cond_or', cond_boolV, cond_intV, box_int, box_bool, box_agg, not_bool, eq_bool, ne_bool, int_add, int_quo, int_rem, ne_eq, Int.reduceEq, not_false_eq_true, guarded_heap, int_sub, int_mul, int_eql, int_neq, int_lss, int_leq, int_gtr, int_geq, cells_end, cells_add, cells_zero, cells_zero', cells_succ, load_agg, load_one, readN, read1, trim_some_id, trim_app, under_int, under_bool, under_agg, under_tup, underAll_nil, underAll_cons, contI_some, contIu_some, contD_some, contR_some, contH_some, contHu_some, tst_true, onI_some, onIu_some, onD_some, onR_some, onH_some, sMov_ap, X_ap, K_ap, sPick_ap, sAlloc_ap, sBox_ap, sBuild_ap, sBuildSl_ap, sLoad_ap, sStore_ap, sNil_ap, sBin_ap, sUn_ap, sConv_ap, sFun_ap, sMake_ap, sSliceA_ap, sSliceS_ap, sFieldAddr_ap, sField_ap, sIdxAddrA_ap, sIdxAddrS_ap, sIdxA_ap, sIdxStr_ap, sExtract_ap, sLenStr_ap, sLenSl_ap, sLenArr_ap, sCapSl_ap, sMax_ap, sMin_ap, sCopy_ap, sAppN_ap, sApp_ap, sCall_ap, sCallV_ap, ap, fieldAddrS, fieldS, allocV, get_zero, get_succ, List.set_cons_zero, List.set_cons_succ, List.map_cons, List.map_nil, Option.bind_some, Option.map_some, List.length_cons, List.length_nil, List.length_append, List.cons_append, List.nil_append, List.append_nil, List.append_assoc, List.replicate_succ, List.replicate_zero, List.drop_zero, List.drop_succ_cons, List.take_zero, List.take_succ_cons, List.getElem?_cons_zero, List.getElem?_cons_succ, Nat.reduceAdd, Nat.reduceSub, Nat.reduceMul, Nat.reduceLeDiff, Nat.zero_add, Nat.add_zero, Nat.add_assoc, Nat.le_refl, if_true, if_false, Bool.true_and, Bool.and_true, Bool.true_or, Bool.or_true, Bool.false_or, Bool.or_false, Bool.false_and, Bool.and_false, Bool.not_true, Bool.not_false, cond_true, cond_false, reduceIte, reduceCtorEq, decide_true, decide_false, beq_self_eq_true, Nat.reduceBEq, Nat.reduceEqDiff, Nat.add_left_cancel_iff, wrap64, loop_run, runC_loop, runC_range, callF_fn, callV_fn, callV_yld, yield_eq, yieldBody, yieldRaw, roundMid, roundEnd, rangeEnd, Bool.not_not, put_cons, put_nil, trim_same, at_zero, at_add, set_zero, set_add, store_one, write_zero, write_add, write_head, write_succ, splice_one, splice_more, List.drop_nil, List.take_nil, cell_int, cell_bool, fillS, splice_one, idxA, Ex.isNormal, List.set_nil, List.length_set, List.all_cons, List.all_nil, Bool.and_self, and_self, true_and, and_true, List.getElem?_nil, Int.reduceLT, Int.reduceLE, Int.reduceToNat, Int.toNat_zero, Int.toNat_one, Int.reduceAdd, Int.reduceSub, Int.reduceMul, Int.reduceNeg, Int.reduceBEq, Int.reduceBNe, Int.reduceGE, Int.reduceGT, Nat.reduceLT, trim_keep, under_fn, under_ptr, under_sl, Nat.lt_irrefl, not_lt_add, trim_tail, keepOk, ABlk.vals, Int.cast_ofNat_Int, decide_true, decide_false, List.all_cons, List.all_nil, Nat.zero_mul, Nat.mul_one, Nat.one_mul, min2, conv_int, h4, ek, g0, g1, g2, g3, g4, g5, m0, m1, m2, m3, m4, m5, wk, b1, e1, e2, e3, e4, d1, d2, q0, q1, q2, q3]
  · have m0 := goodL b (s + 1) w a r
    have m1 := goodR b (s + 1) w a r
    rw [hh] at m0 m1
    unfold geo at *
    simp -implicitDefEqProofs (maxSteps := 5000000) only [runI_nil, runI_o, runI_u, runI_og, runI_ug, runD_nil, runD_o, runD_rd, runD_hv, runD_hvu, runD_og, runD_rdg, runD_hvg, chk_nil, Nat.testBit, Nat.reduceShiftRight, Nat.reduceAnd, Nat.reduceBNe, bne_self_eq_false, eq_self, chk_cons, chk_if, runC_skip, runC_exit, runC_ret, runC_reg, runC_drw, runC_seq, runC_ite, runC_block, normR_some, seqR_normal, seqR_exit', seqR_ret, condR_bool, seqR_cond, blockR_cond, fin_cond, trim_cond, blockR_normal, blockR_ret, blockR_exit, fin_ret, fin_normal, res_nil, res_tmp, res_cell, oneOf_one, oneOf_nil, oneOf_two, gval_bool, gval_undef, keepH_some', guarded_true, guarded_false, guarded_some, gval_may, mayV_true, mayV_false, may_bin1, may_bin1w, may_bin2, may_bin2w, may_un, may_unw, may_load, may_loadw, may_fa, may_faw, may_fi, may_fiw, may_pk, may_pkw, may_cl1, may_cl1w, may_cl2, may_cl2w, may_cl3, may_cl3w, may_cl4, may_cl4w, may_cv, may_cvw, may_ia1, may_ia1w, may_ia2, may_ia2w, may_is1, may_is1w, may_is2, may_is2w, may_ix1, may_ix1w, may_ix2, may_ix2w, may_st1, may_st1w, may_st2, may_st2w, may_ls, may_lsw, may_ll, may_llw, may_ex, may_exw, may_bx, may_bxw, beq_tt, beq_ff, pick_bool, cond_may1, cond_may2, cond_may3, cond_and', cond_or', cond_boolV, cond_intV, box_int, box_bool, box_agg, not_bool, eq_bool, ne_bool, int_add, int_quo, int_rem, ne_eq, Int.reduceEq, not_false_eq_true, guarded_heap, int_sub, int_mul, int_eql, int_neq, int_lss, int_leq, int_gtr, int_geq, cells_end, cells_add, cells_zero, cells_zero', cells_succ, load_agg, load_one, readN, read1, trim_some_id, trim_app, under_int, under_bool, under_agg, under_tup, underAll_nil, underAll_cons, contI_some, contIu_some, contD_some, contR_some, contH_some, contHu_some, tst_true, onI_some, onIu_some, onD_some, onR_some, onH_some, sMov_ap, X_ap, K_ap, sPick_ap, sAlloc_ap, sBox_ap, sBuild_ap, sBuildSl_ap, sLoad_ap, sStore_ap, sNil_ap, sBin_ap, sUn_ap, sConv_ap, sFun_ap, sMake_ap, sSliceA_ap, sSliceS_ap, sFieldAddr_ap, sField_ap, sIdxAddrA_ap, sIdxAddrS_ap, sIdxA_ap, sIdxStr_ap, sExtract_ap, sLenStr_ap, sLenSl_ap, sLenArr_ap, sCapSl_ap, sMax_ap, sMin_ap, sCopy_ap, sAppN_ap, sApp_ap, sCall_ap, sCallV_ap, ap, fieldAddrS, fieldS, allocV, get_zero, get_succ, List.set_cons_zero, List.set_cons_succ, List.map_cons, List.map_nil, Option.bind_some, Option.map_some, List.length_cons, List.length_nil, List.length_append, List.cons_append, List.nil_append, List.append_nil, List.append_assoc, List.replicate_succ, List.replicate_zero, List.drop_zero, List.drop_succ_cons, List.take_zero, List.take_succ_cons, List.getElem?_cons_zero, List.getElem?_cons_succ, Nat.reduceAdd, Nat.reduceSub, Nat.reduceMul, Nat.reduceLeDiff, Nat.zero_add, Nat.add_zero, Nat.add_assoc, Nat.le_refl, if_true, if_false, Bool.true_and, Bool.and_true, Bool.true_or, Bool.or_true, Bool.false_or, Bool.or_false, Bool.false_and, Bool.and_false, Bool.not_true, Bool.not_false, cond_true, cond_false, reduceIte, reduceCtorEq, decide_true, decide_false, beq_self_eq_true, Nat.reduceBEq, Nat.reduceEqDiff, Nat.add_left_cancel_iff, wrap64, loop_run, runC_loop, runC_range, callF_fn, callV_fn, callV_yld, yield_eq, yieldBody, yieldRaw, roundMid, roundEnd, rangeEnd, Bool.not_not, put_cons, put_nil, trim_same, at_zero, at_add, set_zero, set_add, store_one, write_zero, write_add, write_head, write_succ, splice_one, splice_more, List.drop_nil, List.take_nil, cell_int, cell_bool, fillS, splice_one, idxA, Ex.isNormal, List.set_nil, List.length_set, List.all_cons, List.all_nil, Bool.and_self, and_self, true_and, and_true, List.getElem?_nil, Int.reduceLT, Int.reduceLE, Int.reduceToNat, Int.toNat_zero, Int.toNat_one, Int.reduceAdd, Int.reduceSub, Int.reduceMul, Int.reduceNeg, Int.reduceBEq, Int.reduceBNe, Int.reduceGE, Int.reduceGT, Nat.reduceLT, trim_keep, under_fn, under_ptr, under_sl, Nat.lt_irrefl, not_lt_add, trim_tail, keepOk, ABlk.vals, Int.cast_ofNat_Int, decide_true, decide_false, List.all_cons, List.all_nil, Nat.zero_mul, Nat.mul_one, Nat.one_mul, min2, conv_int, h4, ek, g0, g1, m0, m1, wk, b1, q0, q1, q2, q3]

theorem grows (b s w a r m : Int) (h : AHeap) (hm : 0 ≤ m ∧ m ≤ 255) : (envL prog).call 5 [geo b s w a r, .int .u8 m] h = some (.bool true, h) := by
  rcases Bool.eq_false_or_eq_true (goodB b s w a r) with hg | hg
  · have e := Int.tmod_eq_emod_of_nonneg (b := 4) hm.1
    have : m.tmod 4 = 0 ∨ m.tmod 4 = 1 ∨ m.tmod 4 = 2 ∨ m.tmod 4 = 3 := by omega
    rcases this with h4 | h4 | h4 | h4
    · exact grows0 b s w a r m h hm h4 hg
    · exact grows1 b s w a r m h hm h4 hg
    · exact grows2 b s w a r m h hm h4 hg
    · exact grows3 b s w a r m h hm h4 hg
  · exact grows_bad b s w a r m h hg
end Go.Proofs.Ytbkjhapaacamnaa.G07

