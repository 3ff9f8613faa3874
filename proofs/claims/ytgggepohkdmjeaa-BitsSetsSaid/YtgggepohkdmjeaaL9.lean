/- What the functions that BitsSets reaches answer, for every argument. No condition but those in each statement. -/
import Derived.Test.YtgggepohkdmjeaaL8
set_option linter.unusedSimpArgs false
set_option linter.unusedVariables false
set_option maxRecDepth 10000
namespace Go.Proofs.Ytgggepohkdmjeaa.G09
open Go Go.Proofs.Ytgggepohkdmjeaa.Eng

set_option maxHeartbeats 4000000 in
theorem intsL {H : AHeap} {v w : AV} {zs : List Int} (b : IS H v zs) (c : IS H w zs) (hn : zs.length ≤ 1000000) (x2 x3 x6 x7 x8 x9 x10 : AV) : ∀ (m i : Nat) (j11 j12 j13 j14 j15 j16 j17 j18 j19 j20 j21 j22 j23 j24 j25 : AV), i + m = zs.length →
    ∃ (k5 k11 k12 k13 k14 k15 k16 k17 k18 k19 k20 k21 k22 k23 k24 k25 : AV), (envL prog).loop (runC (envL prog) (l16x0 (envL prog))) [v, w, x2, x3, .bool false, .int .i64 (i : Int), x6, x7, x8, x9, x10, j11, j12, j13, j14, j15, j16, j17, j18, j19, j20, j21, j22, j23, j24, j25] H =
      some (.exit 0, [v, w, x2, x3, .bool false, k5, x6, x7, x8, x9, x10, k11, k12, k13, k14, k15, k16, k17, k18, k19, k20, k21, k22, k23, k24, k25], H) := by
  intro m
  have hl := b.len
  induction m with
  | zero =>
    intro i j11 j12 j13 j14 j15 j16 j17 j18 j19 j20 j21 j22 j23 j24 j25 hi
    obtain rfl : i = zs.length := by omega
    have hd : decide ((zs.length : Int) < (zs.length : Int)) = false := by simp
    rw [loop_run]
    unfold l16x0
    simp -implicitDefEqProofs (maxSteps := 5000000) only [runI_nil, runI_o, runI_u, runI_og, runI_ug, runD_nil, runD_o, runD_rd, runD_hv, runD_hvu, runD_og, runD_rdg, runD_hvg, chk_nil, Nat.testBit, Nat.reduceShiftRight, Nat.reduceAnd, Nat.reduceBNe, bne_self_eq_false, eq_self, chk_cons, chk_if, runC_skip, runC_exit, runC_ret, runC_reg, runC_drw, runC_seq, runC_ite, runC_block, normR_some, seqR_normal, seqR_exit', seqR_ret, condR_bool, seqR_cond, blockR_cond, fin_cond, trim_cond, blockR_normal, blockR_ret, blockR_exit, fin_ret, fin_normal, res_nil, res_tmp, res_cell, oneOf_one, oneOf_nil, oneOf_two, gval_bool, gval_undef, keepH_some', guarded_true, guarded_false, guarded_some, gval_may, mayV_true, mayV_false, may_bin1, may_bin1w, may_bin2, may_bin2w, may_un, may_unw, may_load, may_loadw, may_fa, may_faw, may_fi, may_fiw, may_pk, may_pkw, may_cl1, may_cl1w, may_cl2, may_cl2w, may_cl3, may_cl3w, may_cl4, may_cl4w, may_cv, may_cvw, may_ia1, may_ia1w, may_ia2, may_ia2w, may_is1, may_is1w, may_is2, may_is2w, may_ix1, may_ix1w, may_ix2, may_ix2w, may_st1, may_st1w, may_st2, may_st2w, may_ls, may_lsw, may_ll, may_llw, may_ex, may_exw, may_bx, may_bxw, beq_tt, beq_ff, pick_bool, cond_may1, cond_may2, cond_may3, cond_and', cond_or', cond_boolV, cond_intV, box_int, box_bool, box_agg, not_bool, eq_bool, ne_bool, int_add, int_quo, int_rem, ne_eq, Int.reduceEq, not_false_eq_true, guarded_heap, int_sub, int_mul, int_eql, int_neq, int_lss, int_leq, int_gtr, int_geq, cells_end, cells_add, cells_zero, cells_zero', cells_succ, load_agg, load_one, readN, read1, trim_some_id, trim_app, under_int, under_bool, under_agg, under_tup, underAll_nil, underAll_cons, contI_some, contIu_some, contD_some, contR_some, contH_some, contHu_some, tst_true, onI_some, onIu_some, onD_some, onR_some, onH_some, sMov_ap, X_ap, K_ap, sPick_ap, sAlloc_ap, sBox_ap, sBuild_ap, sBuildSl_ap, sLoad_ap, sStore_ap, sNil_ap, sBin_ap, sUn_ap, sConv_ap, sFun_ap, sMake_ap, sSliceA_ap, sSliceS_ap, sFieldAddr_ap, sField_ap, sIdxAddrA_ap, sIdxAddrS_ap, sIdxA_ap, sIdxStr_ap, sExtract_ap, sLenStr_ap, sLenSl_ap, sLenArr_ap, sCapSl_ap, sMax_ap, sMin_ap, sCopy_ap, sAppN_ap, sApp_ap, sCall_ap, sCallV_ap, ap, fieldAddrS, fieldS, allocV, get_zero, get_succ, List.set_cons_zero, List.set_cons_succ, List.map_cons, List.map_nil, Option.bind_some, Option.map_some, List.length_cons, List.length_nil, List.length_append, List.cons_append, List.nil_append, List.append_nil, List.append_assoc, List.replicate_succ, List.replicate_zero, List.drop_zero, List.drop_succ_cons, List.take_zero, List.take_succ_cons, List.getElem?_cons_zero, List.getElem?_cons_succ, Nat.reduceAdd, Nat.reduceSub, Nat.reduceMul, Nat.reduceLeDiff, Nat.zero_add, Nat.add_zero, Nat.add_assoc, Nat.le_refl, if_true, if_false, Bool.true_and, Bool.and_true, Bool.true_or, Bool.or_true, Bool.false_or, Bool.or_false, Bool.false_and, Bool.and_false, Bool.not_true, Bool.not_false, cond_true, cond_false, reduceIte, reduceCtorEq, decide_true, decide_false, beq_self_eq_true, Nat.reduceBEq, Nat.reduceEqDiff, Nat.add_left_cancel_iff, and_self, true_and, splice_one, List.flatten_cons, List.flatten_nil, eq_nn, ne_nn, eq_pn, ne_pn, eq_snn, ne_snn, eq_ssn, ne_ssn, len_nil, len_sl, ext_tup, nil_ptr, under_nilPtr, under_nilSl, under_undef, min2, max2, conv_int, oneOf_three, fill_nil, fill_cons, cellsA_int, cellsA_bool, cellsA_agg, cellsA_ptr, cellsA_nilPtr, cellsA_nilSl, cellsA_sl, cellsA_fn, asI_none, asI_int, cell_ptr, cell_nilPtr, cell_nilSl, cell_sl, rep_len, rep_take, rep_cell, splice_rep, rep_under, eq_rep, idx_sl, o_loop, o_yield, hl, hd, seqR_exit']
    exact ⟨_, _, _, _, _, _, _, _, _, _, _, _, _, _, _, _, rfl⟩
  | succ m ih =>
    intro i j11 j12 j13 j14 j15 j16 j17 j18 j19 j20 j21 j22 j23 j24 j25 hi
    have hlt : i < zs.length := by omega
    have hd : decide ((i : Int) < (zs.length : Int)) = true := by simp; omega
    have h2 : IntKind.i64.wrap ((i : Int) + 1) = ((i + 1 : Nat) : Int) := by rw [wrap64 (by omega) (by omega)]; omega
    obtain ⟨a1, ha1, hl1⟩ := b.idx (List.getElem?_eq_getElem hlt) .i64
    obtain ⟨a2, ha2, hl2⟩ := c.idx (List.getElem?_eq_getElem hlt) .i64
    have hne : (zs[i]'hlt != zs[i]'hlt) = false := by simp
    obtain ⟨k5, k11, k12, k13, k14, k15, k16, k17, k18, k19, k20, k21, k22, k23, k24, k25, e⟩ := ih (i + 1) (.int .i64 i) v (.int .i64 zs.length) (.bool true) (.int .i64 i) (.int .i64 ((i + 1 : Nat) : Int)) v (.int .i64 i) a1 (.int .i64 (zs[i]'hlt)) w (.int .i64 i) a2 (.int .i64 (zs[i]'hlt)) (.bool false) (by omega)
    refine ⟨k5, k11, k12, k13, k14, k15, k16, k17, k18, k19, k20, k21, k22, k23, k24, k25, ?_⟩
    rw [← e, loop_run]
    conv => lhs; arg 1; unfold l16x0
    simp -implicitDefEqProofs (maxSteps := 5000000) only [runI_nil, runI_o, runI_u, runI_og, runI_ug, runD_nil, runD_o, runD_rd, runD_hv, runD_hvu, runD_og, runD_rdg, runD_hvg, chk_nil, Nat.testBit, Nat.reduceShiftRight, Nat.reduceAnd, Nat.reduceBNe, bne_self_eq_false, eq_self, chk_cons, chk_if, runC_skip, runC_exit, runC_ret, runC_reg, runC_drw, runC_seq, runC_ite, runC_block, normR_some, seqR_normal, seqR_exit', seqR_ret, condR_bool, seqR_cond, blockR_cond, fin_cond, trim_cond, blockR_normal, blockR_ret, blockR_exit, fin_ret, fin_normal, res_nil, res_tmp, res_cell, oneOf_one, oneOf_nil, oneOf_two, gval_bool, gval_undef, keepH_some', guarded_true, guarded_false, guarded_some, gval_may, mayV_true, mayV_false, may_bin1, may_bin1w, may_bin2, may_bin2w, may_un, may_unw, may_load, may_loadw, may_fa, may_faw, may_fi, may_fiw, may_pk, may_pkw, may_cl1, may_cl1w, may_cl2, may_cl2w, may_cl3, may_cl3w, may_cl4, may_cl4w, may_cv, may_cvw, may_ia1, may_ia1w, may_ia2, may_ia2w, may_is1, may_is1w, may_is2, may_is2w, may_ix1, may_ix1w, may_ix2, may_ix2w, may_st1, may_st1w, may_st2, may_st2w, may_ls, may_lsw, may_ll, may_llw, may_ex, may_exw, may_bx, may_bxw, beq_tt, beq_ff, pick_bool, cond_may1, cond_may2, cond_may3, cond_and', cond_or', cond_boolV, cond_intV, box_int, box_bool, box_agg, not_bool, eq_bool, ne_bool, int_add, int_quo, int_rem, ne_eq, Int.reduceEq, not_false_eq_true, guarded_heap, int_sub, int_mul, int_eql, int_neq, int_lss, int_leq, int_gtr, int_geq, cells_end, cells_add, cells_zero, cells_zero', cells_succ, load_agg, load_one, readN, read1, trim_some_id, trim_app, under_int, under_bool, under_agg, under_tup, underAll_nil, underAll_cons, contI_some, contIu_some, contD_some, contR_some, contH_some, contHu_some, tst_true, onI_some, onIu_some, onD_some, onR_some, onH_some, sMov_ap, X_ap, K_ap, sPick_ap, sAlloc_ap, sBox_ap, sBuild_ap, sBuildSl_ap, sLoad_ap, sStore_ap, sNil_ap, sBin_ap, sUn_ap, sConv_ap, sFun_ap, sMake_ap, sSliceA_ap, sSliceS_ap, sFieldAddr_ap, sField_ap, sIdxAddrA_ap, sIdxAddrS_ap, sIdxA_ap, sIdxStr_ap, sExtract_ap, sLenStr_ap, sLenSl_ap, sLenArr_ap, sCapSl_ap, sMax_ap, sMin_ap, sCopy_ap, sAppN_ap, sApp_ap, sCall_ap, sCallV_ap, ap, fieldAddrS, fieldS, allocV, get_zero, get_succ, List.set_cons_zero, List.set_cons_succ, List.map_cons, List.map_nil, Option.bind_some, Option.map_some, List.length_cons, List.length_nil, List.length_append, List.cons_append, List.nil_append, List.append_nil, List.append_assoc, List.replicate_succ, List.replicate_zero, List.drop_zero, List.drop_succ_cons, List.take_zero, List.take_succ_cons, List.getElem?_cons_zero, List.getElem?_cons_succ, Nat.reduceAdd, Nat.reduceSub, Nat.reduceMul, Nat.reduceLeDiff, Nat.zero_add, Nat.add_zero, Nat.add_assoc, Nat.le_refl, if_true, if_false, Bool.true_and, Bool.and_true, Bool.true_or, Bool.or_true, Bool.false_or, Bool.or_false, Bool.false_and, Bool.and_false, Bool.not_true, Bool.not_false, cond_true, cond_false, reduceIte, reduceCtorEq, decide_true, decide_false, beq_self_eq_true, Nat.reduceBEq, Nat.reduceEqDiff, Nat.add_left_cancel_iff, and_self, true_and, splice_one, List.flatten_cons, List.flatten_nil, eq_nn, ne_nn, eq_pn, ne_pn, eq_snn, ne_snn, eq_ssn, ne_ssn, len_nil, len_sl, ext_tup, nil_ptr, under_nilPtr, under_nilSl, under_undef, min2, max2, conv_int, oneOf_three, fill_nil, fill_cons, cellsA_int, cellsA_bool, cellsA_agg, cellsA_ptr, cellsA_nilPtr, cellsA_nilSl, cellsA_sl, cellsA_fn, asI_none, asI_int, cell_ptr, cell_nilPtr, cell_nilSl, cell_sl, rep_len, rep_take, rep_cell, splice_rep, rep_under, eq_rep, idx_sl, o_loop, o_yield, hl, hd, h2, ha1, hl1, ha2, hl2, hne]
/-- Two slices with the same numbers. -/
theorem intsC {H : AHeap} {v w : AV} {zs : List Int} (b : IS H v zs) (c : IS H w zs) (hn : zs.length ≤ 1000000) : (envL prog).call 16 [v, w] H = some (.bool true, H) := by
  obtain ⟨k5, k11, k12, k13, k14, k15, k16, k17, k18, k19, k20, k21, k22, k23, k24, k25, e⟩ := intsL b c hn .undef .undef v (.int .i64 zs.length) w (.int .i64 zs.length) (.bool false) zs.length 0 .undef .undef .undef .undef .undef .undef .undef .undef .undef .undef .undef .undef .undef .undef .undef (by omega)
  have hl := b.len
  have hl2 := c.len
  have hne : ((zs.length : Int) != (zs.length : Int)) = false := by simp
  rw [show ((0 : Nat) : Int) = 0 from rfl] at e
  rw [c16]
  unfold b16
  simp -implicitDefEqProofs (maxSteps := 5000000) only [runI_nil, runI_o, runI_u, runI_og, runI_ug, runD_nil, runD_o, runD_rd, runD_hv, runD_hvu, runD_og, runD_rdg, runD_hvg, chk_nil, Nat.testBit, Nat.reduceShiftRight, Nat.reduceAnd, Nat.reduceBNe, bne_self_eq_false, eq_self, chk_cons, chk_if, runC_skip, runC_exit, runC_ret, runC_reg, runC_drw, runC_seq, runC_ite, runC_block, normR_some, seqR_normal, seqR_exit', seqR_ret, condR_bool, seqR_cond, blockR_cond, fin_cond, trim_cond, blockR_normal, blockR_ret, blockR_exit, fin_ret, fin_normal, res_nil, res_tmp, res_cell, oneOf_one, oneOf_nil, oneOf_two, gval_bool, gval_undef, keepH_some', guarded_true, guarded_false, guarded_some, gval_may, mayV_true, mayV_false, may_bin1, may_bin1w, may_bin2, may_bin2w, may_un, may_unw, may_load, may_loadw, may_fa, may_faw, may_fi, may_fiw, may_pk, may_pkw, may_cl1, may_cl1w, may_cl2, may_cl2w, may_cl3, may_cl3w, may_cl4, may_cl4w, may_cv, may_cvw, may_ia1, may_ia1w, may_ia2, may_ia2w, may_is1, may_is1w, may_is2, may_is2w, may_ix1, may_ix1w, may_ix2, may_ix2w, may_st1, may_st1w, may_st2, may_st2w, may_ls, may_lsw, may_ll, may_llw, may_ex, may_exw, may_bx, may_bxw, beq_tt, beq_ff, pick_bool, cond_may1, cond_may2, cond_may3, cond_and', cond_or', cond_boolV, cond_intV, box_int, box_bool, box_agg, not_bool, eq_bool, ne_bool, int_add, int_quo, int_rem, ne_eq, Int.reduceEq, not_false_eq_true, guarded_heap, int_sub, int_mul, int_eql, int_neq, int_lss, int_leq, int_gtr, int_geq, cells_end, cells_add, cells_zero, cells_zero', cells_succ, load_agg, load_one, readN, read1, trim_some_id, trim_app, under_int, under_bool, under_agg, under_tup, underAll_nil, underAll_cons, contI_some, contIu_some, contD_some, contR_some, contH_some, contHu_some, tst_true, onI_some, onIu_some, onD_some, onR_some, onH_some, sMov_ap, X_ap, K_ap, sPick_ap, sAlloc_ap, sBox_ap, sBuild_ap, sBuildSl_ap, sLoad_ap, sStore_ap, sNil_ap, sBin_ap, sUn_ap, sConv_ap, sFun_ap, sMake_ap, sSliceA_ap, sSliceS_ap, sFieldAddr_ap, sField_ap, sIdxAddrA_ap, sIdxAddrS_ap, sIdxA_ap, sIdxStr_ap, sExtract_ap, sLenStr_ap, sLenSl_ap, sLenArr_ap, sCapSl_ap, sMax_ap, sMin_ap, sCopy_ap, sAppN_ap, sApp_ap, sCall_ap, sCallV_ap, ap, fieldAddrS, fieldS, allocV, get_zero, get_succ, List.set_cons_zero, List.set_cons_succ, List.map_cons, List.map_nil, Option.bind_some, Option.map_some, List.length_cons, List.length_nil, List.length_append, List.cons_append, List.nil_append, List.append_nil, List.append_assoc, List.replicate_succ, List.replicate_zero, List.drop_zero, List.drop_succ_cons, List.take_zero, List.take_succ_cons, List.getElem?_cons_zero, List.getElem?_cons_succ, Nat.reduceAdd, Nat.reduceSub, Nat.reduceMul, Nat.reduceLeDiff, Nat.zero_add, Nat.add_zero, Nat.add_assoc, Nat.le_refl, if_true, if_false, Bool.true_and, Bool.and_true, Bool.true_or, Bool.or_true, Bool.false_or, Bool.or_false, Bool.false_and, Bool.and_false, Bool.not_true, Bool.not_false, cond_true, cond_false, reduceIte, reduceCtorEq, decide_true, decide_false, beq_self_eq_true, Nat.reduceBEq, Nat.reduceEqDiff, Nat.add_left_cancel_iff, and_self, true_and, splice_one, List.flatten_cons, List.flatten_nil, eq_nn, ne_nn, eq_pn, ne_pn, eq_snn, ne_snn, eq_ssn, ne_ssn, len_nil, len_sl, ext_tup, nil_ptr, under_nilPtr, under_nilSl, under_undef, min2, max2, conv_int, oneOf_three, fill_nil, fill_cons, cellsA_int, cellsA_bool, cellsA_agg, cellsA_ptr, cellsA_nilPtr, cellsA_nilSl, cellsA_sl, cellsA_fn, asI_none, asI_int, cell_ptr, cell_nilPtr, cell_nilSl, cell_sl, rep_len, rep_take, rep_cell, splice_rep, rep_under, eq_rep, idx_sl, o_loop, o_yield, runC_loop, hl, hl2, hne, e]

/-! ### How many are in -/
/-- Of one byte. -/
def cnt (z : Int) : Nat → Nat
  | 0 => 0
  | r + 1 => cnt z r + if bitB z r then 1 else 0
theorem cnt_ones : ∀ z : Fin 256, ((cnt (z : Int) 8 : Nat) : Int) = ones (z : Int) := by decide +kernel
theorem hasS_at {zs : List Int} {q r : Nat} (hr : r < 8) (hq : q < zs.length) : hasS zs ((8 * q + r : Nat) : Int) = bitB (zs[q]'hq) (r : Int) := by
  unfold hasS
  have e1 : (((8 * q + r : Nat) : Int)).tdiv 8 = (q : Int) := by rw [Int.tdiv_eq_ediv_of_nonneg (by omega)]; omega
  have e2 : (((8 * q + r : Nat) : Int)).tmod 8 = (r : Int) := by rw [Int.tmod_eq_emod_of_nonneg (by omega)]; omega
  rw [e1, e2, Int.toNat_natCast, List.getElem?_eq_getElem hq, Option.getD_some]
  have d1 : decide ((((8 * q + r : Nat) : Int)) ≥ 0) = true := by simp; omega
  have d2 : decide ((q : Int) < (zs.length : Int)) = true := by simp; exact hq
  rw [d1, d2]; rfl
theorem allU_at (zs : List Int) (q : Nat) (hq : q < zs.length) : ∀ r, r ≤ 8 → (allU zs (8 * q + r)).length = (allU zs (8 * q)).length + cnt (zs[q]'hq) r
  | 0, _ => by simp [cnt]
  | r + 1, h => by
    have ih := allU_at zs q hq r (by omega)
    rw [← Nat.add_assoc]
    simp only [allU, cnt, hasS_at (show r < 8 by omega) hq]
    split <;> simp [ih]; omega
theorem allU_sum {zs : List Int} (hu : IsU8 zs) : ∀ q, q ≤ zs.length → ((allU zs (8 * q)).length : Int) = sumO (zs.take q)
  | 0, _ => by simp [allU, sumO]
  | q + 1, h => by
    have hq : q < zs.length := by omega
    have ih := allU_sum hu q (by omega)
    rw [show 8 * (q + 1) = 8 * q + 8 by omega, allU_at zs q hq 8 (Nat.le_refl _), sumO_take (List.getElem?_eq_getElem hq)]
    have hz := hu _ (List.getElem_mem hq)
    have := cnt_ones ⟨(zs[q]'hq).toNat, by omega⟩
    simp only [Int.toNat_of_nonneg hz.1] at this
    omega
theorem count_all {zs : List Int} (hu : IsU8 zs) : sumO zs = ((allS zs).length : Int) := by
  have := allU_sum hu zs.length (Nat.le_refl _)
  rw [List.take_length] at this
  exact this.symm
end Go.Proofs.Ytgggepohkdmjeaa.G09

