/- What the functions that BitsSets reaches answer, for every argument. No condition but those in each statement. -/
import Derived.Test.YtgggepohkdmjeaaL1
set_option linter.unusedSimpArgs false
set_option linter.unusedVariables false
set_option maxRecDepth 10000
namespace Go.Proofs.Ytgggepohkdmjeaa.G09
open Go Go.Proofs.Ytgggepohkdmjeaa.Eng

/-- A slice that was made anew. -/
def Own (H : AHeap) (v : AV) (G : AHeap) (zs : List Int) : Prop :=
  (zs = [] ∧ ((v = .nilSl ∧ G = []) ∨ (v = .sl H.length 0 1 0 0 true ∧ G = [.rw []]))) ∨ (zs ≠ [] ∧ v = .sl (H.length + 1) 0 1 zs.length zs.length false ∧ G = [.rw [], .rw (u8s zs)])
theorem Own.bs {H : AHeap} {v : AV} {G : AHeap} {zs : List Int} (h : Own H v G zs) : BS (H ++ G) v zs := by
  rcases h with ⟨rfl, ⟨rfl, rfl⟩ | ⟨rfl, rfl⟩⟩ | ⟨_, rfl, rfl⟩
  · exact BS.nil _
  · exact BS.block (zs := []) (b := H.length) (by simp [u8s])
  · exact BS.block (by simp)

theorem app_copy {H : AHeap} {v : AV} {zs : List Int} (b : BS H v zs) (hn : zs.length ≤ 100000) : ∃ v' G, Own H v' G zs ∧ v' ≠ .nilSl ∧ app (ty 1 false 1 [.int .u8 0]) (.sl H.length 0 1 0 0 true) v (H ++ [.rw []]) = some (v', H ++ G) := by
  have hr := (b.mono [.rw []]).read
  by_cases h0 : zs = []
  · subst h0
    refine ⟨.sl H.length 0 1 0 0 true, [.rw []], .inl ⟨rfl, .inr ⟨rfl, rfl⟩⟩, by simp, ?_⟩
    unfold app
    rw [hr.1]
    simp only [Option.bind_some, show (ty 1 false 1 [AV.int .u8 0]).size = 1 from rfl]
    have h2 := hr.2
    simp only [List.length_nil] at h2 ⊢
    rw [h2]
    rfl
  · have hpos : 0 < zs.length := List.length_pos_iff.2 h0
    refine ⟨.sl (H.length + 1) 0 1 zs.length zs.length false, [.rw [], .rw (u8s zs)], .inr ⟨h0, rfl, rfl⟩, by simp, ?_⟩
    unfold app
    rw [hr.1]
    simp only [Option.bind_some, show (ty 1 false 1 [AV.int .u8 0]).size = 1 from rfl, hr.2]
    unfold appendV
    simp only [show (ty 1 false 1 [AV.int .u8 0]).size = 1 from rfl, show (ty 1 false 1 [AV.int .u8 0]).bytes = 1 from rfl]
    have h1 : ¬ ((1 : Nat) ≠ 1 ∨ (1 : Nat) = 0) := by simp
    have h3 : ¬ (0 + zs.length ≤ 0) := by omega
    have h4 : 1 ≤ 1 ∧ (0 + zs.length) * 1 ≤ roomy := ⟨by omega, by unfold roomy; omega⟩
    rw [if_neg h1, if_neg (by omega), if_neg h3, if_pos h4]
    have hz : readN (H ++ [.rw []]) H.length 0 (0 * 1) = some [] := by unfold readN cellsOf; simp
    rw [hz]
    simp

theorem cloneC {H : AHeap} {v : AV} {zs : List Int} (b : BS H v zs) (hn : zs.length ≤ 100000) : ∃ v' G, Own H v' G zs ∧ (envL prog).call 22 [v] H = some (v', H ++ G) := by
  by_cases hv : v = .nilSl
  · subst hv
    have hz : zs = [] := by
      rcases b with ⟨_, h⟩ | ⟨_, _, _, _, _, h, _⟩
      · exact h
      · cases h
    subst hz
    refine ⟨.nilSl, [], .inl ⟨rfl, .inl ⟨rfl, rfl⟩⟩, ?_⟩
    rw [c22]
    unfold b22
    simp -implicitDefEqProofs (maxSteps := 5000000) only [runI_nil, runI_o, runI_u, runI_og, runI_ug, runD_nil, runD_o, runD_rd, runD_hv, runD_hvu, runD_og, runD_rdg, runD_hvg, chk_nil, Nat.testBit, Nat.reduceShiftRight, Nat.reduceAnd, Nat.reduceBNe, bne_self_eq_false, eq_self, chk_cons, chk_if, runC_skip, runC_exit, runC_ret, runC_reg, runC_drw, runC_seq, runC_ite, runC_block, normR_some, seqR_normal, seqR_exit', seqR_ret, condR_bool, seqR_cond, blockR_cond, fin_cond, trim_cond, blockR_normal, blockR_ret, blockR_exit, fin_ret, fin_normal, res_nil, res_tmp, res_cell, oneOf_one, oneOf_nil, oneOf_two, gval_bool, gval_undef, keepH_some', guarded_true, guarded_false, guarded_some, gval_may, mayV_true, mayV_false, may_bin1, may_bin1w, may_bin2, may_bin2w, may_un, may_unw, may_load, may_loadw, may_fa, may_faw, may_fi, may_fiw, may_pk, may_pkw, may_cl1, may_cl1w, may_cl2, may_cl2w, may_cl3, may_cl3w, may_cl4, may_cl4w, may_cv, may_cvw, may_ia1, may_ia1w, may_ia2, may_ia2w, may_is1, may_is1w, may_is2, may_is2w, may_ix1, may_ix1w, may_ix2, may_ix2w, may_st1, may_st1w, may_st2, may_st2w, may_ls, may_lsw, may_ll, may_llw, may_ex, may_exw, may_bx, may_bxw, beq_tt, beq_ff, pick_bool, cond_may1, cond_may2, cond_may3, cond_and', cond_or', cond_boolV, cond_intV, box_int, box_bool, box_agg, not_bool, eq_bool, ne_bool, int_add, int_quo, int_rem, ne_eq, Int.reduceEq, not_false_eq_true, guarded_heap, int_sub, int_mul, int_eql, int_neq, int_lss, int_leq, int_gtr, int_geq, cells_end, cells_add, cells_zero, cells_zero', cells_succ, load_agg, load_one, readN, read1, trim_some_id, trim_app, under_int, under_bool, under_agg, under_tup, underAll_nil, underAll_cons, contI_some, contIu_some, contD_some, contR_some, contH_some, contHu_some, tst_true, onI_some, onIu_some, onD_some, onR_some, onH_some, sMov_ap, X_ap, K_ap, sPick_ap, sAlloc_ap, sBox_ap, sBuild_ap, sBuildSl_ap, sLoad_ap, sStore_ap, sNil_ap, sBin_ap, sUn_ap, sConv_ap, sFun_ap, sMake_ap, sSliceA_ap, sSliceS_ap, sFieldAddr_ap, sField_ap, sIdxAddrA_ap, sIdxAddrS_ap, sIdxA_ap, sIdxStr_ap, sExtract_ap, sLenStr_ap, sLenSl_ap, sLenArr_ap, sCapSl_ap, sMax_ap, sMin_ap, sCopy_ap, sAppN_ap, sApp_ap, sCall_ap, sCallV_ap, ap, fieldAddrS, fieldS, allocV, get_zero, get_succ, List.set_cons_zero, List.set_cons_succ, List.map_cons, List.map_nil, Option.bind_some, Option.map_some, List.length_cons, List.length_nil, List.length_append, List.cons_append, List.nil_append, List.append_nil, List.append_assoc, List.replicate_succ, List.replicate_zero, List.drop_zero, List.drop_succ_cons, List.take_zero, List.take_succ_cons, List.getElem?_cons_zero, List.getElem?_cons_succ, Nat.reduceAdd, Nat.reduceSub, Nat.reduceMul, Nat.reduceLeDiff, Nat.zero_add, Nat.add_zero, Nat.add_assoc, Nat.le_refl, if_true, if_false, Bool.true_and, Bool.and_true, Bool.true_or, Bool.or_true, Bool.false_or, Bool.or_false, Bool.false_and, Bool.and_false, Bool.not_true, Bool.not_false, cond_true, cond_false, reduceIte, reduceCtorEq, decide_true, decide_false, beq_self_eq_true, Nat.reduceBEq, Nat.reduceEqDiff, Nat.add_left_cancel_iff, and_self, true_and, splice_one, List.flatten_cons, List.flatten_nil, eq_nn, ne_nn, eq_pn, ne_pn, eq_snn, ne_snn, eq_ssn, ne_ssn, len_nil, len_sl, ext_tup, nil_ptr, under_nilPtr, under_nilSl, under_undef, min2, max2, conv_int, oneOf_three, fill_nil, fill_cons, cellsA_int, cellsA_bool, cellsA_agg, cellsA_ptr, cellsA_nilPtr, cellsA_nilSl, cellsA_sl, cellsA_fn, asI_none, asI_int, cell_ptr, cell_nilPtr, cell_nilSl, cell_sl, rep_len, rep_take, rep_cell, splice_rep, rep_under, eq_rep, idx_sl, o_loop, o_yield]
  · obtain ⟨v', G, o, hne, ha⟩ := app_copy b hn
    refine ⟨v', G, o, ?_⟩
    have e : binV .eql .slice v .nilSl = some (.bool false) := by
      rcases b.is with rfl | ⟨_, _, _, _, _, _, rfl⟩
      · exact absurd rfl hv
      · rfl
    have u : v'.under H.length = false := by
      rcases o with ⟨_, ⟨rfl, _⟩ | ⟨rfl, _⟩⟩ | ⟨_, rfl, _⟩
      · exact absurd rfl hne
      · simp [AV.under]
      · simp [AV.under]
    rw [c22]
    unfold b22
    simp -implicitDefEqProofs (maxSteps := 5000000) only [runI_nil, runI_o, runI_u, runI_og, runI_ug, runD_nil, runD_o, runD_rd, runD_hv, runD_hvu, runD_og, runD_rdg, runD_hvg, chk_nil, Nat.testBit, Nat.reduceShiftRight, Nat.reduceAnd, Nat.reduceBNe, bne_self_eq_false, eq_self, chk_cons, chk_if, runC_skip, runC_exit, runC_ret, runC_reg, runC_drw, runC_seq, runC_ite, runC_block, normR_some, seqR_normal, seqR_exit', seqR_ret, condR_bool, seqR_cond, blockR_cond, fin_cond, trim_cond, blockR_normal, blockR_ret, blockR_exit, fin_ret, fin_normal, res_nil, res_tmp, res_cell, oneOf_one, oneOf_nil, oneOf_two, gval_bool, gval_undef, keepH_some', guarded_true, guarded_false, guarded_some, gval_may, mayV_true, mayV_false, may_bin1, may_bin1w, may_bin2, may_bin2w, may_un, may_unw, may_load, may_loadw, may_fa, may_faw, may_fi, may_fiw, may_pk, may_pkw, may_cl1, may_cl1w, may_cl2, may_cl2w, may_cl3, may_cl3w, may_cl4, may_cl4w, may_cv, may_cvw, may_ia1, may_ia1w, may_ia2, may_ia2w, may_is1, may_is1w, may_is2, may_is2w, may_ix1, may_ix1w, may_ix2, may_ix2w, may_st1, may_st1w, may_st2, may_st2w, may_ls, may_lsw, may_ll, may_llw, may_ex, may_exw, may_bx, may_bxw, beq_tt, beq_ff, pick_bool, cond_may1, cond_may2, cond_may3, cond_and', cond_or', cond_boolV, cond_intV, box_int, box_bool, box_agg, not_bool, eq_bool, ne_bool, int_add, int_quo, int_rem, ne_eq, Int.reduceEq, not_false_eq_true, guarded_heap, int_sub, int_mul, int_eql, int_neq, int_lss, int_leq, int_gtr, int_geq, cells_end, cells_add, cells_zero, cells_zero', cells_succ, load_agg, load_one, readN, read1, trim_some_id, trim_app, under_int, under_bool, under_agg, under_tup, underAll_nil, underAll_cons, contI_some, contIu_some, contD_some, contR_some, contH_some, contHu_some, tst_true, onI_some, onIu_some, onD_some, onR_some, onH_some, sMov_ap, X_ap, K_ap, sPick_ap, sAlloc_ap, sBox_ap, sBuild_ap, sBuildSl_ap, sLoad_ap, sStore_ap, sNil_ap, sBin_ap, sUn_ap, sConv_ap, sFun_ap, sMake_ap, sSliceA_ap, sSliceS_ap, sFieldAddr_ap, sField_ap, sIdxAddrA_ap, sIdxAddrS_ap, sIdxA_ap, sIdxStr_ap, sExtract_ap, sLenStr_ap, sLenSl_ap, sLenArr_ap, sCapSl_ap, sMax_ap, sMin_ap, sCopy_ap, sAppN_ap, sApp_ap, sCall_ap, sCallV_ap, ap, fieldAddrS, fieldS, allocV, get_zero, get_succ, List.set_cons_zero, List.set_cons_succ, List.map_cons, List.map_nil, Option.bind_some, Option.map_some, List.length_cons, List.length_nil, List.length_append, List.cons_append, List.nil_append, List.append_nil, List.append_assoc, List.replicate_succ, List.replicate_zero, List.drop_zero, List.drop_succ_cons, List.take_zero, List.take_succ_cons, List.getElem?_cons_zero, List.getElem?_cons_succ, Nat.reduceAdd, Nat.reduceSub, Nat.reduceMul, Nat.reduceLeDiff, Nat.zero_add, Nat.add_zero, Nat.add_assoc, Nat.le_refl, if_true, if_false, Bool.true_and, Bool.and_true, Bool.true_or, Bool.or_true, Bool.false_or, Bool.or_false, Bool.false_and, Bool.and_false, Bool.not_true, Bool.not_false, cond_true, cond_false, reduceIte, reduceCtorEq, decide_true, decide_false, beq_self_eq_true, Nat.reduceBEq, Nat.reduceEqDiff, Nat.add_left_cancel_iff, and_self, true_and, splice_one, List.flatten_cons, List.flatten_nil, eq_nn, ne_nn, eq_pn, ne_pn, eq_snn, ne_snn, eq_ssn, ne_ssn, len_nil, len_sl, ext_tup, nil_ptr, under_nilPtr, under_nilSl, under_undef, min2, max2, conv_int, oneOf_three, fill_nil, fill_cons, cellsA_int, cellsA_bool, cellsA_agg, cellsA_ptr, cellsA_nilPtr, cellsA_nilSl, cellsA_sl, cellsA_fn, asI_none, asI_int, cell_ptr, cell_nilPtr, cell_nilSl, cell_sl, rep_len, rep_take, rep_cell, splice_rep, rep_under, eq_rep, idx_sl, o_loop, o_yield, e, ha, trim_keep, u]

/-- With a number. -/
def withS (zs : List Int) (i : Int) : List Int :=
  if 0 ≤ i ∧ i / 8 < zs.length then zs.set (i / 8).toNat (orI ((zs[(i / 8).toNat]?).getD 0) (IntKind.u8.wrap (1 * 2 ^ min (i % 8).toNat 8))) else zs
theorem withS_len (zs : List Int) (i : Int) : (withS zs i).length = zs.length := by unfold withS; split <;> simp
theorem orI_u8 (x y : Int) : 0 ≤ orI x y ∧ orI x y ≤ 255 := by
  unfold orI IntKind.wrap
  simp only [show IntKind.u8.signed = false from rfl, show IntKind.u8.bits = 8 from rfl, Bool.false_and, Bool.false_eq_true, if_false]
  omega
theorem withS_u8 {zs : List Int} (h : IsU8 zs) (i : Int) : IsU8 (withS zs i) := by
  unfold withS
  split
  · intro z hz
    rcases List.mem_or_eq_of_mem_set hz with hz | rfl
    · exact h z hz
    · exact orI_u8 _ _
  · exact h

/-- One byte of a slice that was made anew, turned. -/
theorem own_at {H : AHeap} {zs : List Int} {n : Nat} (hn : n < zs.length) (x : Int) (k : IntKind) :
    idxAddrS 1 (.sl (H.length + 1) 0 1 zs.length zs.length false) (.int k (n : Int)) = some (.ptr (H.length + 1) n) ∧
    loadV 1 false (.ptr (H.length + 1) n) (H ++ [.rw [], .rw (u8s zs)]) = some (.int .u8 (zs[n]'hn)) ∧
    storeV 1 (.ptr (H.length + 1) n) (.int .u8 x) (H ++ [.rw [], .rw (u8s zs)]) = some (H ++ [.rw [], .rw (u8s (zs.set n x))]) := by
  refine ⟨?_, ?_, ?_⟩
  · rw [idx_sl, if_pos ⟨Nat.le_refl _, by omega, by omega⟩]; simp
  · show read1 _ _ _ = _
    unfold read1 cellsOf
    simp [u8s_get (List.getElem?_eq_getElem hn)]
  · rw [store_one, cellsA_int]
    simp only [Option.bind_some, List.length_cons, List.length_nil]
    rw [if_pos trivial, write_add, write_succ, write_head]
    have hc : n + [AV.int .u8 x].length ≤ (u8s zs).length ∧ [AV.int .u8 x].all AV.isCell = true := ⟨by simp only [List.length_cons, List.length_nil, u8s_len]; omega, rfl⟩
    rw [if_pos hc, splice_one, u8s_set]
    rfl

set_option maxHeartbeats 2000000 in
theorem withC {H : AHeap} {v : AV} {zs : List Int} (b : BS H v zs) (hn : zs.length ≤ 100000) (i : Int) (hi : i ≤ 9223372036854775807) : ∃ v' G, Own H v' G (withS zs i) ∧ (envL prog).call 10 [v, .int .i64 i] H = some (v', H ++ G) := by
  obtain ⟨v', G, o, hc⟩ := cloneC b hn
  have hl := o.bs.len
  rw [c10]
  unfold b10
  by_cases h0 : i ≥ 0
  · have d0 : decide (i ≥ 0) = true := by simp [h0]
    have e1 : i.tdiv 8 = i / 8 := Int.tdiv_eq_ediv_of_nonneg h0
    have e2 : i.tmod 8 = i % 8 := Int.tmod_eq_emod_of_nonneg h0
    have w : IntKind.i64.wrap (i / 8) = i / 8 := wrap64 (by omega) (by omega)
    by_cases h1 : i / 8 < zs.length
    · have d1 : decide (i / 8 < (zs.length : Int)) = true := by simp [h1]
      obtain ⟨n, hnn⟩ : ∃ n : Nat, i / 8 = n := ⟨(i / 8).toNat, by omega⟩
      have hlt : n < zs.length := by omega
      have hz : zs ≠ [] := fun h => by subst h; simp at hlt
      rcases o with ⟨h, _⟩ | ⟨_, rfl, rfl⟩
      · exact absurd h hz
      · have hw : withS zs i = zs.set n (orI (zs[n]'hlt) (IntKind.u8.wrap (1 * 2 ^ min (i % 8).toNat 8))) := by
          unfold withS
          rw [if_pos ⟨h0, h1⟩, hnn, Int.toNat_natCast, List.getElem?_eq_getElem hlt, Option.getD_some]
        obtain ⟨a1, a2, _⟩ := own_at (H := H) hlt 0 .i64
        have a3 := fun x => (own_at (H := H) hlt x .i64).2.2
        have hs := shl8 1 .i64 (i % 8) (by omega)
        rw [hnn] at w d1
        refine ⟨.sl (H.length + 1) 0 1 zs.length zs.length false, [.rw [], .rw (u8s (withS zs i))], .inr ⟨by rw [hw]; intro h; have := congrArg List.length h; simp at this; exact hz this, by rw [withS_len], rfl⟩, ?_⟩
        rw [hw]
        have u : (AV.sl (H.length + 1) 0 1 zs.length zs.length false).under H.length = false := by simp [AV.under]
        simp -implicitDefEqProofs (maxSteps := 5000000) only [runI_nil, runI_o, runI_u, runI_og, runI_ug, runD_nil, runD_o, runD_rd, runD_hv, runD_hvu, runD_og, runD_rdg, runD_hvg, chk_nil, Nat.testBit, Nat.reduceShiftRight, Nat.reduceAnd, Nat.reduceBNe, bne_self_eq_false, eq_self, chk_cons, chk_if, runC_skip, runC_exit, runC_ret, runC_reg, runC_drw, runC_seq, runC_ite, runC_block, normR_some, seqR_normal, seqR_exit', seqR_ret, condR_bool, seqR_cond, blockR_cond, fin_cond, trim_cond, blockR_normal, blockR_ret, blockR_exit, fin_ret, fin_normal, res_nil, res_tmp, res_cell, oneOf_one, oneOf_nil, oneOf_two, gval_bool, gval_undef, keepH_some', guarded_true, guarded_false, guarded_some, gval_may, mayV_true, mayV_false, may_bin1, may_bin1w, may_bin2, may_bin2w, may_un, may_unw, may_load, may_loadw, may_fa, may_faw, may_fi, may_fiw, may_pk, may_pkw, may_cl1, may_cl1w, may_cl2, may_cl2w, may_cl3, may_cl3w, may_cl4, may_cl4w, may_cv, may_cvw, may_ia1, may_ia1w, may_ia2, may_ia2w, may_is1, may_is1w, may_is2, may_is2w, may_ix1, may_ix1w, may_ix2, may_ix2w, may_st1, may_st1w, may_st2, may_st2w, may_ls, may_lsw, may_ll, may_llw, may_ex, may_exw, may_bx, may_bxw, beq_tt, beq_ff, pick_bool, cond_may1, cond_may2, cond_may3, cond_and', cond_or', cond_boolV, cond_intV, box_int, box_bool, box_agg, not_bool, eq_bool, ne_bool, int_add, int_quo, int_rem, ne_eq, Int.reduceEq, not_false_eq_true, guarded_heap, int_sub, int_mul, int_eql, int_neq, int_lss, int_leq, int_gtr, int_geq, cells_end, cells_add, cells_zero, cells_zero', cells_succ, load_agg, load_one, readN, read1, trim_some_id, trim_app, under_int, under_bool, under_agg, under_tup, underAll_nil, underAll_cons, contI_some, contIu_some, contD_some, contR_some, contH_some, contHu_some, tst_true, onI_some, onIu_some, onD_some, onR_some, onH_some, sMov_ap, X_ap, K_ap, sPick_ap, sAlloc_ap, sBox_ap, sBuild_ap, sBuildSl_ap, sLoad_ap, sStore_ap, sNil_ap, sBin_ap, sUn_ap, sConv_ap, sFun_ap, sMake_ap, sSliceA_ap, sSliceS_ap, sFieldAddr_ap, sField_ap, sIdxAddrA_ap, sIdxAddrS_ap, sIdxA_ap, sIdxStr_ap, sExtract_ap, sLenStr_ap, sLenSl_ap, sLenArr_ap, sCapSl_ap, sMax_ap, sMin_ap, sCopy_ap, sAppN_ap, sApp_ap, sCall_ap, sCallV_ap, ap, fieldAddrS, fieldS, allocV, get_zero, get_succ, List.set_cons_zero, List.set_cons_succ, List.map_cons, List.map_nil, Option.bind_some, Option.map_some, List.length_cons, List.length_nil, List.length_append, List.cons_append, List.nil_append, List.append_nil, List.append_assoc, List.replicate_succ, List.replicate_zero, List.drop_zero, List.drop_succ_cons, List.take_zero, List.take_succ_cons, List.getElem?_cons_zero, List.getElem?_cons_succ, Nat.reduceAdd, Nat.reduceSub, Nat.reduceMul, Nat.reduceLeDiff, Nat.zero_add, Nat.add_zero, Nat.add_assoc, Nat.le_refl, if_true, if_false, Bool.true_and, Bool.and_true, Bool.true_or, Bool.or_true, Bool.false_or, Bool.or_false, Bool.false_and, Bool.and_false, Bool.not_true, Bool.not_false, cond_true, cond_false, reduceIte, reduceCtorEq, decide_true, decide_false, beq_self_eq_true, Nat.reduceBEq, Nat.reduceEqDiff, Nat.add_left_cancel_iff, and_self, true_and, splice_one, List.flatten_cons, List.flatten_nil, eq_nn, ne_nn, eq_pn, ne_pn, eq_snn, ne_snn, eq_ssn, ne_ssn, len_nil, len_sl, ext_tup, nil_ptr, under_nilPtr, under_nilSl, under_undef, min2, max2, conv_int, oneOf_three, fill_nil, fill_cons, cellsA_int, cellsA_bool, cellsA_agg, cellsA_ptr, cellsA_nilPtr, cellsA_nilSl, cellsA_sl, cellsA_fn, asI_none, asI_int, cell_ptr, cell_nilPtr, cell_nilSl, cell_sl, rep_len, rep_take, rep_cell, splice_rep, rep_under, eq_rep, idx_sl, o_loop, o_yield, hc, hl, d0, d1, e1, e2, hnn, w, a1, a2, a3, hs, or8, trim_keep, u]
    · have d1 : decide (i / 8 < (zs.length : Int)) = false := by simp [h1]
      have hw : withS zs i = zs := by unfold withS; rw [if_neg (fun h => h1 h.2)]
      refine ⟨v', G, by rw [hw]; exact o, ?_⟩
      simp -implicitDefEqProofs (maxSteps := 5000000) only [runI_nil, runI_o, runI_u, runI_og, runI_ug, runD_nil, runD_o, runD_rd, runD_hv, runD_hvu, runD_og, runD_rdg, runD_hvg, chk_nil, Nat.testBit, Nat.reduceShiftRight, Nat.reduceAnd, Nat.reduceBNe, bne_self_eq_false, eq_self, chk_cons, chk_if, runC_skip, runC_exit, runC_ret, runC_reg, runC_drw, runC_seq, runC_ite, runC_block, normR_some, seqR_normal, seqR_exit', seqR_ret, condR_bool, seqR_cond, blockR_cond, fin_cond, trim_cond, blockR_normal, blockR_ret, blockR_exit, fin_ret, fin_normal, res_nil, res_tmp, res_cell, oneOf_one, oneOf_nil, oneOf_two, gval_bool, gval_undef, keepH_some', guarded_true, guarded_false, guarded_some, gval_may, mayV_true, mayV_false, may_bin1, may_bin1w, may_bin2, may_bin2w, may_un, may_unw, may_load, may_loadw, may_fa, may_faw, may_fi, may_fiw, may_pk, may_pkw, may_cl1, may_cl1w, may_cl2, may_cl2w, may_cl3, may_cl3w, may_cl4, may_cl4w, may_cv, may_cvw, may_ia1, may_ia1w, may_ia2, may_ia2w, may_is1, may_is1w, may_is2, may_is2w, may_ix1, may_ix1w, may_ix2, may_ix2w, may_st1, may_st1w, may_st2, may_st2w, may_ls, may_lsw, may_ll, may_llw, may_ex, may_exw, may_bx, may_bxw, beq_tt, beq_ff, pick_bool, cond_may1, cond_may2, cond_may3, cond_and', cond_or', cond_boolV, cond_intV, box_int, box_bool, box_agg, not_bool, eq_bool, ne_bool, int_add, int_quo, int_rem, ne_eq, Int.reduceEq, not_false_eq_true, guarded_heap, int_sub, int_mul, int_eql, int_neq, int_lss, int_leq, int_gtr, int_geq, cells_end, cells_add, cells_zero, cells_zero', cells_succ, load_agg, load_one, readN, read1, trim_some_id, trim_app, under_int, under_bool, under_agg, under_tup, underAll_nil, underAll_cons, contI_some, contIu_some, contD_some, contR_some, contH_some, contHu_some, tst_true, onI_some, onIu_some, onD_some, onR_some, onH_some, sMov_ap, X_ap, K_ap, sPick_ap, sAlloc_ap, sBox_ap, sBuild_ap, sBuildSl_ap, sLoad_ap, sStore_ap, sNil_ap, sBin_ap, sUn_ap, sConv_ap, sFun_ap, sMake_ap, sSliceA_ap, sSliceS_ap, sFieldAddr_ap, sField_ap, sIdxAddrA_ap, sIdxAddrS_ap, sIdxA_ap, sIdxStr_ap, sExtract_ap, sLenStr_ap, sLenSl_ap, sLenArr_ap, sCapSl_ap, sMax_ap, sMin_ap, sCopy_ap, sAppN_ap, sApp_ap, sCall_ap, sCallV_ap, ap, fieldAddrS, fieldS, allocV, get_zero, get_succ, List.set_cons_zero, List.set_cons_succ, List.map_cons, List.map_nil, Option.bind_some, Option.map_some, List.length_cons, List.length_nil, List.length_append, List.cons_append, List.nil_append, List.append_nil, List.append_assoc, List.replicate_succ, List.replicate_zero, List.drop_zero, List.drop_succ_cons, List.take_zero, List.take_succ_cons, List.getElem?_cons_zero, List.getElem?_cons_succ, Nat.reduceAdd, Nat.reduceSub, Nat.reduceMul, Nat.reduceLeDiff, Nat.zero_add, Nat.add_zero, Nat.add_assoc, Nat.le_refl, if_true, if_false, Bool.true_and, Bool.and_true, Bool.true_or, Bool.or_true, Bool.false_or, Bool.or_false, Bool.false_and, Bool.and_false, Bool.not_true, Bool.not_false, cond_true, cond_false, reduceIte, reduceCtorEq, decide_true, decide_false, beq_self_eq_true, Nat.reduceBEq, Nat.reduceEqDiff, Nat.add_left_cancel_iff, and_self, true_and, splice_one, List.flatten_cons, List.flatten_nil, eq_nn, ne_nn, eq_pn, ne_pn, eq_snn, ne_snn, eq_ssn, ne_ssn, len_nil, len_sl, ext_tup, nil_ptr, under_nilPtr, under_nilSl, under_undef, min2, max2, conv_int, oneOf_three, fill_nil, fill_cons, cellsA_int, cellsA_bool, cellsA_agg, cellsA_ptr, cellsA_nilPtr, cellsA_nilSl, cellsA_sl, cellsA_fn, asI_none, asI_int, cell_ptr, cell_nilPtr, cell_nilSl, cell_sl, rep_len, rep_take, rep_cell, splice_rep, rep_under, eq_rep, idx_sl, o_loop, o_yield, hc, hl, d0, d1, e1, e2, w]
      rcases o with ⟨_, ⟨rfl, rfl⟩ | ⟨rfl, rfl⟩⟩ | ⟨_, rfl, rfl⟩
      · rw [List.append_nil]; exact trim_some_id (by simp [AV.under])
      · exact trim_keep (by simp [AV.under])
      · exact trim_keep (by simp [AV.under])
  · have d0 : decide (i ≥ 0) = false := by simp [h0]
    have hw : withS zs i = zs := by unfold withS; rw [if_neg (fun h => h0 h.1)]
    refine ⟨v', G, by rw [hw]; exact o, ?_⟩
    simp -implicitDefEqProofs (maxSteps := 5000000) only [runI_nil, runI_o, runI_u, runI_og, runI_ug, runD_nil, runD_o, runD_rd, runD_hv, runD_hvu, runD_og, runD_rdg, runD_hvg, chk_nil, Nat.testBit, Nat.reduceShiftRight, Nat.reduceAnd, Nat.reduceBNe, bne_self_eq_false, eq_self, chk_cons, chk_if, runC_skip, runC_exit, runC_ret, runC_reg, runC_drw, runC_seq, runC_ite, runC_block, normR_some, seqR_normal, seqR_exit', seqR_ret, condR_bool, seqR_cond, blockR_cond, fin_cond, trim_cond, blockR_normal, blockR_ret, blockR_exit, fin_ret, fin_normal, res_nil, res_tmp, res_cell, oneOf_one, oneOf_nil, oneOf_two, gval_bool, gval_undef, keepH_some', guarded_true, guarded_false, guarded_some, gval_may, mayV_true, mayV_false, may_bin1, may_bin1w, may_bin2, may_bin2w, may_un, may_unw, may_load, may_loadw, may_fa, may_faw, may_fi, may_fiw, may_pk, may_pkw, may_cl1, may_cl1w, may_cl2, may_cl2w, may_cl3, may_cl3w, may_cl4, may_cl4w, may_cv, may_cvw, may_ia1, may_ia1w, may_ia2, may_ia2w, may_is1, may_is1w, may_is2, may_is2w, may_ix1, may_ix1w, may_ix2, may_ix2w, may_st1, may_st1w, may_st2, may_st2w, may_ls, may_lsw, may_ll, may_llw, may_ex, may_exw, may_bx, may_bxw, beq_tt, beq_ff, pick_bool, cond_may1, cond_may2, cond_may3, cond_and', cond_or', cond_boolV, cond_intV, box_int, box_bool, box_agg, not_bool, eq_bool, ne_bool, int_add, int_quo, int_rem, ne_eq, Int.reduceEq, not_false_eq_true, guarded_heap, int_sub, int_mul, int_eql, int_neq, int_lss, int_leq, int_gtr, int_geq, cells_end, cells_add, cells_zero, cells_zero', cells_succ, load_agg, load_one, readN, read1, trim_some_id, trim_app, under_int, under_bool, under_agg, under_tup, underAll_nil, underAll_cons, contI_some, contIu_some, contD_some, contR_some, contH_some, contHu_some, tst_true, onI_some, onIu_some, onD_some, onR_some, onH_some, sMov_ap, X_ap, K_ap, sPick_ap, sAlloc_ap, sBox_ap, sBuild_ap, sBuildSl_ap, sLoad_ap, sStore_ap, sNil_ap, sBin_ap, sUn_ap, sConv_ap, sFun_ap, sMake_ap, sSliceA_ap, sSliceS_ap, sFieldAddr_ap, sField_ap, sIdxAddrA_ap, sIdxAddrS_ap, sIdxA_ap, sIdxStr_ap, sExtract_ap, sLenStr_ap, sLenSl_ap, sLenArr_ap, sCapSl_ap, sMax_ap, sMin_ap, sCopy_ap, sAppN_ap, sApp_ap, sCall_ap, sCallV_ap, ap, fieldAddrS, fieldS, allocV, get_zero, get_succ, List.set_cons_zero, List.set_cons_succ, List.map_cons, List.map_nil, Option.bind_some, Option.map_some, List.length_cons, List.length_nil, List.length_append, List.cons_append, List.nil_append, List.append_nil, List.append_assoc, List.replicate_succ, List.replicate_zero, List.drop_zero, List.drop_succ_cons, List.take_zero, List.take_succ_cons, List.getElem?_cons_zero, List.getElem?_cons_succ, Nat.reduceAdd, Nat.reduceSub, Nat.reduceMul, Nat.reduceLeDiff, Nat.zero_add, Nat.add_zero, Nat.add_assoc, Nat.le_refl, if_true, if_false, Bool.true_and, Bool.and_true, Bool.true_or, Bool.or_true, Bool.false_or, Bool.or_false, Bool.false_and, Bool.and_false, Bool.not_true, Bool.not_false, cond_true, cond_false, reduceIte, reduceCtorEq, decide_true, decide_false, beq_self_eq_true, Nat.reduceBEq, Nat.reduceEqDiff, Nat.add_left_cancel_iff, and_self, true_and, splice_one, List.flatten_cons, List.flatten_nil, eq_nn, ne_nn, eq_pn, ne_pn, eq_snn, ne_snn, eq_ssn, ne_ssn, len_nil, len_sl, ext_tup, nil_ptr, under_nilPtr, under_nilSl, under_undef, min2, max2, conv_int, oneOf_three, fill_nil, fill_cons, cellsA_int, cellsA_bool, cellsA_agg, cellsA_ptr, cellsA_nilPtr, cellsA_nilSl, cellsA_sl, cellsA_fn, asI_none, asI_int, cell_ptr, cell_nilPtr, cell_nilSl, cell_sl, rep_len, rep_take, rep_cell, splice_rep, rep_under, eq_rep, idx_sl, o_loop, o_yield, hc, hl, d0]
    rcases o with ⟨_, ⟨rfl, rfl⟩ | ⟨rfl, rfl⟩⟩ | ⟨_, rfl, rfl⟩
    · rw [List.append_nil]; exact trim_some_id (by simp [AV.under])
    · exact trim_keep (by simp [AV.under])
    · exact trim_keep (by simp [AV.under])
end Go.Proofs.Ytgggepohkdmjeaa.G09

