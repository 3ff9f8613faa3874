/- What the functions that BitsSets reaches answer, for every argument. No condition but those in each statement. -/
import Derived.Test.YtgggepohkdmjeaaL9
import Derived.Test.YtgggepohkdmjeaaE4
set_option linter.unusedSimpArgs false
set_option linter.unusedVariables false
set_option maxRecDepth 10000
namespace Go.Proofs.Ytgggepohkdmjeaa.G09
open Go Go.Proofs.Ytgggepohkdmjeaa.Eng

/-- A heap to which something was added. -/
def Adds (H H' : AHeap) : Prop := ∃ G, H' = H ++ G
theorem Adds.bs {H H' : AHeap} {v : AV} {zs : List Int} (a : Adds H H') (b : BS H v zs) : BS H' v zs := by obtain ⟨G, rfl⟩ := a; exact b.mono G
theorem Adds.is {H H' : AHeap} {v : AV} {zs : List Int} (a : Adds H H') (b : IS H v zs) : IS H' v zs := by obtain ⟨G, rfl⟩ := a; exact b.mono G
theorem Adds.cells {H H' : AHeap} {p : Nat} {cs : List AV} (a : Adds H H') (b : cellsOf H p = some cs) : cellsOf H' p = some cs := by obtain ⟨G, rfl⟩ := a; exact cells_old b
theorem Adds.trans {H H' H'' : AHeap} (a : Adds H H') (b : Adds H' H'') : Adds H H'' := by obtain ⟨G, rfl⟩ := a; obtain ⟨G', rfl⟩ := b; exact ⟨G ++ G', by simp⟩

theorem copyA {H : AHeap} {v : AV} {zs : List Int} (b : BS H v zs) (hn : zs.length ≤ 100000) : ∃ v' H', Adds H H' ∧ BS H' v' zs ∧ app (ty 1 false 1 [.int .u8 0]) (.sl H.length 0 1 0 0 true) v (H ++ [.rw []]) = some (v', H') := by
  obtain ⟨v', G, o, _, e⟩ := app_copy b hn
  exact ⟨v', _, ⟨G, rfl⟩, o.bs, e⟩
theorem withA {H : AHeap} {v : AV} {zs : List Int} (b : BS H v zs) (hn : zs.length ≤ 100000) (i : Int) (hi : i ≤ 9223372036854775807) : ∃ v' H', Adds H H' ∧ BS H' v' (withS zs i) ∧ (envL prog).call 10 [v, .int .i64 i] H = some (v', H') := by
  obtain ⟨v', G, o, e⟩ := withC b hn i hi
  exact ⟨v', _, ⟨G, rfl⟩, o.bs, e⟩
theorem withRA {H : AHeap} {v : AV} {zs : List Int} (b : BS H v zs) (hn : zs.length ≤ 100000) (i : Int) (hi : i ≤ 9223372036854775807) : ∃ v' H', Adds H H' ∧ BS H' v' (withS zs i) ∧ (envL prog).call 11 [v, .int .i64 i] H = some (v', H') := by
  obtain ⟨v', G, o, e⟩ := withR b hn i hi
  exact ⟨v', _, ⟨G, rfl⟩, o.bs, e⟩
theorem orA {H : AHeap} {v w : AV} {xs ys : List Int} (b : BS H v xs) (c : BS H w ys) (hx : xs.length ≤ 100000) (hy : ys.length ≤ 100000) : ∃ v' H', Adds H H' ∧ BS H' v' (orS xs ys) ∧ (envL prog).call 12 [v, w] H = some (v', H') := by
  obtain ⟨v', G, o, e⟩ := orC b c hx hy
  exact ⟨v', _, ⟨G, rfl⟩, o.bs, e⟩
theorem orRA {H : AHeap} {v w : AV} {xs ys : List Int} (b : BS H v xs) (c : BS H w ys) (hx : xs.length ≤ 100000) (hy : ys.length ≤ 100000) : ∃ v' H', Adds H H' ∧ BS H' v' (orS xs ys) ∧ (envL prog).call 13 [v, w] H = some (v', H') := by
  obtain ⟨v', G, o, e⟩ := orR b c hx hy
  exact ⟨v', _, ⟨G, rfl⟩, o.bs, e⟩
theorem allA {H : AHeap} {v : AV} {zs : List Int} (b : BS H v zs) (hn : zs.length ≤ 100000) : ∃ l H', Adds H H' ∧ IS H' l (allS zs) ∧ (envL prog).call 17 [v] H = some (l, H') := by
  obtain ⟨l, G, f, e⟩ := allC b hn
  exact ⟨l, _, ⟨G, rfl⟩, f.1, e⟩
theorem allRA {H : AHeap} {v : AV} {zs : List Int} (b : BS H v zs) (hn : zs.length ≤ 100000) : ∃ l H', Adds H H' ∧ IS H' l (allS zs) ∧ (envL prog).call 15 [v] H = some (l, H') := by
  obtain ⟨l, G, f, e⟩ := allR b hn
  exact ⟨l, _, ⟨G, rfl⟩, f.is, e⟩
theorem newA (k : Int) (H : AHeap) : ∃ v H', Adds H H' ∧ BS H' v (List.replicate (newN k) 0) ∧ (envL prog).call 20 [.int .i64 k] H = some (v, H') := by
  obtain ⟨v, G, o, e⟩ := newC k H
  exact ⟨v, _, ⟨G, rfl⟩, o.bs, e⟩
theorem newRA (k : Int) (H : AHeap) : ∃ v H', Adds H H' ∧ BS H' v (List.replicate (newN k) 0) ∧ (envL prog).call 21 [.int .i64 k] H = some (v, H') := by
  obtain ⟨v, G, o, e⟩ := newR k H
  exact ⟨v, _, ⟨G, rfl⟩, o.bs, e⟩
theorem allS_len (zs : List Int) : (allS zs).length ≤ 8 * zs.length := allU_len zs _
theorem rep_u8 (n : Nat) : IsU8 (List.replicate n 0) := fun z hz => by rw [(List.mem_replicate.1 hz).2]; omega
theorem bytesT {H : AHeap} {v w : AV} {xs : List Int} (b : BS H v xs) (c : BS H w xs) (hx : IsU8 xs) : (envL prog).call 9 [v, w] H = some (.bool true, H) := by
  rw [bytesC b c hx hx]; simp

theorem idx_arr (n sz b o : Nat) (k : IntKind) (j : Int) : idxAddrA n sz (.ptr b o) (.int k j) = if 0 ≤ j ∧ j < n then some (.ptr b (o + j.toNat * sz)) else none := rfl
theorem known : (knows 6).Ok prog := knows_ok (n := 14) (by kernel_rfl)
noncomputable abbrev EO := envO prog (knows 6)

set_option maxHeartbeats 4000000 in
theorem bitsTell (va vb : AV) (xs ys : List Int) (i k : Int) (h : AHeap) (ba : BS h va xs) (bb : BS h vb ys) (ux : IsU8 xs) (uy : IsU8 ys) (hi : IntKind.i64.has i) : ∃ h', callBody prog EO 3 [va, vb, .agg [.int .i64 i, .int .i64 k]] h = some (.bool true, h') := by
  have la := ba.len
  have lb := bb.len
  rw [d3]
  unfold b3 EO
  by_cases g1 : xs.length > 600
  · have d1 : decide ((xs.length : Int) > 600) = true := by simp; omega
    simp -implicitDefEqProofs (maxSteps := 5000000) only [runI_nil, runI_o, runI_u, runI_og, runI_ug, runD_nil, runD_o, runD_rd, runD_hv, runD_hvu, runD_og, runD_rdg, runD_hvg, chk_nil, Nat.testBit, Nat.reduceShiftRight, Nat.reduceAnd, Nat.reduceBNe, bne_self_eq_false, eq_self, chk_cons, chk_if, runC_skip, runC_exit, runC_ret, runC_reg, runC_drw, runC_seq, runC_ite, runC_block, normR_some, seqR_normal, seqR_exit', seqR_ret, condR_bool, seqR_cond, blockR_cond, fin_cond, trim_cond, blockR_normal, blockR_ret, blockR_exit, fin_ret, fin_normal, res_nil, res_tmp, res_cell, oneOf_one, oneOf_nil, oneOf_two, gval_bool, gval_undef, keepH_some', guarded_true, guarded_false, guarded_some, gval_may, mayV_true, mayV_false, may_bin1, may_bin1w, may_bin2, may_bin2w, may_un, may_unw, may_load, may_loadw, may_fa, may_faw, may_fi, may_fiw, may_pk, may_pkw, may_cl1, may_cl1w, may_cl2, may_cl2w, may_cl3, may_cl3w, may_cl4, may_cl4w, may_cv, may_cvw, may_ia1, may_ia1w, may_ia2, may_ia2w, may_is1, may_is1w, may_is2, may_is2w, may_ix1, may_ix1w, may_ix2, may_ix2w, may_st1, may_st1w, may_st2, may_st2w, may_ls, may_lsw, may_ll, may_llw, may_ex, may_exw, may_bx, may_bxw, beq_tt, beq_ff, pick_bool, cond_may1, cond_may2, cond_may3, cond_and', cond_or', cond_boolV, cond_intV, box_int, box_bool, box_agg, not_bool, eq_bool, ne_bool, int_add, int_quo, int_rem, ne_eq, Int.reduceEq, not_false_eq_true, guarded_heap, int_sub, int_mul, int_eql, int_neq, int_lss, int_leq, int_gtr, int_geq, cells_end, cells_add, cells_zero, cells_zero', cells_succ, load_agg, load_one, readN, read1, trim_some_id, trim_app, under_int, under_bool, under_agg, under_tup, underAll_nil, underAll_cons, contI_some, contIu_some, contD_some, contR_some, contH_some, contHu_some, tst_true, onI_some, onIu_some, onD_some, onR_some, onH_some, sMov_ap, X_ap, K_ap, sPick_ap, sAlloc_ap, sBox_ap, sBuild_ap, sBuildSl_ap, sLoad_ap, sStore_ap, sNil_ap, sBin_ap, sUn_ap, sConv_ap, sFun_ap, sMake_ap, sSliceA_ap, sSliceS_ap, sFieldAddr_ap, sField_ap, sIdxAddrA_ap, sIdxAddrS_ap, sIdxA_ap, sIdxStr_ap, sExtract_ap, sLenStr_ap, sLenSl_ap, sLenArr_ap, sCapSl_ap, sMax_ap, sMin_ap, sCopy_ap, sAppN_ap, sApp_ap, sCall_ap, sCallV_ap, ap, fieldAddrS, fieldS, allocV, get_zero, get_succ, List.set_cons_zero, List.set_cons_succ, List.map_cons, List.map_nil, Option.bind_some, Option.map_some, List.length_cons, List.length_nil, List.length_append, List.cons_append, List.nil_append, List.append_nil, List.append_assoc, List.replicate_succ, List.replicate_zero, List.drop_zero, List.drop_succ_cons, List.take_zero, List.take_succ_cons, List.getElem?_cons_zero, List.getElem?_cons_succ, Nat.reduceAdd, Nat.reduceSub, Nat.reduceMul, Nat.reduceLeDiff, Nat.zero_add, Nat.add_zero, Nat.add_assoc, Nat.le_refl, if_true, if_false, Bool.true_and, Bool.and_true, Bool.true_or, Bool.or_true, Bool.false_or, Bool.or_false, Bool.false_and, Bool.and_false, Bool.not_true, Bool.not_false, cond_true, cond_false, reduceIte, reduceCtorEq, decide_true, decide_false, beq_self_eq_true, Nat.reduceBEq, Nat.reduceEqDiff, Nat.add_left_cancel_iff, wrap64, loop_run, runC_loop, runC_range, callF_fn, callV_fn, callV_yld, yield_eq, yieldBody, yieldRaw, roundMid, roundEnd, rangeEnd, Bool.not_not, put_cons, put_nil, trim_same, at_zero, at_add, set_zero, set_add, store_one, write_zero, write_add, write_head, write_succ, splice_one, splice_more, List.drop_nil, List.take_nil, cell_int, cell_bool, fillS, splice_one, idxA, Ex.isNormal, List.set_nil, List.length_set, List.all_cons, List.all_nil, Bool.and_self, and_self, true_and, and_true, List.getElem?_nil, Int.reduceLT, Int.reduceLE, Int.reduceToNat, Int.toNat_zero, Int.toNat_one, Int.reduceAdd, Int.reduceSub, Int.reduceMul, Int.reduceNeg, Int.reduceBEq, Int.reduceBNe, Int.reduceGE, Int.reduceGT, Nat.reduceLT, trim_keep, under_fn, under_ptr, under_sl, Nat.lt_irrefl, not_lt_add, trim_tail, keepOk, ABlk.vals, Int.cast_ofNat_Int, decide_true, decide_false, List.all_cons, List.all_nil, Nat.zero_mul, Nat.mul_one, Nat.one_mul, and_self, true_and, splice_one, List.flatten_cons, List.flatten_nil, eq_nn, ne_nn, eq_pn, ne_pn, eq_snn, ne_snn, eq_ssn, ne_ssn, len_nil, len_sl, ext_tup, nil_ptr, under_nilPtr, under_nilSl, under_undef, min2, max2, conv_int, oneOf_three, fill_nil, fill_cons, cellsA_int, cellsA_bool, cellsA_agg, cellsA_ptr, cellsA_nilPtr, cellsA_nilSl, cellsA_sl, cellsA_fn, asI_none, asI_int, cell_ptr, cell_nilPtr, cell_nilSl, cell_sl, rep_len, rep_take, rep_cell, splice_rep, rep_under, eq_rep, idx_sl, o_loop, o_yield, la, lb, d1, o_wakes, o_call]
    exact ⟨_, rfl⟩
  have d1 : decide ((xs.length : Int) > 600) = false := by simp; omega
  by_cases g2 : ys.length > 600
  · have d2 : decide ((ys.length : Int) > 600) = true := by simp; omega
    simp -implicitDefEqProofs (maxSteps := 5000000) only [runI_nil, runI_o, runI_u, runI_og, runI_ug, runD_nil, runD_o, runD_rd, runD_hv, runD_hvu, runD_og, runD_rdg, runD_hvg, chk_nil, Nat.testBit, Nat.reduceShiftRight, Nat.reduceAnd, Nat.reduceBNe, bne_self_eq_false, eq_self, chk_cons, chk_if, runC_skip, runC_exit, runC_ret, runC_reg, runC_drw, runC_seq, runC_ite, runC_block, normR_some, seqR_normal, seqR_exit', seqR_ret, condR_bool, seqR_cond, blockR_cond, fin_cond, trim_cond, blockR_normal, blockR_ret, blockR_exit, fin_ret, fin_normal, res_nil, res_tmp, res_cell, oneOf_one, oneOf_nil, oneOf_two, gval_bool, gval_undef, keepH_some', guarded_true, guarded_false, guarded_some, gval_may, mayV_true, mayV_false, may_bin1, may_bin1w, may_bin2, may_bin2w, may_un, may_unw, may_load, may_loadw, may_fa, may_faw, may_fi, may_fiw, may_pk, may_pkw, may_cl1, may_cl1w, may_cl2, may_cl2w, may_cl3, may_cl3w, may_cl4, may_cl4w, may_cv, may_cvw, may_ia1, may_ia1w, may_ia2, may_ia2w, may_is1, may_is1w, may_is2, may_is2w, may_ix1, may_ix1w, may_ix2, may_ix2w, may_st1, may_st1w, may_st2, may_st2w, may_ls, may_lsw, may_ll, may_llw, may_ex, may_exw, may_bx, may_bxw, beq_tt, beq_ff, pick_bool, cond_may1, cond_may2, cond_may3, cond_and', cond_or', cond_boolV, cond_intV, box_int, box_bool, box_agg, not_bool, eq_bool, ne_bool, int_add, int_quo, int_rem, ne_eq, Int.reduceEq, not_false_eq_true, guarded_heap, int_sub, int_mul, int_eql, int_neq, int_lss, int_leq, int_gtr, int_geq, cells_end, cells_add, cells_zero, cells_zero', cells_succ, load_agg, load_one, readN, read1, trim_some_id, trim_app, under_int, under_bool, under_agg, under_tup, underAll_nil, underAll_cons, contI_some, contIu_some, contD_some, contR_some, contH_some, contHu_some, tst_true, onI_some, onIu_some, onD_some, onR_some, onH_some, sMov_ap, X_ap, K_ap, sPick_ap, sAlloc_ap, sBox_ap, sBuild_ap, sBuildSl_ap, sLoad_ap, sStore_ap, sNil_ap, sBin_ap, sUn_ap, sConv_ap, sFun_ap, sMake_ap, sSliceA_ap, sSliceS_ap, sFieldAddr_ap, sField_ap, sIdxAddrA_ap, sIdxAddrS_ap, sIdxA_ap, sIdxStr_ap, sExtract_ap, sLenStr_ap, sLenSl_ap, sLenArr_ap, sCapSl_ap, sMax_ap, sMin_ap, sCopy_ap, sAppN_ap, sApp_ap, sCall_ap, sCallV_ap, ap, fieldAddrS, fieldS, allocV, get_zero, get_succ, List.set_cons_zero, List.set_cons_succ, List.map_cons, List.map_nil, Option.bind_some, Option.map_some, List.length_cons, List.length_nil, List.length_append, List.cons_append, List.nil_append, List.append_nil, List.append_assoc, List.replicate_succ, List.replicate_zero, List.drop_zero, List.drop_succ_cons, List.take_zero, List.take_succ_cons, List.getElem?_cons_zero, List.getElem?_cons_succ, Nat.reduceAdd, Nat.reduceSub, Nat.reduceMul, Nat.reduceLeDiff, Nat.zero_add, Nat.add_zero, Nat.add_assoc, Nat.le_refl, if_true, if_false, Bool.true_and, Bool.and_true, Bool.true_or, Bool.or_true, Bool.false_or, Bool.or_false, Bool.false_and, Bool.and_false, Bool.not_true, Bool.not_false, cond_true, cond_false, reduceIte, reduceCtorEq, decide_true, decide_false, beq_self_eq_true, Nat.reduceBEq, Nat.reduceEqDiff, Nat.add_left_cancel_iff, wrap64, loop_run, runC_loop, runC_range, callF_fn, callV_fn, callV_yld, yield_eq, yieldBody, yieldRaw, roundMid, roundEnd, rangeEnd, Bool.not_not, put_cons, put_nil, trim_same, at_zero, at_add, set_zero, set_add, store_one, write_zero, write_add, write_head, write_succ, splice_one, splice_more, List.drop_nil, List.take_nil, cell_int, cell_bool, fillS, splice_one, idxA, Ex.isNormal, List.set_nil, List.length_set, List.all_cons, List.all_nil, Bool.and_self, and_self, true_and, and_true, List.getElem?_nil, Int.reduceLT, Int.reduceLE, Int.reduceToNat, Int.toNat_zero, Int.toNat_one, Int.reduceAdd, Int.reduceSub, Int.reduceMul, Int.reduceNeg, Int.reduceBEq, Int.reduceBNe, Int.reduceGE, Int.reduceGT, Nat.reduceLT, trim_keep, under_fn, under_ptr, under_sl, Nat.lt_irrefl, not_lt_add, trim_tail, keepOk, ABlk.vals, Int.cast_ofNat_Int, decide_true, decide_false, List.all_cons, List.all_nil, Nat.zero_mul, Nat.mul_one, Nat.one_mul, and_self, true_and, splice_one, List.flatten_cons, List.flatten_nil, eq_nn, ne_nn, eq_pn, ne_pn, eq_snn, ne_snn, eq_ssn, ne_ssn, len_nil, len_sl, ext_tup, nil_ptr, under_nilPtr, under_nilSl, under_undef, min2, max2, conv_int, oneOf_three, fill_nil, fill_cons, cellsA_int, cellsA_bool, cellsA_agg, cellsA_ptr, cellsA_nilPtr, cellsA_nilSl, cellsA_sl, cellsA_fn, asI_none, asI_int, cell_ptr, cell_nilPtr, cell_nilSl, cell_sl, rep_len, rep_take, rep_cell, splice_rep, rep_under, eq_rep, idx_sl, o_loop, o_yield, la, lb, d1, d2, o_wakes, o_call]
    exact ⟨_, rfl⟩
  have d2 : decide ((ys.length : Int) > 600) = false := by simp; omega
  have hi' : i ≤ 9223372036854775807 := (show -9223372036854775808 ≤ i ∧ i ≤ 9223372036854775807 from hi).2
  obtain ⟨h0, e0⟩ : ∃ h0, h0 = h ++ [ABlk.rw [.int .i64 i, .int .i64 k]] := ⟨_, rfl⟩
  have a0 : Adds h h0 := ⟨_, e0⟩
  have c0 : cellsOf h0 h.length = some [.int .i64 i, .int .i64 k] := by subst e0; unfold cellsOf; simp
  obtain ⟨v1, h1, a1, b1, e1⟩ := copyA (a0.bs ba) (by omega)
  obtain ⟨v2, h2, a2, b2, e2⟩ := copyA ((a0.trans a1).bs bb) (by omega)
  have c2 := (a1.trans a2).cells c0
  have b1 := a2.bs b1
  have ba := (a0.trans (a1.trans a2)).bs ba
  have bb := (a0.trans (a1.trans a2)).bs bb
  have e3 := hasC b1 i hi'
  have e4 := hasR ba i hi'
  obtain ⟨v5, h5, a5, b5, e5⟩ := withA b1 (by omega) i hi'
  obtain ⟨v6, h6, a6, b6, e6⟩ := withRA (a5.bs ba) (by omega) i hi'
  have e7 := bytesT (a6.bs b5) b6 (withS_u8 ux i)
  have A := a5.trans a6
  obtain ⟨v8, h8, a8, b8, e8⟩ := orA (A.bs b1) (A.bs b2) (by omega) (by omega)
  have A := A.trans a8
  obtain ⟨v9, h9, a9, b9, e9⟩ := orRA (A.bs ba) (A.bs bb) (by omega) (by omega)
  have e10 := bytesT (a9.bs b8) b9 (orS_u8 ux uy)
  have A := A.trans a9
  have e11 := countC (A.bs b1) ux (by omega)
  obtain ⟨v12, h12, a12, b12, e12⟩ := allRA (A.bs ba) (by omega)
  have A := A.trans a12
  have l12 := b12.len
  have q12 : (sumO xs == ((allS xs).length : Int)) = true := by rw [count_all ux]; simp
  obtain ⟨v13, h13, a13, b13, e13⟩ := allA (A.bs b1) (by omega)
  have A := A.trans a13
  obtain ⟨v14, h14, a14, b14, e14⟩ := allRA (A.bs ba) (by omega)
  have A := A.trans a14
  have e15 := intsC (a14.is b13) b14 (by have := allS_len xs; omega)
  have e16 := goodC (A.bs b1) (by omega) k
  have e17 := goodR (A.bs ba) (by omega) k
  obtain ⟨v18, h18, a18, b18, e18⟩ := newA k h14
  have A := A.trans a18
  obtain ⟨v19, h19, a19, b19, e19⟩ := newRA k h18
  have A := A.trans a19
  have e20 := bytesT (a19.bs b18) b19 (rep_u8 _)
  have e21 := bytesT (A.bs b1) (A.bs ba) ux
  have e22 := bytesT (A.bs b2) (A.bs bb) uy
  subst e0
  simp only [List.append_assoc, List.cons_append, List.nil_append, List.length_append, List.length_cons, List.length_nil] at e1
  simp -implicitDefEqProofs (maxSteps := 5000000) only [runI_nil, runI_o, runI_u, runI_og, runI_ug, runD_nil, runD_o, runD_rd, runD_hv, runD_hvu, runD_og, runD_rdg, runD_hvg, chk_nil, Nat.testBit, Nat.reduceShiftRight, Nat.reduceAnd, Nat.reduceBNe, bne_self_eq_false, eq_self, chk_cons, chk_if, runC_skip, runC_exit, runC_ret, runC_reg, runC_drw, runC_seq, runC_ite, runC_block, normR_some, seqR_normal, seqR_exit', seqR_ret, condR_bool, seqR_cond, blockR_cond, fin_cond, trim_cond, blockR_normal, blockR_ret, blockR_exit, fin_ret, fin_normal, res_nil, res_tmp, res_cell, oneOf_one, oneOf_nil, oneOf_two, gval_bool, gval_undef, keepH_some', guarded_true, guarded_false, guarded_some, gval_may, mayV_true, mayV_false, may_bin1, may_bin1w, may_bin2, may_bin2w, may_un, may_unw, may_load, may_loadw, may_fa, may_faw, may_fi, may_fiw, may_pk, may_pkw, may_cl1, may_cl1w, may_cl2, may_cl2w, may_cl3, may_cl3w, may_cl4, may_cl4w, may_cv, may_cvw, may_ia1, may_ia1w, may_ia2, may_ia2w, may_is1, may_is1w, may_is2, may_is2w, may_ix1, may_ix1w, may_ix2, may_ix2w, may_st1, may_st1w, may_st2, may_st2w, may_ls, may_lsw, may_ll, may_llw, may_ex, may_exw, may_bx, may_bxw, beq_tt, beq_ff, pick_bool, cond_may1, cond_may2, cond_may3, cond_and', cond_or', cond_boolV, cond_intV, box_int, box_bool, box_agg, not_bool, eq_bool, ne_bool, int_add, int_quo, int_rem, ne_eq, Int.reduceEq, not_false_eq_true, guarded_heap, int_sub, int_mul, int_eql, int_neq, int_lss, int_leq, int_gtr, int_geq, cells_end, cells_add, cells_zero, cells_zero', cells_succ, load_agg, load_one, readN, read1, trim_some_id, trim_app, under_int, under_bool, under_agg, under_tup, underAll_nil, underAll_cons, contI_some, contIu_some, contD_some, contR_some, contH_some, contHu_some, tst_true, onI_some, onIu_some, onD_some, onR_some, onH_some, sMov_ap, X_ap, K_ap, sPick_ap, sAlloc_ap, sBox_ap, sBuild_ap, sBuildSl_ap, sLoad_ap, sStore_ap, sNil_ap, sBin_ap, sUn_ap, sConv_ap, sFun_ap, sMake_ap, sSliceA_ap, sSliceS_ap, sFieldAddr_ap, sField_ap, sIdxAddrA_ap, sIdxAddrS_ap, sIdxA_ap, sIdxStr_ap, sExtract_ap, sLenStr_ap, sLenSl_ap, sLenArr_ap, sCapSl_ap, sMax_ap, sMin_ap, sCopy_ap, sAppN_ap, sApp_ap, sCall_ap, sCallV_ap, ap, fieldAddrS, fieldS, allocV, get_zero, get_succ, List.set_cons_zero, List.set_cons_succ, List.map_cons, List.map_nil, Option.bind_some, Option.map_some, List.length_cons, List.length_nil, List.length_append, List.cons_append, List.nil_append, List.append_nil, List.append_assoc, List.replicate_succ, List.replicate_zero, List.drop_zero, List.drop_succ_cons, List.take_zero, List.take_succ_cons, List.getElem?_cons_zero, List.getElem?_cons_succ, Nat.reduceAdd, Nat.reduceSub, Nat.reduceMul, Nat.reduceLeDiff, Nat.zero_add, Nat.add_zero, Nat.add_assoc, Nat.le_refl, if_true, if_false, Bool.true_and, Bool.and_true, Bool.true_or, Bool.or_true, Bool.false_or, Bool.or_false, Bool.false_and, Bool.and_false, Bool.not_true, Bool.not_false, cond_true, cond_false, reduceIte, reduceCtorEq, decide_true, decide_false, beq_self_eq_true, Nat.reduceBEq, Nat.reduceEqDiff, Nat.add_left_cancel_iff, wrap64, loop_run, runC_loop, runC_range, callF_fn, callV_fn, callV_yld, yield_eq, yieldBody, yieldRaw, roundMid, roundEnd, rangeEnd, Bool.not_not, put_cons, put_nil, trim_same, at_zero, at_add, set_zero, set_add, store_one, write_zero, write_add, write_head, write_succ, splice_one, splice_more, List.drop_nil, List.take_nil, cell_int, cell_bool, fillS, splice_one, idxA, Ex.isNormal, List.set_nil, List.length_set, List.all_cons, List.all_nil, Bool.and_self, and_self, true_and, and_true, List.getElem?_nil, Int.reduceLT, Int.reduceLE, Int.reduceToNat, Int.toNat_zero, Int.toNat_one, Int.reduceAdd, Int.reduceSub, Int.reduceMul, Int.reduceNeg, Int.reduceBEq, Int.reduceBNe, Int.reduceGE, Int.reduceGT, Nat.reduceLT, trim_keep, under_fn, under_ptr, under_sl, Nat.lt_irrefl, not_lt_add, trim_tail, keepOk, ABlk.vals, Int.cast_ofNat_Int, decide_true, decide_false, List.all_cons, List.all_nil, Nat.zero_mul, Nat.mul_one, Nat.one_mul, and_self, true_and, splice_one, List.flatten_cons, List.flatten_nil, eq_nn, ne_nn, eq_pn, ne_pn, eq_snn, ne_snn, eq_ssn, ne_ssn, len_nil, len_sl, ext_tup, nil_ptr, under_nilPtr, under_nilSl, under_undef, min2, max2, conv_int, oneOf_three, fill_nil, fill_cons, cellsA_int, cellsA_bool, cellsA_agg, cellsA_ptr, cellsA_nilPtr, cellsA_nilSl, cellsA_sl, cellsA_fn, asI_none, asI_int, cell_ptr, cell_nilPtr, cell_nilSl, cell_sl, rep_len, rep_take, rep_cell, splice_rep, rep_under, eq_rep, idx_sl, o_loop, o_yield, idx_arr, la, lb, d1, d2, o_wakes, o_call, e1, e2, c2, e3, e4, e5, e6, e7, e8, e9, e10, e11, e12, l12, q12, e13, e14, e15, e16, e17, e18, e19, e20, e21, e22]
  exact trim_any ..
end Go.Proofs.Ytgggepohkdmjeaa.G09

