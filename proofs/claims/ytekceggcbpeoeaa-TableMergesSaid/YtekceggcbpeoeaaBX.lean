/- What the functions that TableMerges reaches answer, for every argument. No condition but those in each statement. -/
import Derived.Test.YtekceggcbpeoeaaN
import Derived.Test.YtekceggcbpeoeaaE6
set_option linter.unusedSimpArgs false
set_option linter.unusedVariables false
set_option linter.unusedSectionVars false
set_option maxRecDepth 10000
section
namespace Go.Proofs.Ytekceggcbpeoeaa.G10
open Go Go.Proofs.Ytekceggcbpeoeaa.Eng
noncomputable abbrev LP1 (l : Env → CT) := (envL prog).loop (runC (envL prog) (l (envL prog)))
noncomputable def X0 : Over := Over.none.with 25 ovR
theorem x0_ov (args : List AV) (h : AHeap) (r : AV × AHeap) (e : ovR args h = some r) : (envX prog X0).call 25 args h = some r := by
 unfold envX X0 Over.with
 simp [e]
def pd : TyD := ty 2 true 16 [.int .i64 0, .int .i64 0]
set_option maxHeartbeats 8000000 in
theorem insB (h : AHeap) (b vb n i : Nat) (cs vs : List AV) (hk : h[b]? = some (.rw cs)) (hv : h[vb]? = some (.rw vs)) (hne : vb ≠ b) (hi : i < n) (lc : cs.length = n * 2) (lv : vs.length = 2) (cc : cs.all AV.isCell = true) (cv : vs.all AV.isCell = true) (room : (n + 1) * 16 ≤ roomy) :
  callBody prog (envX prog X0) 21 [.sl b 0 2 n n true, .int .i64 (i : Int), .sl vb 0 2 1 1 true] h = some (.sl h.length 0 2 (n + 1) (n + 1) false, h ++ [.rw (insC 2 i cs vs)]) := by
 have hr : (roomy : Nat) = 140737488355328 := rfl
 have ltb := lt_of_at hk
 have ltv := lt_of_at hv
 have s1 := sl_from (sz := 2) (b := b) (off := 0) (len := n) (cp := n) (i := i) (ex := true) (by omega) (Nat.le_refl _)
 have s2 := sl_to (sz := 2) (b := b) (off := 0) (len := n) (cp := n) (u := i) (ex := true) (by omega)
 have d1 : ((i : Int) == (n : Int)) = false := by simp; omega
 have w1 : IntKind.i64.wrap ((n : Int) + 1) = (n : Int) + 1 := wrap64 (by omega) (by omega)
 have d2 : decide ((n : Int) + 1 > (n : Int)) = true := decide_eq_true (by omega)
 have w2 : IntKind.i64.wrap ((n : Int) + 1 - (i : Int)) = ((n + 1 - i : Nat) : Int) := by rw [wrap64 (by omega) (by omega)]; omega
 have a1 := appN_ex (d := ty 2 true 16 [.int .i64 0, .int .i64 0]) (h := h) (b := b) (off := 0) (sz := 2) (len := i) (c := n) (k := n + 1 - i) rfl (by omega) (by decide) (by omega) (by omega) (read_at hk (by omega)) (by show (i + (n + 1 - i)) * 16 ≤ _; rw [show i + (n + 1 - i) = n + 1 by omega]; exact room)
 rw [show i + (n + 1 - i) = n + 1 by omega, List.drop_zero] at a1
 obtain ⟨z0, hz0⟩ : ∃ z0, z0 = cs.take (i * 2) ++ (List.replicate (n + 1 - i) (ty 2 true 16 [.int .i64 0, .int .i64 0]).zero).flatten := ⟨_, rfl⟩
 rw [← hz0] at a1
 have lz : z0.length = (n + 1) * 2 := by rw [hz0]; simp [ty, lc]; omega
 have s3 := sl_from (sz := 2) (b := h.length) (off := 0) (len := n + 1) (cp := n + 1) (i := i) (ex := false) (by omega) (Nat.le_refl _)
 have s4 := sl_from (sz := 2) (b := h.length) (off := 0) (len := n + 1) (cp := n + 1) (i := i + 1) (ex := false) (by omega) (Nat.le_refl _)
 obtain ⟨H1, hH1⟩ : ∃ H1, H1 = h ++ [ABlk.rw z0] := ⟨_, rfl⟩
 rw [← hH1] at a1
 have k1 : H1[h.length]? = some (.rw z0) := by rw [hH1]; simp
 have v1 : H1[vb]? = some (.rw vs) := by rw [hH1, List.getElem?_append_left ltv]; exact hv
 have b1 : H1[b]? = some (.rw cs) := by rw [hH1, List.getElem?_append_left ltb]; exact hk
 have c1 := copy_sl (d := ty 2 true 16 [.int .i64 0, .int .i64 0]) (h := H1) (b := h.length) (off := 0 + i * 2) (sz := 2) (len := n + 1 - i) (c := n + 1 - i) (b2 := vb) (off2 := 0) (m := 1) (c2 := 1) (ex := false) (ex2 := true) (cs := z0) (src := vs) rfl (by omega) k1 (by omega) (by rw [show min 1 (n + 1 - i) * 2 = 2 by omega, read_at v1 (by omega), List.drop_zero, ← lv, List.take_length]) (by omega) cv
 rw [show min 1 (n + 1 - i) = 1 by omega] at c1
 obtain ⟨z1, hz1⟩ : ∃ z1, z1 = splice z0 (0 + i * 2) vs := ⟨_, rfl⟩
 rw [← hz1] at c1
 have sv : splice z0 (0 + i * 2) vs = z0.take (0 + i * 2) ++ vs ++ z0.drop (0 + i * 2 + vs.length) := splice_long _ _ _ (by omega)
 have lz1 : z1.length = (n + 1) * 2 := by rw [hz1, sv]; simp [lz, lv]; omega
 obtain ⟨H2, hH2⟩ : ∃ H2, H2 = H1.set h.length (.rw z1) := ⟨_, rfl⟩
 rw [← hH2] at c1
 have k2 : H2[h.length]? = some (.rw z1) := by rw [hH2]; exact at_set _ _ _ (lt_of_at k1)
 have b2 : H2[b]? = some (.rw cs) := by rw [hH2, List.getElem?_set_ne (by omega)]; exact b1
 have w3 : IntKind.i64.wrap ((i : Int) + 1) = ((i + 1 : Nat) : Int) := by rw [wrap64 (by omega) (by omega)]; push_cast; rfl
 have tl : ((cs.drop (0 + i * 2)).take ((n - i) * 2)) = cs.drop (i * 2) := by rw [Nat.zero_add]; exact List.take_of_length_le (by rw [List.length_drop, lc]; omega)
 have ld : (cs.drop (i * 2)).length = (n - i) * 2 := by rw [List.length_drop, lc]; omega
 have c2 := copy_sl (d := ty 2 true 16 [.int .i64 0, .int .i64 0]) (h := H2) (b := h.length) (off := 0 + (i + 1) * 2) (sz := 2) (len := n + 1 - (i + 1)) (c := n + 1 - (i + 1)) (b2 := b) (off2 := 0 + i * 2) (m := n - i) (c2 := n - i) (ex := false) (ex2 := true) (cs := z1) (src := cs.drop (i * 2)) rfl (by omega) k2 (by omega) (by rw [show min (n - i) (n + 1 - (i + 1)) = n - i by omega, read_at b2 (by rw [lc]; omega), tl]) (by rw [ld, lz1]; omega) (all_drop cc _)
 have fin : splice z1 (0 + (i + 1) * 2) (cs.drop (i * 2)) = insC 2 i cs vs := by
  have e1 : z1.take (0 + (i + 1) * 2) = cs.take (i * 2) ++ vs := by
   rw [hz1, sv, List.take_append_of_le_length (by simp [lz, lv]; omega), List.take_of_length_le (by simp [lz, lv]; omega), hz0, List.take_append_of_le_length (by simp [lc]; omega), List.take_of_length_le (by simp; omega)]
  have ln : (cs.drop (i * 2)).length ≠ 1 := by rw [ld]; omega
  have dz : z1.drop (0 + (i + 1) * 2 + (cs.drop (i * 2)).length) = [] := List.drop_of_length_le (by rw [ld, lz1]; omega)
  rw [splice_long _ _ _ ln, e1, dz, List.append_nil]; rfl
 rw [fin] at c2
 have H3 : H2.set h.length (.rw (insC 2 i cs vs)) = h ++ [.rw (insC 2 i cs vs)] := by
  rw [hH2, List.set_set, hH1, List.set_append_right _ _ (Nat.le_refl _)]; simp
 rw [H3] at c2
 have u : (AV.sl h.length 0 2 (n + 1) (n + 1) false).under h.length = false := by simp [AV.under]
 rw [d21]
 unfold b21
 have cap : capSl (.sl b 0 2 n n true) = some (.int .i64 (n : Int)) := rfl
 have l1 : lenSl (.sl vb 0 2 1 1 true) = some (.int .i64 1) := rfl
 have l2 : lenSl (.sl b 0 2 n n true) = some (.int .i64 (n : Int)) := rfl
 simp only [Nat.zero_add] at c1 c2 s1 s3 s4
 simp -implicitDefEqProofs (maxSteps := 5000000) only [runI_nil, runI_o, runI_u, runI_og, runI_ug, runD_nil, runD_o, runD_rd, runD_hv, runD_hvu, runD_og, runD_rdg, runD_hvg, chk_nil, Nat.testBit, Nat.reduceShiftRight, Nat.reduceAnd, Nat.reduceBNe, bne_self_eq_false, eq_self, chk_cons, chk_if, runC_skip, runC_exit, runC_ret, runC_reg, runC_drw, runC_seq, runC_ite, runC_block, normR_some, seqR_normal, seqR_exit', seqR_ret, condR_bool, seqR_cond, blockR_cond, fin_cond, trim_cond, blockR_normal, blockR_ret, blockR_exit, fin_ret, fin_normal, res_nil, res_tmp, res_cell, oneOf_one, oneOf_nil, oneOf_two, gval_bool, gval_undef, keepH_some', guarded_true, guarded_false, guarded_some, gval_may, mayV_true, mayV_false, may_bin1, may_bin1w, may_bin2, may_bin2w, may_un, may_unw, may_load, may_loadw, may_fa, may_faw, may_fi, may_fiw, may_pk, may_pkw, may_cl1, may_cl1w, may_cl2, may_cl2w, may_cl3, may_cl3w, may_cl4, may_cl4w, may_cv, may_cvw, may_ia1, may_ia1w, may_ia2, may_ia2w, may_is1, may_is1w, may_is2, may_is2w, may_ix1, may_ix1w, may_ix2, may_ix2w, may_st1, may_st1w, may_st2, may_st2w, may_ls, may_lsw, may_ll, may_llw, may_ex, may_exw, may_bx, may_bxw, beq_tt, beq_ff, pick_bool, cond_may1, cond_may2, cond_may3, cond_and', cond_or', cond_boolV, cond_intV, box_int, box_bool, box_agg, not_bool, eq_bool, ne_bool, int_add, int_quo, int_rem, ne_eq, Int.reduceEq, not_false_eq_true, guarded_heap, int_sub, int_mul, int_eql, int_neq, int_lss, int_leq, int_gtr, int_geq, cells_end, cells_add, cells_zero, cells_zero', cells_succ, load_agg, load_one, readN, read1, trim_some_id, trim_app, under_int, under_bool, under_agg, under_tup, underAll_nil, underAll_cons, contI_some, contIu_some, contD_some, contR_some, contH_some, contHu_some, tst_true, onI_some, onIu_some, onD_some, onR_some, onH_some, sMov_ap, X_ap, K_ap, sPick_ap, sAlloc_ap, sBox_ap, sBuild_ap, sBuildSl_ap, sLoad_ap, sStore_ap, sNil_ap, sBin_ap, sUn_ap, sConv_ap, sFun_ap, sMake_ap, sSliceA_ap, sSliceS_ap, sFieldAddr_ap, sField_ap, sIdxAddrA_ap, sIdxAddrS_ap, sIdxA_ap, sIdxStr_ap, sExtract_ap, sLenStr_ap, sLenSl_ap, sLenArr_ap, sCapSl_ap, sMax_ap, sMin_ap, sCopy_ap, sAppN_ap, sApp_ap, sCall_ap, sCallV_ap, ap, fieldAddrS, fieldS, allocV, get_zero, get_succ, List.set_cons_zero, List.set_cons_succ, List.map_cons, List.map_nil, Option.bind_some, Option.map_some, List.length_cons, List.length_nil, List.length_append, List.cons_append, List.nil_append, List.append_nil, List.append_assoc, List.replicate_succ, List.replicate_zero, List.drop_zero, List.drop_succ_cons, List.take_zero, List.take_succ_cons, List.getElem?_cons_zero, List.getElem?_cons_succ, Nat.reduceAdd, Nat.reduceSub, Nat.reduceMul, Nat.reduceLeDiff, Nat.zero_add, Nat.add_zero, Nat.add_assoc, Nat.le_refl, if_true, if_false, Bool.true_and, Bool.and_true, Bool.true_or, Bool.or_true, Bool.false_or, Bool.or_false, Bool.false_and, Bool.and_false, Bool.not_true, Bool.not_false, cond_true, cond_false, reduceIte, reduceCtorEq, decide_true, decide_false, beq_self_eq_true, Nat.reduceBEq, Nat.reduceEqDiff, Nat.add_left_cancel_iff, wrap64, runC_loop, runC_range, callF_fn, callV_fn, callV_yld, yield_eq, yieldBody, yieldRaw, roundMid, roundEnd, rangeEnd, Bool.not_not, put_cons, put_nil, trim_same, at_zero, at_add, set_zero, set_add, store_one, write_zero, write_add, write_head, write_succ, splice_one, splice_more, List.drop_nil, List.take_nil, cell_int, cell_bool, fillS, splice_one, idxA, Ex.isNormal, List.set_nil, List.length_set, List.all_cons, List.all_nil, Bool.and_self, and_self, true_and, and_true, List.getElem?_nil, Int.reduceLT, Int.reduceLE, Int.reduceToNat, Int.toNat_zero, Int.toNat_one, Int.reduceAdd, Int.reduceSub, Int.reduceMul, Int.reduceNeg, Int.reduceBEq, Int.reduceBNe, Int.reduceGE, Int.reduceGT, Nat.reduceLT, trim_keep, under_fn, under_ptr, under_sl, Nat.lt_irrefl, not_lt_add, trim_tail, keepOk, ABlk.vals, Int.cast_ofNat_Int, decide_true, decide_false, List.all_cons, List.all_nil, Nat.zero_mul, Nat.mul_one, Nat.one_mul, s1, s2, d1, w1, d2, w2, a1, cap, l1, l2, s3, s4, c1, w3, c2, trim_keep, u]
set_option maxHeartbeats 8000000 in
theorem insA (h : AHeap) (b vb n i cap : Nat) (cs vs rest : List AV) (hk : h[b]? = some (.rw (cs ++ rest))) (hv : h[vb]? = some (.rw vs)) (hne : vb ≠ b) (hi : i < n) (hcap : n + 1 ≤ cap) (lc : cs.length = n * 2) (lr : rest.length = (cap - n) * 2) (lv : vs.length = 2) (cc : cs.all AV.isCell = true) (cv : vs.all AV.isCell = true) (room : (n + 1) * 16 ≤ roomy) :
  ∃ K, callBody prog (envX prog X0) 21 [.sl b 0 2 n cap true, .int .i64 (i : Int), .sl vb 0 2 1 1 true] h = some (.sl b 0 2 (n + 1) cap true, h.set b (.rw K)) ∧ K.take ((n + 1) * 2) = insC 2 i cs vs := by
 have hr : (roomy : Nat) = 140737488355328 := rfl
 have ltb := lt_of_at hk
 have ltv := lt_of_at hv
 have s1 := sl_from (sz := 2) (b := b) (off := 0) (len := n) (cp := cap) (i := i) (ex := true) (by omega) (by omega)
 have s5 := sl_to (sz := 2) (b := b) (off := 0) (len := n) (cp := cap) (u := n + 1) (ex := true) (by omega)
 have d1 : ((i : Int) == (n : Int)) = false := by simp; omega
 have w1 : IntKind.i64.wrap ((n : Int) + 1) = ((n + 1 : Nat) : Int) := by rw [wrap64 (by omega) (by omega)]; push_cast; rfl
 have d2 : decide (((n + 1 : Nat) : Int) > (cap : Int)) = false := decide_eq_false (by omega)
 have w3 : IntKind.i64.wrap ((i : Int) + 1) = ((i + 1 : Nat) : Int) := by rw [wrap64 (by omega) (by omega)]; push_cast; rfl
 have s6 := sl_from (sz := 2) (b := b) (off := 0) (len := n + 1) (cp := cap) (i := i + 1) (ex := true) (by omega) (by omega)
 have s7 := sl_from (sz := 2) (b := b) (off := 0) (len := n + 1) (cp := cap) (i := i) (ex := true) (by omega) (by omega)
 have rb : isRw h b = true := by unfold isRw; rw [hk]
 have rv : isRw h vb = true := by unfold isRw; rw [hv]
 have ov := x0_ov [.sl vb 0 2 1 1 true, .sl b ((i + 1) * 2) 2 (n + 1 - (i + 1)) (cap - (i + 1)) true] h (.bool false, h) (by
  unfold ovR
  simp only
  rw [if_pos ⟨hne, by omega, by omega, by omega, rv, rb⟩])
 have ld : (cs.drop (i * 2)).length = (n - i) * 2 := by rw [List.length_drop, lc]; omega
 have tl : (((cs ++ rest).drop (i * 2)).take ((n - i) * 2)) = cs.drop (i * 2) := by
  rw [List.drop_append_of_le_length (by omega), List.take_append_of_le_length (by omega), List.take_of_length_le (by omega)]
 have c1 := copy_sl (d := ty 2 true 16 [.int .i64 0, .int .i64 0]) (h := h) (b := b) (off := (i + 1) * 2) (sz := 2) (len := n + 1 - (i + 1)) (c := cap - (i + 1)) (b2 := b) (off2 := i * 2) (m := n + 1 - i) (c2 := cap - i) (ex := true) (ex2 := true) (cs := cs ++ rest) (src := cs.drop (i * 2)) rfl (by omega) hk (by omega) (by rw [show min (n + 1 - i) (n + 1 - (i + 1)) = n - i by omega, read_at hk (by rw [List.length_append, lc]; omega), tl]) (by rw [ld, List.length_append, lc, lr]; omega) (all_drop cc _)
 have ln : (cs.drop (i * 2)).length ≠ 1 := by rw [ld]; omega
 obtain ⟨z1, hz1⟩ : ∃ z1, z1 = splice (cs ++ rest) ((i + 1) * 2) (cs.drop (i * 2)) := ⟨_, rfl⟩
 rw [← hz1] at c1
 rw [splice_long _ _ _ ln] at hz1
 have lz1 : z1.length = cs.length + rest.length := by rw [hz1]; simp only [List.length_append, List.length_take, List.length_drop, lc, lr]; omega
 obtain ⟨H1, hH1⟩ : ∃ H1, H1 = h.set b (.rw z1) := ⟨_, rfl⟩
 rw [← hH1] at c1
 have k1 : H1[b]? = some (.rw z1) := by rw [hH1]; exact at_set _ _ _ ltb
 have v1 : H1[vb]? = some (.rw vs) := by rw [hH1, List.getElem?_set_ne (fun q => hne q.symm)]; exact hv
 have c2 := copy_sl (d := ty 2 true 16 [.int .i64 0, .int .i64 0]) (h := H1) (b := b) (off := i * 2) (sz := 2) (len := n + 1 - i) (c := cap - i) (b2 := vb) (off2 := 0) (m := 1) (c2 := 1) (ex := true) (ex2 := true) (cs := z1) (src := vs) rfl (by omega) k1 (by omega) (by rw [show min 1 (n + 1 - i) * 2 = 2 by omega, read_at v1 (by omega), List.drop_zero, ← lv, List.take_length]) (by rw [lz1, lc, lr]; omega) cv
 rw [show min 1 (n + 1 - i) = 1 by omega] at c2
 obtain ⟨z2, hz2⟩ : ∃ z2, z2 = splice z1 (i * 2) vs := ⟨_, rfl⟩
 rw [← hz2] at c2
 rw [splice_long _ _ _ (by omega), lv] at hz2
 have H2 : H1.set b (.rw z2) = h.set b (.rw z2) := by rw [hH1, List.set_set]
 rw [H2] at c2
 have cap' : capSl (.sl b 0 2 n cap true) = some (.int .i64 (cap : Int)) := rfl
 have l1 : lenSl (.sl vb 0 2 1 1 true) = some (.int .i64 1) := rfl
 have l2 : lenSl (.sl b 0 2 n cap true) = some (.int .i64 (n : Int)) := rfl
 have ts : trim h (some (.sl b 0 2 (n + 1) cap true, h.set b (.rw z2))) = some (.sl b 0 2 (n + 1) cap true, h.set b (.rw z2)) := trim_same (by rw [List.length_set])
 simp only [Nat.zero_add] at s1 s6 s7
 refine ⟨z2, ?_, ?_⟩
 ·rw [d21]
  unfold b21
  simp -implicitDefEqProofs (maxSteps := 5000000) only [runI_nil, runI_o, runI_u, runI_og, runI_ug, runD_nil, runD_o, runD_rd, runD_hv, runD_hvu, runD_og, runD_rdg, runD_hvg, chk_nil, Nat.testBit, Nat.reduceShiftRight, Nat.reduceAnd, Nat.reduceBNe, bne_self_eq_false, eq_self, chk_cons, chk_if, runC_skip, runC_exit, runC_ret, runC_reg, runC_drw, runC_seq, runC_ite, runC_block, normR_some, seqR_normal, seqR_exit', seqR_ret, condR_bool, seqR_cond, blockR_cond, fin_cond, trim_cond, blockR_normal, blockR_ret, blockR_exit, fin_ret, fin_normal, res_nil, res_tmp, res_cell, oneOf_one, oneOf_nil, oneOf_two, gval_bool, gval_undef, keepH_some', guarded_true, guarded_false, guarded_some, gval_may, mayV_true, mayV_false, may_bin1, may_bin1w, may_bin2, may_bin2w, may_un, may_unw, may_load, may_loadw, may_fa, may_faw, may_fi, may_fiw, may_pk, may_pkw, may_cl1, may_cl1w, may_cl2, may_cl2w, may_cl3, may_cl3w, may_cl4, may_cl4w, may_cv, may_cvw, may_ia1, may_ia1w, may_ia2, may_ia2w, may_is1, may_is1w, may_is2, may_is2w, may_ix1, may_ix1w, may_ix2, may_ix2w, may_st1, may_st1w, may_st2, may_st2w, may_ls, may_lsw, may_ll, may_llw, may_ex, may_exw, may_bx, may_bxw, beq_tt, beq_ff, pick_bool, cond_may1, cond_may2, cond_may3, cond_and', cond_or', cond_boolV, cond_intV, box_int, box_bool, box_agg, not_bool, eq_bool, ne_bool, int_add, int_quo, int_rem, ne_eq, Int.reduceEq, not_false_eq_true, guarded_heap, int_sub, int_mul, int_eql, int_neq, int_lss, int_leq, int_gtr, int_geq, cells_end, cells_add, cells_zero, cells_zero', cells_succ, load_agg, load_one, readN, read1, trim_some_id, trim_app, under_int, under_bool, under_agg, under_tup, underAll_nil, underAll_cons, contI_some, contIu_some, contD_some, contR_some, contH_some, contHu_some, tst_true, onI_some, onIu_some, onD_some, onR_some, onH_some, sMov_ap, X_ap, K_ap, sPick_ap, sAlloc_ap, sBox_ap, sBuild_ap, sBuildSl_ap, sLoad_ap, sStore_ap, sNil_ap, sBin_ap, sUn_ap, sConv_ap, sFun_ap, sMake_ap, sSliceA_ap, sSliceS_ap, sFieldAddr_ap, sField_ap, sIdxAddrA_ap, sIdxAddrS_ap, sIdxA_ap, sIdxStr_ap, sExtract_ap, sLenStr_ap, sLenSl_ap, sLenArr_ap, sCapSl_ap, sMax_ap, sMin_ap, sCopy_ap, sAppN_ap, sApp_ap, sCall_ap, sCallV_ap, ap, fieldAddrS, fieldS, allocV, get_zero, get_succ, List.set_cons_zero, List.set_cons_succ, List.map_cons, List.map_nil, Option.bind_some, Option.map_some, List.length_cons, List.length_nil, List.length_append, List.cons_append, List.nil_append, List.append_nil, List.append_assoc, List.replicate_succ, List.replicate_zero, List.drop_zero, List.drop_succ_cons, List.take_zero, List.take_succ_cons, List.getElem?_cons_zero, List.getElem?_cons_succ, Nat.reduceAdd, Nat.reduceSub, Nat.reduceMul, Nat.reduceLeDiff, Nat.zero_add, Nat.add_zero, Nat.add_assoc, Nat.le_refl, if_true, if_false, Bool.true_and, Bool.and_true, Bool.true_or, Bool.or_true, Bool.false_or, Bool.or_false, Bool.false_and, Bool.and_false, Bool.not_true, Bool.not_false, cond_true, cond_false, reduceIte, reduceCtorEq, decide_true, decide_false, beq_self_eq_true, Nat.reduceBEq, Nat.reduceEqDiff, Nat.add_left_cancel_iff, wrap64, runC_loop, runC_range, callF_fn, callV_fn, callV_yld, yield_eq, yieldBody, yieldRaw, roundMid, roundEnd, rangeEnd, Bool.not_not, put_cons, put_nil, trim_same, at_zero, at_add, set_zero, set_add, store_one, write_zero, write_add, write_head, write_succ, splice_one, splice_more, List.drop_nil, List.take_nil, cell_int, cell_bool, fillS, splice_one, idxA, Ex.isNormal, List.set_nil, List.length_set, List.all_cons, List.all_nil, Bool.and_self, and_self, true_and, and_true, List.getElem?_nil, Int.reduceLT, Int.reduceLE, Int.reduceToNat, Int.toNat_zero, Int.toNat_one, Int.reduceAdd, Int.reduceSub, Int.reduceMul, Int.reduceNeg, Int.reduceBEq, Int.reduceBNe, Int.reduceGE, Int.reduceGT, Nat.reduceLT, trim_keep, under_fn, under_ptr, under_sl, Nat.lt_irrefl, not_lt_add, trim_tail, keepOk, ABlk.vals, Int.cast_ofNat_Int, decide_true, decide_false, List.all_cons, List.all_nil, Nat.zero_mul, Nat.mul_one, Nat.one_mul, s1, s5, d1, w1, d2, w3, s6, s7, ov, c1, c2, cap', l1, l2, ts]
 ·have e0 : z1.take (i * 2) = cs.take (i * 2) := by
   rw [hz1, List.append_assoc, List.take_append_of_le_length (by simp [lc, lr]; omega), List.take_take, show min (i * 2) ((i + 1) * 2) = i * 2 by omega, List.take_append_of_le_length (by omega)]
  have e1 : z1.drop (i * 2 + 2) = cs.drop (i * 2) ++ (cs ++ rest).drop ((i + 1) * 2 + (cs.drop (i * 2)).length) := by
   rw [hz1, List.append_assoc, List.drop_append, List.drop_of_length_le (by simp [lc, lr]; omega), List.nil_append]
   have : i * 2 + 2 - ((cs ++ rest).take ((i + 1) * 2)).length = 0 := by simp [lc, lr]; omega
   rw [this, List.drop_zero]
  rw [hz2, e0, e1, ← List.append_assoc]
  unfold insC
  rw [List.take_append_of_le_length (by simp only [List.length_append, List.length_take, lv, ld, lc]; omega), List.take_of_length_le (by simp only [List.length_append, List.length_take, lv, ld, lc]; omega)]
noncomputable def X1 : Over := X0.with 21 (insR 2 16)
end Go.Proofs.Ytekceggcbpeoeaa.G10
end
section
namespace Go.Proofs.Ytekceggcbpeoeaa.G10
open Go Go.Proofs.Ytekceggcbpeoeaa.Eng
theorem goodP : Go.Proofs.Ytekceggcbpeoeaa.Eng.Good prog := good_of (by kernel_rfl) (by kernel_rfl)
theorem x0_ok : X0.Ok prog := with_ok (none_ok _) (ov_ok (fn := Go.Proofs.Try.f25) (tS := 22) (tR := 4) (e := 29) (d := ty 2 true 16 [.int .i64 0, .int .i64 0]) (by kernel_rfl) (by kernel_rfl) (by kernel_rfl) (by kernel_rfl) (by kernel_rfl) (by kernel_rfl) (by kernel_rfl))
theorem x1_ok : X1.Ok prog := with_ok x0_ok (ins_ok goodP x0_ok (by omega) insA insB)
end Go.Proofs.Ytekceggcbpeoeaa.G10
end
section
namespace Go.Proofs.Ytekceggcbpeoeaa.G10
open Go Go.Proofs.Ytekceggcbpeoeaa.Eng
section
variable {H : AHeap} {v : AV} {l : List PrS} (g : IsP H v l) (hl : l.length ≤ 1000000)
include g hl
theorem cloneC : ∃ v' K, (envL prog).call 19 [v] H = some (v', K) ∧ Adds H K ∧ Gp K H.length v' l := by
 have hr : (roomy : Nat) = 140737488355328 := rfl
 rw [c19]
 unfold b19
 rcases g with ⟨rfl, rfl⟩ | ⟨b, c, ex, rfl, hc, hb⟩
 ·refine ⟨.nilSl, H, ?_, Adds.refl H, .inl ⟨rfl, rfl⟩⟩
  simp -implicitDefEqProofs (maxSteps := 5000000) only [go_sem, Nat.reduceShiftRight, Nat.reduceAnd, Nat.reduceBNe, Int.reduceEq, Nat.reduceAdd, Nat.reduceSub, Nat.reduceMul, Nat.reduceLeDiff, reduceIte, reduceCtorEq, Nat.reduceBEq, Nat.reduceEqDiff, wrap64, runC_loop, runC_range, callF_fn, callV_fn, callV_yld, yield_eq, yieldBody, yieldRaw, roundMid, roundEnd, rangeEnd, Bool.not_not, put_cons, put_nil, trim_same, at_zero, at_add, set_zero, set_add, store_one, write_zero, write_add, write_head, write_succ, splice_one, splice_more, List.drop_nil, List.take_nil, cell_int, cell_bool, fillS, splice_one, idxA, Ex.isNormal, List.set_nil, List.length_set, List.all_cons, List.all_nil, Bool.and_self, and_self, true_and, and_true, List.getElem?_nil, Int.reduceLT, Int.reduceLE, Int.reduceToNat, Int.toNat_zero, Int.toNat_one, Int.reduceAdd, Int.reduceSub, Int.reduceMul, Int.reduceNeg, Int.reduceBEq, Int.reduceBNe, Int.reduceGE, Int.reduceGT, Nat.reduceLT, trim_keep, under_fn, under_ptr, under_sl, Nat.lt_irrefl, not_lt_add, trim_tail, keepOk, ABlk.vals, Int.cast_ofNat_Int, decide_true, decide_false, List.all_cons, List.all_nil, Nat.zero_mul, Nat.mul_one, Nat.one_mul]
 ·have g0 : Gp (H ++ [.rw []]) H.length (.sl H.length 0 2 0 0 true) [] := .inr (.inl ⟨rfl, H.length, Nat.le_refl _, rfl, by simp⟩)
  have gi : IsP (H ++ [.rw []]) (.sl b 0 2 l.length c ex) l := .inr ⟨b, c, ex, rfl, hc, cells_old hb⟩
  obtain ⟨v', K, ea, gk, fr, hn, he⟩ := gp_app g0 (by simp) gi.src.1 gi.src.2 (by simp; omega)
  rw [List.nil_append] at gk
  have A : Adds H K := fr.old ⟨_, rfl⟩ fun x hx h => by injection h with h; omega
  have u : v'.under H.length = false := by
   rcases gk with ⟨rfl, rfl⟩ | ⟨_, x, hx, rfl, _⟩ | ⟨_, x, hx, rfl, _⟩
   ·obtain ⟨q, _⟩ := he rfl; cases q
   ·simp [AV.under]; omega
   ·simp [AV.under]; omega
  refine ⟨v', K, ?_, A, gk⟩
  simp -implicitDefEqProofs (maxSteps := 5000000) only [go_sem, Nat.reduceShiftRight, Nat.reduceAnd, Nat.reduceBNe, Int.reduceEq, Nat.reduceAdd, Nat.reduceSub, Nat.reduceMul, Nat.reduceLeDiff, reduceIte, reduceCtorEq, Nat.reduceBEq, Nat.reduceEqDiff, wrap64, runC_loop, runC_range, callF_fn, callV_fn, callV_yld, yield_eq, yieldBody, yieldRaw, roundMid, roundEnd, rangeEnd, Bool.not_not, put_cons, put_nil, trim_same, at_zero, at_add, set_zero, set_add, store_one, write_zero, write_add, write_head, write_succ, splice_one, splice_more, List.drop_nil, List.take_nil, cell_int, cell_bool, fillS, splice_one, idxA, Ex.isNormal, List.set_nil, List.length_set, List.all_cons, List.all_nil, Bool.and_self, and_self, true_and, and_true, List.getElem?_nil, Int.reduceLT, Int.reduceLE, Int.reduceToNat, Int.toNat_zero, Int.toNat_one, Int.reduceAdd, Int.reduceSub, Int.reduceMul, Int.reduceNeg, Int.reduceBEq, Int.reduceBNe, Int.reduceGE, Int.reduceGT, Nat.reduceLT, trim_keep, under_fn, under_ptr, under_sl, Nat.lt_irrefl, not_lt_add, trim_tail, keepOk, ABlk.vals, Int.cast_ofNat_Int, decide_true, decide_false, List.all_cons, List.all_nil, Nat.zero_mul, Nat.mul_one, Nat.one_mul, ea, trim_keep, u]
theorem clos (b : Int) (q : Nat) (K : AHeap) (p : PrS) (hq : cellsOf K q = some [.int .i64 b]) : (envL prog).call 23 [.agg (prC p), .ptr q 0] K = some (.bool (p.1 == b), K) := by
 have c1 : ∀ X, cellsOf (K ++ X) q = some [.int .i64 b] := fun X => cells_old hq
 rw [c23]
 unfold b23 prC
 simp -implicitDefEqProofs (maxSteps := 5000000) only [go_sem, Nat.reduceShiftRight, Nat.reduceAnd, Nat.reduceBNe, Int.reduceEq, Nat.reduceAdd, Nat.reduceSub, Nat.reduceMul, Nat.reduceLeDiff, reduceIte, reduceCtorEq, Nat.reduceBEq, Nat.reduceEqDiff, wrap64, runC_loop, runC_range, callF_fn, callV_fn, callV_yld, yield_eq, yieldBody, yieldRaw, roundMid, roundEnd, rangeEnd, Bool.not_not, put_cons, put_nil, trim_same, at_zero, at_add, set_zero, set_add, store_one, write_zero, write_add, write_head, write_succ, splice_one, splice_more, List.drop_nil, List.take_nil, cell_int, cell_bool, fillS, splice_one, idxA, Ex.isNormal, List.set_nil, List.length_set, List.all_cons, List.all_nil, Bool.and_self, and_self, true_and, and_true, List.getElem?_nil, Int.reduceLT, Int.reduceLE, Int.reduceToNat, Int.toNat_zero, Int.toNat_one, Int.reduceAdd, Int.reduceSub, Int.reduceMul, Int.reduceNeg, Int.reduceBEq, Int.reduceBNe, Int.reduceGE, Int.reduceGT, Nat.reduceLT, trim_keep, under_fn, under_ptr, under_sl, Nat.lt_irrefl, not_lt_add, trim_tail, keepOk, ABlk.vals, Int.cast_ofNat_Int, decide_true, decide_false, List.all_cons, List.all_nil, Nat.zero_mul, Nat.mul_one, Nat.one_mul, c1]
end
section
variable {H : AHeap} {v : AV} {l : List PrS} (g : IsP H v l) (hl : l.length ≤ 1000000) (b : Int) {q : Nat} (hq : cellsOf H q = some [.int .i64 b])
include g hl hq
set_option maxHeartbeats 4000000 in
theorem idxL (x2 x3 x6 : AV) : ∀ (k i : Nat) (j5 j9 j10 j11 j12 j13 j14 j15 j16 j17 j18 : AV), i + k = l.length →
  Outs (LP1 l22x0 [v, .fn 23 [.ptr q 0], x2, x3, .int .i64 0, j5, x6, .int .i64 (l.length : Int), .int .i64 (i : Int), j9, j10, j11, j12, j13, j14, j15, j16, j17, j18] H) fun e t K => K = H ∧ ∃ fv : Nat → AV, t = [v, .fn 23 [.ptr q 0], x2, x3, (fv 4), (fv 5), x6, .int .i64 (l.length : Int), (fv 8), (fv 9), (fv 10), (fv 11), (fv 12), (fv 13), (fv 14), (fv 15), (fv 16), (fv 17), (fv 18)] ∧ ((e = .exit 0 ∧ idxF b i (l.drop i) = -1) ∨ (e = .ret ∧ fv 4 = .int .i64 (idxF b i (l.drop i)))) := by
 intro k
 obtain ⟨L0, hL0⟩ : ∃ L, L = LP1 l22x0 := ⟨_, rfl⟩
 have lo := loop_open hL0
 rw [← hL0]
 induction k with
 | zero =>
  intro i j5 j9 j10 j11 j12 j13 j14 j15 j16 j17 j18 hi
  obtain rfl : i = l.length := by omega
  have hd : decide ((l.length : Int) < (l.length : Int)) = false := by simp
  rw [List.drop_length, lo]
  unfold l22x0
  simp -implicitDefEqProofs (maxSteps := 5000000) only [go_sem, Nat.reduceShiftRight, Nat.reduceAnd, Nat.reduceBNe, Int.reduceEq, Nat.reduceAdd, Nat.reduceSub, Nat.reduceMul, Nat.reduceLeDiff, reduceIte, reduceCtorEq, Nat.reduceBEq, Nat.reduceEqDiff, hd, seqR_exit', outs_normal]
  exact exF2 rfl (.inl rfl)
 | succ k ih =>
  intro i j5 j9 j10 j11 j12 j13 j14 j15 j16 j17 j18 hi
  have hlt : i < l.length := by omega
  have hd : decide ((i : Int) < (l.length : Int)) = true := decide_eq_true (by omega)
  have e2 : IntKind.i64.wrap ((i : Int) + 1) = ((i + 1 : Nat) : Int) := by rw [wrap64 (by omega) (by omega)]; omega
  have hx := List.getElem?_eq_getElem hlt
  rw [List.drop_eq_getElem_cons hlt]
  generalize l[i] = p at *
  obtain ⟨bb, cs, _, ix, hc, _, _, ht, hle⟩ := g.idx hx
  have ec := clos g hl b q H p hq
  rw [lo]
  unfold l22x0
  by_cases h : p.1 = b
  ·have hb : (p.1 == b) = true := by simp [h]
   rw [idxF, if_pos h]
   simp -implicitDefEqProofs (maxSteps := 5000000) only [go_sem, Nat.reduceShiftRight, Nat.reduceAnd, Nat.reduceBNe, Int.reduceEq, Nat.reduceAdd, Nat.reduceSub, Nat.reduceMul, Nat.reduceLeDiff, reduceIte, reduceCtorEq, Nat.reduceBEq, Nat.reduceEqDiff, wrap64, runC_loop, runC_range, callF_fn, callV_fn, callV_yld, yield_eq, yieldBody, yieldRaw, roundMid, roundEnd, rangeEnd, Bool.not_not, put_cons, put_nil, trim_same, at_zero, at_add, set_zero, set_add, store_one, write_zero, write_add, write_head, write_succ, splice_one, splice_more, List.drop_nil, List.take_nil, cell_int, cell_bool, fillS, splice_one, idxA, Ex.isNormal, List.set_nil, List.length_set, List.all_cons, List.all_nil, Bool.and_self, and_self, true_and, and_true, List.getElem?_nil, Int.reduceLT, Int.reduceLE, Int.reduceToNat, Int.toNat_zero, Int.toNat_one, Int.reduceAdd, Int.reduceSub, Int.reduceMul, Int.reduceNeg, Int.reduceBEq, Int.reduceBNe, Int.reduceGE, Int.reduceGT, Nat.reduceLT, trim_keep, under_fn, under_ptr, under_sl, Nat.lt_irrefl, not_lt_add, trim_tail, keepOk, ABlk.vals, Int.cast_ofNat_Int, decide_true, decide_false, List.all_cons, List.all_nil, Nat.zero_mul, Nat.mul_one, Nat.one_mul, hd, ix, hc, ht, hle, ec, hb, seqR_ret, outs_normal]
   exact exF2 rfl (.inr rfl)
  ·have hb : (p.1 == b) = false := by simp [h]
   rw [idxF, if_neg h]
   simp -implicitDefEqProofs (maxSteps := 5000000) only [go_sem, Nat.reduceShiftRight, Nat.reduceAnd, Nat.reduceBNe, Int.reduceEq, Nat.reduceAdd, Nat.reduceSub, Nat.reduceMul, Nat.reduceLeDiff, reduceIte, reduceCtorEq, Nat.reduceBEq, Nat.reduceEqDiff, wrap64, runC_loop, runC_range, callF_fn, callV_fn, callV_yld, yield_eq, yieldBody, yieldRaw, roundMid, roundEnd, rangeEnd, Bool.not_not, put_cons, put_nil, trim_same, at_zero, at_add, set_zero, set_add, store_one, write_zero, write_add, write_head, write_succ, splice_one, splice_more, List.drop_nil, List.take_nil, cell_int, cell_bool, fillS, splice_one, idxA, Ex.isNormal, List.set_nil, List.length_set, List.all_cons, List.all_nil, Bool.and_self, and_self, true_and, and_true, List.getElem?_nil, Int.reduceLT, Int.reduceLE, Int.reduceToNat, Int.toNat_zero, Int.toNat_one, Int.reduceAdd, Int.reduceSub, Int.reduceMul, Int.reduceNeg, Int.reduceBEq, Int.reduceBNe, Int.reduceGE, Int.reduceGT, Nat.reduceLT, trim_keep, under_fn, under_ptr, under_sl, Nat.lt_irrefl, not_lt_add, trim_tail, keepOk, ABlk.vals, Int.cast_ofNat_Int, decide_true, decide_false, List.all_cons, List.all_nil, Nat.zero_mul, Nat.mul_one, Nat.one_mul, hd, ix, hc, ht, hle, ec, hb, e2]
   exact ih (i + 1) _ _ _ _ _ _ _ _ _ _ _ (by omega)
theorem idxFC : (envL prog).call 22 [v, .fn 23 [.ptr q 0]] H = some (.int .i64 (idxS l b), H) := by
 have l0 := idxL g hl b hq (k := l.length) (i := 0)
 rw [show ((0 : Nat) : Int) = 0 from rfl, List.drop_zero] at l0
 have wl := g.len
 have key : Outs (runC (envL prog) (b22 (envL prog)) ([v, .fn 23 [.ptr q 0]] ++ List.replicate (19 - [v, AV.fn 23 [.ptr q 0]].length) .undef) H) fun e' t K => K = H ∧ fin [.tmp 4] (some (e', t, K)) = some (.int .i64 (idxS l b), K) := by
  unfold b22
  generalize hQ : (fun (e' : Ex) (t : T) (K : AHeap) => K = H ∧ fin [.tmp 4] (some (e', t, K)) = some (AV.int .i64 (idxS l b), K)) = Q
  simp -implicitDefEqProofs (maxSteps := 5000000) only [go_sem, Nat.reduceShiftRight, Nat.reduceAnd, Nat.reduceBNe, Int.reduceEq, Nat.reduceAdd, Nat.reduceSub, Nat.reduceMul, Nat.reduceLeDiff, reduceIte, reduceCtorEq, Nat.reduceBEq, Nat.reduceEqDiff, wrap64, runC_loop, runC_range, callF_fn, callV_fn, callV_yld, yield_eq, yieldBody, yieldRaw, roundMid, roundEnd, rangeEnd, Bool.not_not, put_cons, put_nil, trim_same, at_zero, at_add, set_zero, set_add, store_one, write_zero, write_add, write_head, write_succ, splice_one, splice_more, List.drop_nil, List.take_nil, cell_int, cell_bool, fillS, splice_one, idxA, Ex.isNormal, List.set_nil, List.length_set, List.all_cons, List.all_nil, Bool.and_self, and_self, true_and, and_true, List.getElem?_nil, Int.reduceLT, Int.reduceLE, Int.reduceToNat, Int.toNat_zero, Int.toNat_one, Int.reduceAdd, Int.reduceSub, Int.reduceMul, Int.reduceNeg, Int.reduceBEq, Int.reduceBNe, Int.reduceGE, Int.reduceGT, Nat.reduceLT, trim_keep, under_fn, under_ptr, under_sl, Nat.lt_irrefl, not_lt_add, trim_tail, keepOk, ABlk.vals, Int.cast_ofNat_Int, decide_true, decide_false, List.all_cons, List.all_nil, Nat.zero_mul, Nat.mul_one, Nat.one_mul, runC_loop, wl]
  unfold LP1 at l0
  generalize (envL prog).loop (runC (envL prog) (l22x0 (envL prog))) = L0 at l0 ⊢
  refine outs_ctx (fun r => seqR (blockR 0 r) _) (l0 _ _ _ _ _ _ _ _ _ _ _ _ _ _ (by omega)) ?_
  rintro e t K ⟨rfl, fv, rfl, ⟨rfl, ho⟩ | ⟨rfl, f4⟩⟩
  ·simp -implicitDefEqProofs (maxSteps := 5000000) only [go_sem, Nat.reduceShiftRight, Nat.reduceAnd, Nat.reduceBNe, Int.reduceEq, Nat.reduceAdd, Nat.reduceSub, Nat.reduceMul, Nat.reduceLeDiff, reduceIte, reduceCtorEq, Nat.reduceBEq, Nat.reduceEqDiff, outs_normal]
   subst hQ
   have : idxS l b = -1 := ho
   rw [this]
   refine ⟨rfl, ?_⟩
   simp -implicitDefEqProofs (maxSteps := 5000000) only [go_sem, Nat.reduceShiftRight, Nat.reduceAnd, Nat.reduceBNe, Int.reduceEq, Nat.reduceAdd, Nat.reduceSub, Nat.reduceMul, Nat.reduceLeDiff, reduceIte, reduceCtorEq, Nat.reduceBEq, Nat.reduceEqDiff]
  ·simp -implicitDefEqProofs (maxSteps := 5000000) only [go_sem, Nat.reduceShiftRight, Nat.reduceAnd, Nat.reduceBNe, Int.reduceEq, Nat.reduceAdd, Nat.reduceSub, Nat.reduceMul, Nat.reduceLeDiff, reduceIte, reduceCtorEq, Nat.reduceBEq, Nat.reduceEqDiff, outs_normal]
   subst hQ
   refine ⟨rfl, ?_⟩
   simp -implicitDefEqProofs (maxSteps := 5000000) only [go_sem, Nat.reduceShiftRight, Nat.reduceAnd, Nat.reduceBNe, Int.reduceEq, Nat.reduceAdd, Nat.reduceSub, Nat.reduceMul, Nat.reduceLeDiff, reduceIte, reduceCtorEq, Nat.reduceBEq, Nat.reduceEqDiff, f4]
   rfl
 obtain ⟨e', t, K, hr, rfl, hf⟩ := key
 rw [c22, hr, hf]; exact trim_same rfl
end
section
variable {H : AHeap} {v : AV} {l : List PrS} (g : IsP H v l) (hl : l.length ≤ 1000000) (b : Int)
include g hl
theorem indexC : (envL prog).call 18 [v, .int .i64 b] H = some (.int .i64 (idxS l b), H) := by
 have ec := idxFC (g.adds (⟨[.rw [.int .i64 b]], rfl⟩ : Adds H (H ++ [.rw [.int .i64 b]]))) hl b (q := H.length) (by unfold cellsOf; simp)
 rw [c18]
 unfold b18
 simp -implicitDefEqProofs (maxSteps := 5000000) only [go_sem, Nat.reduceShiftRight, Nat.reduceAnd, Nat.reduceBNe, Int.reduceEq, Nat.reduceAdd, Nat.reduceSub, Nat.reduceMul, Nat.reduceLeDiff, reduceIte, reduceCtorEq, Nat.reduceBEq, Nat.reduceEqDiff, wrap64, runC_loop, runC_range, callF_fn, callV_fn, callV_yld, yield_eq, yieldBody, yieldRaw, roundMid, roundEnd, rangeEnd, Bool.not_not, put_cons, put_nil, trim_same, at_zero, at_add, set_zero, set_add, store_one, write_zero, write_add, write_head, write_succ, splice_one, splice_more, List.drop_nil, List.take_nil, cell_int, cell_bool, fillS, splice_one, idxA, Ex.isNormal, List.set_nil, List.length_set, List.all_cons, List.all_nil, Bool.and_self, and_self, true_and, and_true, List.getElem?_nil, Int.reduceLT, Int.reduceLE, Int.reduceToNat, Int.toNat_zero, Int.toNat_one, Int.reduceAdd, Int.reduceSub, Int.reduceMul, Int.reduceNeg, Int.reduceBEq, Int.reduceBNe, Int.reduceGE, Int.reduceGT, Nat.reduceLT, trim_keep, under_fn, under_ptr, under_sl, Nat.lt_irrefl, not_lt_add, trim_tail, keepOk, ABlk.vals, Int.cast_ofNat_Int, decide_true, decide_false, List.all_cons, List.all_nil, Nat.zero_mul, Nat.mul_one, Nat.one_mul, ec]
theorem findC : (envL prog).call 8 [v, .int .i64 b] H = some (.tup [.int .i64 (if 0 ≤ idxS l b then ((l[(idxS l b).toNat]?).getD (0, 0)).2 else 0), .bool (decide (0 ≤ idxS l b))], H) := by
 have ec := indexC g hl b
 rw [c8]
 unfold b8
 rcases idxS_rng l b with h | ⟨h1, h2⟩
 ·rw [h] at ec ⊢
  have d : decide ((-1 : Int) < 0) = true := rfl
  simp -implicitDefEqProofs (maxSteps := 5000000) only [go_sem, Nat.reduceShiftRight, Nat.reduceAnd, Nat.reduceBNe, Int.reduceEq, Nat.reduceAdd, Nat.reduceSub, Nat.reduceMul, Nat.reduceLeDiff, reduceIte, reduceCtorEq, Nat.reduceBEq, Nat.reduceEqDiff, wrap64, runC_loop, runC_range, callF_fn, callV_fn, callV_yld, yield_eq, yieldBody, yieldRaw, roundMid, roundEnd, rangeEnd, Bool.not_not, put_cons, put_nil, trim_same, at_zero, at_add, set_zero, set_add, store_one, write_zero, write_add, write_head, write_succ, splice_one, splice_more, List.drop_nil, List.take_nil, cell_int, cell_bool, fillS, splice_one, idxA, Ex.isNormal, List.set_nil, List.length_set, List.all_cons, List.all_nil, Bool.and_self, and_self, true_and, and_true, List.getElem?_nil, Int.reduceLT, Int.reduceLE, Int.reduceToNat, Int.toNat_zero, Int.toNat_one, Int.reduceAdd, Int.reduceSub, Int.reduceMul, Int.reduceNeg, Int.reduceBEq, Int.reduceBNe, Int.reduceGE, Int.reduceGT, Nat.reduceLT, trim_keep, under_fn, under_ptr, under_sl, Nat.lt_irrefl, not_lt_add, trim_tail, keepOk, ABlk.vals, Int.cast_ofNat_Int, decide_true, decide_false, List.all_cons, List.all_nil, Nat.zero_mul, Nat.mul_one, Nat.one_mul, ec, d]
 ·obtain ⟨i, hi⟩ : ∃ i : Nat, idxS l b = i := ⟨(idxS l b).toNat, by omega⟩
  rw [hi] at ec ⊢
  have d : decide ((i : Int) < 0) = false := decide_eq_false (by omega)
  have d2 : decide (0 ≤ (i : Int)) = true := decide_eq_true (by omega)
  have hx := List.getElem?_eq_getElem (show i < l.length by omega)
  obtain ⟨bb, cs, _, ix, hc, _, h2', _, hle⟩ := g.idx hx
  rw [if_pos (by omega), Int.toNat_natCast, hx, d2]
  simp -implicitDefEqProofs (maxSteps := 5000000) only [go_sem, Nat.reduceShiftRight, Nat.reduceAnd, Nat.reduceBNe, Int.reduceEq, Nat.reduceAdd, Nat.reduceSub, Nat.reduceMul, Nat.reduceLeDiff, reduceIte, reduceCtorEq, Nat.reduceBEq, Nat.reduceEqDiff, wrap64, runC_loop, runC_range, callF_fn, callV_fn, callV_yld, yield_eq, yieldBody, yieldRaw, roundMid, roundEnd, rangeEnd, Bool.not_not, put_cons, put_nil, trim_same, at_zero, at_add, set_zero, set_add, store_one, write_zero, write_add, write_head, write_succ, splice_one, splice_more, List.drop_nil, List.take_nil, cell_int, cell_bool, fillS, splice_one, idxA, Ex.isNormal, List.set_nil, List.length_set, List.all_cons, List.all_nil, Bool.and_self, and_self, true_and, and_true, List.getElem?_nil, Int.reduceLT, Int.reduceLE, Int.reduceToNat, Int.toNat_zero, Int.toNat_one, Int.reduceAdd, Int.reduceSub, Int.reduceMul, Int.reduceNeg, Int.reduceBEq, Int.reduceBNe, Int.reduceGE, Int.reduceGT, Nat.reduceLT, trim_keep, under_fn, under_ptr, under_sl, Nat.lt_irrefl, not_lt_add, trim_tail, keepOk, ABlk.vals, Int.cast_ofNat_Int, decide_true, decide_false, List.all_cons, List.all_nil, Nat.zero_mul, Nat.mul_one, Nat.one_mul, ec, d, ix, hc, h2']
  rfl
end
end Go.Proofs.Ytekceggcbpeoeaa.G10
end
section
namespace Go.Proofs.Ytekceggcbpeoeaa.G10
open Go Go.Proofs.Ytekceggcbpeoeaa.Eng
section
variable {H : AHeap} {v : AV} {l : List PrS} (g : IsP H v l) (hl : l.length ≤ 1000000) (b : Int)
include g hl
end
section
variable {H : AHeap} {v w : AV} {l m : List PrS} (g : IsP H v l) (f : IsP H w m) (hl : l.length ≤ 1000000)
include g f hl
end
end Go.Proofs.Ytekceggcbpeoeaa.G10
end
section
namespace Go.Proofs.Ytekceggcbpeoeaa.G10
open Go Go.Proofs.Ytekceggcbpeoeaa.Eng
theorem x_miss {X : Over} {k f : Nat} {R : List AV → AHeap → Option (AV × AHeap)} (args : List AV) (h : AHeap) (e : (f == k) = false) : (envX prog (X.with k R)).call f args h = (envX prog X).call f args h := by
 have : ¬ f = k := by simpa using e
 unfold envX Over.with
 simp [this]
theorem x_none (f : Nat) (args : List AV) (h : AHeap) : (envX prog Over.none).call f args h = (envL prog).call f args h := rfl
theorem x_hit {X : Over} {k : Nat} {R : List AV → AHeap → Option (AV × AHeap)} {args : List AV} {h : AHeap} {r : AV × AHeap} (e : R args h = some r) : (envX prog (X.with k R)).call k args h = some r := by
 unfold envX Over.with
 simp [e]
theorem x1_call (f : Nat) (args : List AV) (h : AHeap) (e1 : (f == 21) = false) (e2 : (f == 25) = false) : (envX prog X1).call f args h = (envL prog).call f args h := by
 unfold X1 X0; rw [x_miss _ _ e1, x_miss _ _ e2, x_none]
theorem insR_eq {h : AHeap} {b vb n i : Nat} {cs vs : List AV} (hk : h[b]? = some (.rw cs)) (hv : h[vb]? = some (.rw vs)) (hne : vb ≠ b) (hi : i < n) (lc : cs.length = n * 2) (lv : vs.length = 2) (cc : cs.all AV.isCell = true) (cv : vs.all AV.isCell = true) (room : (n + 1) * 16 ≤ roomy) :
  insR 2 16 [.sl b 0 2 n n false, .int .i64 (i : Int), .sl vb 0 2 1 1 true] h = some (.sl h.length 0 2 (n + 1) (n + 1) false, h.set b .dead ++ [.rw (insC 2 i cs vs)]) := by
 show (match h[b]?, h[vb]? with
  | some (.rw cs), some (.rw vs) => if (2 = 2 ∧ 2 = 2 ∧ n = n ∧ vb ≠ b ∧ i < n ∧ cs.length = n * 2 ∧ vs.length = 2 ∧ cs.all AV.isCell = true ∧ vs.all AV.isCell = true ∧ (n + 1) * 16 ≤ roomy) then some (AV.sl h.length 0 2 (n + 1) (n + 1) false, h.set b .dead ++ [ABlk.rw (insC 2 i cs vs)]) else none
  | _, _ => none) = _
 rw [hk, hv]
 exact if_pos ⟨rfl, rfl, rfl, hne, hi, lc, lv, cc, cv, room⟩
noncomputable abbrev LX (l : Env → CT) := (envL prog).loop (runC (envX prog X1) (l (envX prog X1)))
section
variable {H0 : AHeap} {v : AV} {l : List PrS} (hl : l.length ≤ 1000000) (b a : Int) {pb : Nat} (hpb : pb < H0.length)
include hl hpb
set_option maxHeartbeats 8000000 in
theorem putL (x2 x3 x4 x5 x8 x11 x12 x13 x14 x15 x16 x17 x18 x19 x20 x21 x22 x23 x24 x25 x43 x44 x45 x46 : AV) : ∀ (k i : Nat) (K : AHeap) (j9 j10 j29 j30 j31 j32 j33 j34 j35 j36 j37 j38 j39 j40 j41 j42 : AV), Gp K H0.length v l → Adds H0 K → cellsOf K pb = some (prC (b, a)) → i + k = l.length →
  Outs (LX l15x0  [v, .int .i64 b, x2, x3, x4, x5, .nilSl, .ptr pb 0, x8, j9, j10, x11, x12, x13, x14, x15, x16, x17, x18, x19, x20, x21, x22, x23, x24, x25, v, .int .i64 (l.length : Int), .int .i64 (i : Int), j29, j30, j31, j32, j33, j34, j35, j36, j37, j38, j39, j40, j41, j42, x43, x44, x45, x46] K) fun e t K' => Adds H0 K' ∧ ∃ fv : Nat → AV, t = [v, .int .i64 b, x2, x3, x4, x5, (fv 6), .ptr pb 0, x8, (fv 9), (fv 10), x11, x12, x13, x14, x15, x16, x17, x18, x19, x20, x21, x22, x23, x24, x25, v, .int .i64 (l.length : Int), (fv 28), (fv 29), (fv 30), (fv 31), (fv 32), (fv 33), (fv 34), (fv 35), (fv 36), (fv 37), (fv 38), (fv 39), (fv 40), (fv 41), (fv 42), x43, x44, x45, x46] ∧ ((e = .exit 0 ∧ Gp K' H0.length v l ∧ cellsOf K' pb = some (prC (b, a)) ∧ l.take i ++ tins b a (l.drop i) = l ++ [(b, a)]) ∨ (e = .ret ∧ Gp K' H0.length (fv 6) (l.take i ++ tins b a (l.drop i)) ∧ (fv 6).under H0.length = false)) := by
 intro k
 obtain ⟨L0, hL0⟩ : ∃ L, L = LX l15x0 := ⟨_, rfl⟩
 have lo := loop_open hL0
 rw [← hL0]
 have hr : (roomy : Nat) = 140737488355328 := rfl
 induction k with
 | zero =>
  intro i K j9 j10 j29 j30 j31 j32 j33 j34 j35 j36 j37 j38 j39 j40 j41 j42 g aK cp hi
  obtain rfl : i = l.length := by omega
  have hd : decide ((l.length : Int) < (l.length : Int)) = false := by simp
  rw [lo]
  unfold l15x0
  simp -implicitDefEqProofs (maxSteps := 5000000) only [go_sem, Nat.reduceShiftRight, Nat.reduceAnd, Nat.reduceBNe, Int.reduceEq, Nat.reduceAdd, Nat.reduceSub, Nat.reduceMul, Nat.reduceLeDiff, reduceIte, reduceCtorEq, Nat.reduceBEq, Nat.reduceEqDiff, hd, seqR_exit', outs_normal]
  exact ⟨aK, exF2 rfl (.inl ⟨g, cp, by rw [List.take_length, List.drop_length]; rfl⟩)⟩
 | succ k ih =>
  intro i K j9 j10 j29 j30 j31 j32 j33 j34 j35 j36 j37 j38 j39 j40 j41 j42 g aK cp hi
  have hlt : i < l.length := by omega
  have hd : decide ((i : Int) < (l.length : Int)) = true := decide_eq_true (by omega)
  have e2 : IntKind.i64.wrap ((i : Int) + 1) = ((i + 1 : Nat) : Int) := by rw [wrap64 (by omega) (by omega)]; omega
  have hx := List.getElem?_eq_getElem hlt
  have dr := List.drop_eq_getElem_cons hlt
  have tk : l.take (i + 1) = l.take i ++ [l[i]] := by rw [List.take_add_one, hx]; rfl
  generalize l[i] = q at *
  obtain ⟨bb, cs, sb, ix, hc, h1, h2, ht, hle⟩ := g.isP.idx hx
  have aK2 := aK.len
  have cp1 := fun X : AHeap => cells_old (x := X) cp
  unfold prC at cp1 ht
  by_cases h : q.1 > b
  ·have db : decide (q.1 > b) = true := decide_eq_true h
   have e3 : l.take i ++ tins b a (l.drop i) = l.take i ++ (b, a) :: l.drop i := by rw [dr, tins, if_pos h]
   obtain ⟨b1, hb1, rfl, hk1⟩ : ∃ b1, H0.length ≤ b1 ∧ v = .sl b1 0 2 l.length l.length false ∧ K[b1]? = some (.rw (flat l)) := by
    rcases g with ⟨_, rfl⟩ | ⟨rfl, _⟩ | ⟨_, b1, q1, q2, q3⟩
    ·simp at hlt
    ·simp at hlt
    ·exact ⟨b1, q1, q2, q3⟩
   have lb1 := lt_of_at hk1
   obtain ⟨K2, hK2⟩ : ∃ K2, K2 = K ++ [ABlk.rw [.int .i64 q.1, .int .i64 q.2], .rw [.int .i64 b, .int .i64 a]] := ⟨_, rfl⟩
   have k2 : K2[b1]? = some (.rw (flat l)) := by rw [hK2, List.getElem?_append_left lb1]; exact hk1
   have p2 : K2[K.length + 1]? = some (.rw (prC (b, a))) := by rw [hK2, List.getElem?_append_right (by omega)]; simp; rfl
   have l2 : K2.length = K.length + 2 := by rw [hK2]; simp
   have ei := insR_eq k2 p2 (by omega) hlt (flat_len l) rfl (flat_cell l) rfl (by omega)
   have ec := x_hit (X := X0) (k := 21) ei
   rw [show X0.with 21 (insR 2 16) = X1 from rfl, show insC 2 i (flat l) (prC (b, a)) = flat (l.take i ++ (b, a) :: l.drop i) from insC_rows l (b, a) i (by omega)] at ec
   obtain ⟨K3, hK3⟩ : ∃ K3, K3 = K2.set b1 .dead ++ [ABlk.rw (flat (l.take i ++ (b, a) :: l.drop i))] := ⟨_, rfl⟩
   rw [← hK3] at ec
   have ll : (l.take i ++ (b, a) :: l.drop i).length = l.length + 1 := by rw [List.length_append, List.length_take, List.length_cons, List.length_drop]; omega
   have g3 : Gp K3 H0.length (.sl K2.length 0 2 (l.length + 1) (l.length + 1) false) (l.take i ++ (b, a) :: l.drop i) := .inr (.inr ⟨by simp, K2.length, by omega, by rw [ll], by rw [hK3, List.getElem?_append_right (by rw [List.length_set]; exact Nat.le_refl _), List.length_set, Nat.sub_self]; rfl⟩)
   have a3 : Adds H0 K3 := by
    have : Fr K2 K3 (· = b1) := by rw [hK3]; exact (Fr.set (F := (· = b1)) _ _ rfl).trans (Fr.adds ⟨_, rfl⟩ (fun _ => False)) fun _ _ h => h.elim
    exact this.old (aK.trans ⟨_, hK2⟩) fun x hx e => by omega
   have u3 : (AV.sl K2.length 0 2 (l.length + 1) (l.length + 1) false).under H0.length = false := by simp [AV.under]; omega
   have hK2 := hK2.symm
   rw [e3, lo]
   unfold l15x0
   simp -implicitDefEqProofs (maxSteps := 5000000) only [go_sem, Nat.reduceShiftRight, Nat.reduceAnd, Nat.reduceBNe, Int.reduceEq, Nat.reduceAdd, Nat.reduceSub, Nat.reduceMul, Nat.reduceLeDiff, reduceIte, reduceCtorEq, Nat.reduceBEq, Nat.reduceEqDiff, wrap64, runC_loop, runC_range, callF_fn, callV_fn, callV_yld, yield_eq, yieldBody, yieldRaw, roundMid, roundEnd, rangeEnd, Bool.not_not, put_cons, put_nil, trim_same, at_zero, at_add, set_zero, set_add, store_one, write_zero, write_add, write_head, write_succ, splice_one, splice_more, List.drop_nil, List.take_nil, cell_int, cell_bool, fillS, splice_one, idxA, Ex.isNormal, List.set_nil, List.length_set, List.all_cons, List.all_nil, Bool.and_self, and_self, true_and, and_true, List.getElem?_nil, Int.reduceLT, Int.reduceLE, Int.reduceToNat, Int.toNat_zero, Int.toNat_one, Int.reduceAdd, Int.reduceSub, Int.reduceMul, Int.reduceNeg, Int.reduceBEq, Int.reduceBNe, Int.reduceGE, Int.reduceGT, Nat.reduceLT, trim_keep, under_fn, under_ptr, under_sl, Nat.lt_irrefl, not_lt_add, trim_tail, keepOk, ABlk.vals, Int.cast_ofNat_Int, decide_true, decide_false, List.all_cons, List.all_nil, Nat.zero_mul, Nat.mul_one, Nat.one_mul, hd, ix, hc, h1, h2, ht, hle, db, cp1, hK2, ec, seqR_ret, outs_normal]
   exact ⟨a3, exF2 rfl (.inr ⟨g3, u3⟩)⟩
  ·have db : decide (q.1 > b) = false := decide_eq_false h
   have e3 : l.take i ++ tins b a (l.drop i) = l.take (i + 1) ++ tins b a (l.drop (i + 1)) := by rw [dr, tins, if_neg h, tk, List.append_assoc]; rfl
   have key := ih (i + 1) (K ++ [.rw [.int .i64 q.1, .int .i64 q.2]])
   rw [e3, lo]
   unfold l15x0
   simp -implicitDefEqProofs (maxSteps := 5000000) only [go_sem, Nat.reduceShiftRight, Nat.reduceAnd, Nat.reduceBNe, Int.reduceEq, Nat.reduceAdd, Nat.reduceSub, Nat.reduceMul, Nat.reduceLeDiff, reduceIte, reduceCtorEq, Nat.reduceBEq, Nat.reduceEqDiff, wrap64, runC_loop, runC_range, callF_fn, callV_fn, callV_yld, yield_eq, yieldBody, yieldRaw, roundMid, roundEnd, rangeEnd, Bool.not_not, put_cons, put_nil, trim_same, at_zero, at_add, set_zero, set_add, store_one, write_zero, write_add, write_head, write_succ, splice_one, splice_more, List.drop_nil, List.take_nil, cell_int, cell_bool, fillS, splice_one, idxA, Ex.isNormal, List.set_nil, List.length_set, List.all_cons, List.all_nil, Bool.and_self, and_self, true_and, and_true, List.getElem?_nil, Int.reduceLT, Int.reduceLE, Int.reduceToNat, Int.toNat_zero, Int.toNat_one, Int.reduceAdd, Int.reduceSub, Int.reduceMul, Int.reduceNeg, Int.reduceBEq, Int.reduceBNe, Int.reduceGE, Int.reduceGT, Nat.reduceLT, trim_keep, under_fn, under_ptr, under_sl, Nat.lt_irrefl, not_lt_add, trim_tail, keepOk, ABlk.vals, Int.cast_ofNat_Int, decide_true, decide_false, List.all_cons, List.all_nil, Nat.zero_mul, Nat.mul_one, Nat.one_mul, hd, ix, hc, h1, h2, ht, hle, db, e2]
   exact key _ _ _ _ _ _ _ _ _ _ _ _ _ _ _ _ (g.adds _) (aK.trans ⟨_, rfl⟩) (cells_old cp) (by omega)
end
set_option maxHeartbeats 16000000 in
theorem putC {H : AHeap} {v : AV} {l : List PrS} (g : IsP H v l) (hl : l.length ≤ 1000000) (b a : Int) : ∃ v' K, callBody prog (envX prog X1) 15 [v, .int .i64 b, .int .i64 a] H = some (v', K) ∧ Adds H K ∧ Gp K H.length v' (tput l b a) := by
 have hr : (roomy : Nat) = 140737488355328 := rfl
 obtain ⟨H0, hH0⟩ : ∃ H0, H0 = H ++ [ABlk.rw [.int .i64 b, .int .i64 a]] := ⟨_, rfl⟩
 have a0 : Adds H H0 := ⟨_, hH0⟩
 have c0 : cellsOf H0 H.length = some (prC (b, a)) := by rw [hH0]; unfold cellsOf; simp; rfl
 have l0 : H0.length = H.length + 1 := by rw [hH0]; simp
 obtain ⟨v1, K, ec, aK, gK⟩ := cloneC (g.adds a0) hl
 have ei := indexC gK.isP hl b
 have cK := aK.cells c0
 unfold prC at cK
 have hH0 := hH0.symm
 have key : Outs (runC (envX prog X1) (b15 (envX prog X1)) ([v, .int .i64 b, .int .i64 a] ++ List.replicate (47 - [v, AV.int .i64 b, AV.int .i64 a].length) .undef) H) fun e' t K => ∃ v', Adds H K ∧ Gp K H.length v' (tput l b a) ∧ v'.under H.length = false ∧ fin [.tmp 6] (some (e', t, K)) = some (v', K) := by
  unfold b15
  generalize hQ : (fun (e' : Ex) (t : T) (K : AHeap) => ∃ v', Adds H K ∧ Gp K H.length v' (tput l b a) ∧ v'.under H.length = false ∧ fin [.tmp 6] (some (e', t, K)) = some (v', K)) = Q
  rcases idxS_rng l b with h | ⟨h1, h2⟩
  ·have et : tput l b a = tins b a l := by unfold tput; rw [if_neg (by omega)]
   have d : decide (idxS l b ≥ 0) = false := decide_eq_false (by omega)
   have lv := gK.isP.len
   have pl := putL (H0 := H0) (v := v1) hl b a (pb := H.length) (by omega) (k := l.length) (i := 0) (K := K)
   rw [show ((0 : Nat) : Int) = 0 from rfl, List.take_zero, List.drop_zero, List.nil_append] at pl
   simp -implicitDefEqProofs (maxSteps := 5000000) only [go_sem, Nat.reduceShiftRight, Nat.reduceAnd, Nat.reduceBNe, Int.reduceEq, Nat.reduceAdd, Nat.reduceSub, Nat.reduceMul, Nat.reduceLeDiff, reduceIte, reduceCtorEq, Nat.reduceBEq, Nat.reduceEqDiff, wrap64, runC_loop, runC_range, callF_fn, callV_fn, callV_yld, yield_eq, yieldBody, yieldRaw, roundMid, roundEnd, rangeEnd, Bool.not_not, put_cons, put_nil, trim_same, at_zero, at_add, set_zero, set_add, store_one, write_zero, write_add, write_head, write_succ, splice_one, splice_more, List.drop_nil, List.take_nil, cell_int, cell_bool, fillS, splice_one, idxA, Ex.isNormal, List.set_nil, List.length_set, List.all_cons, List.all_nil, Bool.and_self, and_self, true_and, and_true, List.getElem?_nil, Int.reduceLT, Int.reduceLE, Int.reduceToNat, Int.toNat_zero, Int.toNat_one, Int.reduceAdd, Int.reduceSub, Int.reduceMul, Int.reduceNeg, Int.reduceBEq, Int.reduceBNe, Int.reduceGE, Int.reduceGT, Nat.reduceLT, trim_keep, under_fn, under_ptr, under_sl, Nat.lt_irrefl, not_lt_add, trim_tail, keepOk, ABlk.vals, Int.cast_ofNat_Int, decide_true, decide_false, List.all_cons, List.all_nil, Nat.zero_mul, Nat.mul_one, Nat.one_mul, runC_loop, x_loop, x1_call, hH0, ec, ei, d, lv]
   unfold LX at pl
   generalize (envL prog).loop (runC (envX prog X1) (l15x0 (envX prog X1))) = L0 at pl ⊢
   refine outs_ctx (fun r => seqR (blockR 0 r) _) (pl _ _ _ _ _ _ _ _ _ _ _ _ _ _ _ _ _ _ _ _ _ _ _ _ _ _ _ _ _ _ _ _ _ _ _ _ _ _ _ _ gK aK (aK.cells c0) (by omega)) ?_
   rintro e t K2 ⟨a2, fv, rfl, ⟨rfl, g2, c2, e2⟩ | ⟨rfl, g2, u2⟩⟩
   ·have g2' := g2.adds [.rw [.int .i64 b, .int .i64 a]]
    have len2 := a2.len
    obtain ⟨v3, K3, ea, g3, f3, s3, _⟩ := gp_app (m := [(b, a)]) g2' (by simp; omega) (y := .sl K2.length 0 2 1 1 true) rfl (by unfold srcCells readN cellsOf; simp; rfl) (by simp; omega)
    have sv := s3 (by simp)
    have a3 : Adds H0 K3 := f3.old (a2.trans ⟨_, rfl⟩) fun x hx hs => by have := (g2.out x hs).1; omega
    have u3 : v3.under H.length = false := by
     rcases g3 with ⟨rfl, q⟩ | ⟨q, _⟩ | ⟨_, x, hx, rfl, _⟩
     ·simp at q
     ·simp at q
     ·simp [AV.under]; omega
    unfold prC at c2
    simp -implicitDefEqProofs (maxSteps := 5000000) only [go_sem, Nat.reduceShiftRight, Nat.reduceAnd, Nat.reduceBNe, Int.reduceEq, Nat.reduceAdd, Nat.reduceSub, Nat.reduceMul, Nat.reduceLeDiff, reduceIte, reduceCtorEq, Nat.reduceBEq, Nat.reduceEqDiff, wrap64, runC_loop, runC_range, callF_fn, callV_fn, callV_yld, yield_eq, yieldBody, yieldRaw, roundMid, roundEnd, rangeEnd, Bool.not_not, put_cons, put_nil, trim_same, at_zero, at_add, set_zero, set_add, store_one, write_zero, write_add, write_head, write_succ, splice_one, splice_more, List.drop_nil, List.take_nil, cell_int, cell_bool, fillS, splice_one, idxA, Ex.isNormal, List.set_nil, List.length_set, List.all_cons, List.all_nil, Bool.and_self, and_self, true_and, and_true, List.getElem?_nil, Int.reduceLT, Int.reduceLE, Int.reduceToNat, Int.toNat_zero, Int.toNat_one, Int.reduceAdd, Int.reduceSub, Int.reduceMul, Int.reduceNeg, Int.reduceBEq, Int.reduceBNe, Int.reduceGE, Int.reduceGT, Nat.reduceLT, trim_keep, under_fn, under_ptr, under_sl, Nat.lt_irrefl, not_lt_add, trim_tail, keepOk, ABlk.vals, Int.cast_ofNat_Int, decide_true, decide_false, List.all_cons, List.all_nil, Nat.zero_mul, Nat.mul_one, Nat.one_mul, c2, ea, outs_normal]
    subst hQ
    rw [et, e2]
    refine ⟨v3, a0.trans a3, g3.low (by omega), u3, ?_⟩
    simp -implicitDefEqProofs (maxSteps := 5000000) only [go_sem, Nat.reduceShiftRight, Nat.reduceAnd, Nat.reduceBNe, Int.reduceEq, Nat.reduceAdd, Nat.reduceSub, Nat.reduceMul, Nat.reduceLeDiff, reduceIte, reduceCtorEq, Nat.reduceBEq, Nat.reduceEqDiff]
   ·have u2' : (fv 6).under H.length = false := by
     rcases g2 with ⟨q, _⟩ | ⟨_, x, hx, q, _⟩ | ⟨_, x, hx, q, _⟩ <;> rw [q] at u2 ⊢
     ·cases u2
     ·simp [AV.under]; omega
     ·simp [AV.under]; omega
    simp -implicitDefEqProofs (maxSteps := 5000000) only [go_sem, Nat.reduceShiftRight, Nat.reduceAnd, Nat.reduceBNe, Int.reduceEq, Nat.reduceAdd, Nat.reduceSub, Nat.reduceMul, Nat.reduceLeDiff, reduceIte, reduceCtorEq, Nat.reduceBEq, Nat.reduceEqDiff, outs_normal]
    subst hQ
    rw [et]
    refine ⟨fv 6, a0.trans a2, g2.low (by omega), u2', ?_⟩
    simp -implicitDefEqProofs (maxSteps := 5000000) only [go_sem, Nat.reduceShiftRight, Nat.reduceAnd, Nat.reduceBNe, Int.reduceEq, Nat.reduceAdd, Nat.reduceSub, Nat.reduceMul, Nat.reduceLeDiff, reduceIte, reduceCtorEq, Nat.reduceBEq, Nat.reduceEqDiff]
  ·obtain ⟨i, hi⟩ : ∃ i : Nat, idxS l b = i := ⟨(idxS l b).toNat, by omega⟩
   have et : tput l b a = l.set i (b, a) := by unfold tput; rw [if_pos h1, hi, Int.toNat_natCast]
   rw [hi] at ei
   have d : decide ((i : Int) ≥ 0) = true := decide_eq_true (by omega)
   have il : i < l.length := by omega
   obtain ⟨b1, hb1, rfl, hk1⟩ : ∃ b1, H0.length ≤ b1 ∧ v1 = .sl b1 0 2 l.length l.length false ∧ K[b1]? = some (.rw (flat l)) := by
    rcases gK with ⟨_, rfl⟩ | ⟨rfl, _⟩ | ⟨_, b1, q1, q2, q3⟩
    ·simp at il
    ·simp at il
    ·exact ⟨b1, q1, q2, q3⟩
   have ix := idx_nat b1 2 l.length l.length i false .i64 (by omega) il
   have hs : splice (flat l) (i * 2) [.int .i64 b, .int .i64 a] = flat (l.set i (b, a)) := by
    rw [splice_long _ _ _ (by simp)]
    have e : l = l.take i ++ l[i] :: l.drop (i + 1) := by rw [← List.drop_eq_getElem_cons il, List.take_append_drop]
    have e2 : l.set i (b, a) = l.take i ++ (b, a) :: l.drop (i + 1) := List.set_eq_take_append_cons_drop.trans (if_pos il)
    have lt : (flat (l.take i)).length = i * 2 := by rw [flat_len, List.length_take]; congr 1; omega
    have t1 : (flat l).take (i * 2) = flat (l.take i) := by
     conv => lhs; rw [e]
     rw [flat_app, ← lt, List.take_left]
    have t2 : (flat l).drop (i * 2 + 2) = flat (l.drop (i + 1)) := by
     conv => lhs; rw [e]
     rw [flat_app, ← lt, ← List.drop_drop, List.drop_left]; rfl
    rw [t1, show ([AV.int .i64 b, AV.int .i64 a] : List AV).length = 2 from rfl, t2, e2, flat_app]
    simp [flat, prC]
   have wr : writeN K b1 (i * 2) [.int .i64 b, .int .i64 a] = some (K.set b1 (.rw (flat (l.set i (b, a))))) := by
    rw [write_of hk1, if_pos ⟨by rw [flat_len]; simp; omega, rfl⟩, hs]
   have a1 : Adds H0 (K.set b1 (.rw (flat (l.set i (b, a))))) := (Fr.set (F := (· = b1)) K _ rfl).old aK fun x hx e => by omega
   have g1 : Gp (K.set b1 (.rw (flat (l.set i (b, a))))) H.length (.sl b1 0 2 l.length l.length false) (l.set i (b, a)) := .inr (.inr ⟨by
    intro q
    have := congrArg List.length q
    rw [List.length_set, List.length_nil] at this; omega, b1, by omega, by rw [List.length_set], at_set _ _ _ (lt_of_at hk1)⟩)
   have u1 : (AV.sl b1 0 2 l.length l.length false).under H.length = false := by simp [AV.under]; omega
   simp -implicitDefEqProofs (maxSteps := 5000000) only [go_sem, Nat.reduceShiftRight, Nat.reduceAnd, Nat.reduceBNe, Int.reduceEq, Nat.reduceAdd, Nat.reduceSub, Nat.reduceMul, Nat.reduceLeDiff, reduceIte, reduceCtorEq, Nat.reduceBEq, Nat.reduceEqDiff, wrap64, runC_loop, runC_range, callF_fn, callV_fn, callV_yld, yield_eq, yieldBody, yieldRaw, roundMid, roundEnd, rangeEnd, Bool.not_not, put_cons, put_nil, trim_same, at_zero, at_add, set_zero, set_add, store_one, write_zero, write_add, write_head, write_succ, splice_one, splice_more, List.drop_nil, List.take_nil, cell_int, cell_bool, fillS, splice_one, idxA, Ex.isNormal, List.set_nil, List.length_set, List.all_cons, List.all_nil, Bool.and_self, and_self, true_and, and_true, List.getElem?_nil, Int.reduceLT, Int.reduceLE, Int.reduceToNat, Int.toNat_zero, Int.toNat_one, Int.reduceAdd, Int.reduceSub, Int.reduceMul, Int.reduceNeg, Int.reduceBEq, Int.reduceBNe, Int.reduceGE, Int.reduceGT, Nat.reduceLT, trim_keep, under_fn, under_ptr, under_sl, Nat.lt_irrefl, not_lt_add, trim_tail, keepOk, ABlk.vals, Int.cast_ofNat_Int, decide_true, decide_false, List.all_cons, List.all_nil, Nat.zero_mul, Nat.mul_one, Nat.one_mul, runC_loop, x_loop, x1_call, hH0, ec, ei, hi, d, cK, ix, wr, outs_normal]
   subst hQ
   rw [et]
   refine ⟨_, a0.trans a1, g1, u1, ?_⟩
   simp -implicitDefEqProofs (maxSteps := 5000000) only [go_sem, Nat.reduceShiftRight, Nat.reduceAnd, Nat.reduceBNe, Int.reduceEq, Nat.reduceAdd, Nat.reduceSub, Nat.reduceMul, Nat.reduceLeDiff, reduceIte, reduceCtorEq, Nat.reduceBEq, Nat.reduceEqDiff]
 obtain ⟨e', t, K, hr, v', aK, gK, u, hf⟩ := key
 exact ⟨v', K, by rw [d15, hr, hf]; exact trim_keep u, aK, gK⟩
end Go.Proofs.Ytekceggcbpeoeaa.G10
end
