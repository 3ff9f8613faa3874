/- What the functions that RigApart reaches answer, for every argument. No condition but those in each statement. -/
import Derived.Test.YthjkfincekckhaaQ3
set_option linter.unusedSimpArgs false
set_option linter.unusedVariables false
set_option maxRecDepth 10000
namespace Go.Proofs.Ythjkfincekckhaa.G04
open Go Go.Proofs.Ythjkfincekckhaa.Eng
def byteCells (l : List Int) : List AV := l.map (AV.int .u8)
set_option maxHeartbeats 8000000 in
theorem rigApart (vl : AV) (h : AHeap) (d : DatC h (.sl stepSh) vl) : ∃ h', callBody prog EO 6 [vl] h = some (.bool true, h') := by
  obtain ⟨rows, rs, rd, hn⟩ := d.rows
  have rs : RS 6 h vl rows := rs
  rw [d6]
  unfold b6 EO
  refine of_outs ?_
  generalize hQ : (fun (e : Ex) (t : T) (h1 : AHeap) => fin [.tmp 2] (some (e, t, h1)) = some (AV.bool true, h1)) = Q
  obtain ⟨H1, F, l, en⟩ := rinNew (n0 := 5) (n1 := 5) (by omega) (by omega) (by omega) (by omega) h
  rw [show ((5 : Nat) : Int) = 5 from rfl] at en
  obtain ⟨x, ef, hx⟩ := fairC (rs.adds l.old) (fun r hr => (rd r hr).adds l.old) hn
  have z0 : ((0 : Int) != 0) = false := rfl
  have z1 : ((0 : Int) == 0) = true := rfl
  cases x with
  | false =>
    simp -implicitDefEqProofs (maxSteps := 5000000) only [go_sem, Nat.reduceShiftRight, Nat.reduceAnd, Nat.reduceBNe, Int.reduceEq, Nat.reduceAdd, Nat.reduceSub, Nat.reduceMul, Nat.reduceLeDiff, reduceIte, reduceCtorEq, Nat.reduceBEq, Nat.reduceEqDiff, wrap64, runC_loop, runC_range, callF_fn, callV_fn, callV_yld, yield_eq, yieldBody, yieldRaw, roundMid, roundEnd, rangeEnd, Bool.not_not, put_cons, put_nil, trim_same, at_zero, at_add, set_zero, set_add, store_one, write_zero, write_add, write_head, write_succ, splice_one, splice_more, List.drop_nil, List.take_nil, cell_int, cell_bool, fillS, splice_one, idxA, Ex.isNormal, List.set_nil, List.length_set, List.all_cons, List.all_nil, Bool.and_self, and_self, true_and, and_true, List.getElem?_nil, Int.reduceLT, Int.reduceLE, Int.reduceToNat, Int.toNat_zero, Int.toNat_one, Int.reduceAdd, Int.reduceSub, Int.reduceMul, Int.reduceNeg, Int.reduceBEq, Int.reduceBNe, Int.reduceGE, Int.reduceGT, Nat.reduceLT, trim_keep, under_fn, under_ptr, under_sl, Nat.lt_irrefl, not_lt_add, trim_tail, keepOk, ABlk.vals, Int.cast_ofNat_Int, decide_true, decide_false, List.all_cons, List.all_nil, Nat.zero_mul, Nat.mul_one, Nat.one_mul, o_wakes, o_call, en, ef, z0, z1, outs_normal]
    subst hQ
    simp -implicitDefEqProofs (maxSteps := 5000000) only [go_sem, Nat.reduceShiftRight, Nat.reduceAnd, Nat.reduceBNe, Int.reduceEq, Nat.reduceAdd, Nat.reduceSub, Nat.reduceMul, Nat.reduceLeDiff, reduceIte, reduceCtorEq, Nat.reduceBEq, Nat.reduceEqDiff]
  | true =>
    have I0 : ApI (newRg 5 5) (apB 0) := ⟨rfl, rfl, rfl, rfl⟩
    have d0 := apartL0 (h0 := h) (p := h.length) (k := 5) (i := 0) (H := H1) (r := newRg 5 5) (F := F)
    rw [show ((0 : Nat) : Int) = 0 from rfl] at d0
    have d1 := apartL1 rs rd (hx rfl) (p := h.length) (k := rows.length) (i := 0)
    rw [show ((0 : Nat) : Int) = 0 from rfl] at d1
    have d2 := fun (c : Nat) (r : RgS) (F : Nat → Prop) (I : ApI r (apB 5)) => apartL2 (h0 := h) (p := h.length) (c := c) (F := F) I (k := 5) (i := 0)
    rw [show ((0 : Nat) : Int) = 0 from rfl] at d2
    have d3 := fun (c : Nat) (r : RgS) (F : Nat → Prop) (I : ∀ i : Nat, i < 5 → r.read 1 (i : Int) = (apW i, 0)) => apartL3 (h0 := h) (p := h.length) (c := c) (F := F) I (k := 5) (i := 0)
    rw [show ((0 : Nat) : Int) = 0 from rfl] at d3
    simp -implicitDefEqProofs (maxSteps := 5000000) only [go_sem, Nat.reduceShiftRight, Nat.reduceAnd, Nat.reduceBNe, Int.reduceEq, Nat.reduceAdd, Nat.reduceSub, Nat.reduceMul, Nat.reduceLeDiff, reduceIte, reduceCtorEq, Nat.reduceBEq, Nat.reduceEqDiff, wrap64, runC_loop, runC_range, callF_fn, callV_fn, callV_yld, yield_eq, yieldBody, yieldRaw, roundMid, roundEnd, rangeEnd, Bool.not_not, put_cons, put_nil, trim_same, at_zero, at_add, set_zero, set_add, store_one, write_zero, write_add, write_head, write_succ, splice_one, splice_more, List.drop_nil, List.take_nil, cell_int, cell_bool, fillS, splice_one, idxA, Ex.isNormal, List.set_nil, List.length_set, List.all_cons, List.all_nil, Bool.and_self, and_self, true_and, and_true, List.getElem?_nil, Int.reduceLT, Int.reduceLE, Int.reduceToNat, Int.toNat_zero, Int.toNat_one, Int.reduceAdd, Int.reduceSub, Int.reduceMul, Int.reduceNeg, Int.reduceBEq, Int.reduceBNe, Int.reduceGE, Int.reduceGT, Nat.reduceLT, trim_keep, under_fn, under_ptr, under_sl, Nat.lt_irrefl, not_lt_add, trim_tail, keepOk, ABlk.vals, Int.cast_ofNat_Int, decide_true, decide_false, List.all_cons, List.all_nil, Nat.zero_mul, Nat.mul_one, Nat.one_mul, runC_loop, o_wakes, o_call, en, ef, z0, z1]
    unfold LP at d0 d1 d2 d3
    generalize (envL prog).loop (runC (envO prog (knows 9)) (l6x0 (envO prog (knows 9)))) = L at d0 ⊢
    refine outs_ctx (fun r => seqR (blockR 0 r) _) (d0 _ _ _ _ _ _ _ _ _ _ _ _ _ _ _ _ _ _ _ _ _ _ _ _ _ _ _ _ _ _ _ _ _ _ _ _ _ _ _ _ _ _ _ _ _ _ _ _ _ _ _ _ _ _ _ _ _ _ _ _ _ _ _ _ _ _ _ _ _ _ _ _ _ _ _ _ _ _ _ _ _ _ _ _ _ _ _ _ _ _ _ _ _ _ _ _ _ _ _ _ _ _ _ _ _ _ _ _ _ _ _ _ _ _ _ _ _ _ _ _ _ _ _ _ _ _ _ _ _ _ _ l I0 (by omega)) ?_
    rintro e t H2 ⟨rfl, ⟨r2, F2, l2, I2⟩, k, rfl⟩
    simp -implicitDefEqProofs (maxSteps := 5000000) only [go_sem, Nat.reduceShiftRight, Nat.reduceAnd, Nat.reduceBNe, Int.reduceEq, Nat.reduceAdd, Nat.reduceSub, Nat.reduceMul, Nat.reduceLeDiff, reduceIte, reduceCtorEq, Nat.reduceBEq, Nat.reduceEqDiff, wrap64, runC_loop, runC_range, callF_fn, callV_fn, callV_yld, yield_eq, yieldBody, yieldRaw, roundMid, roundEnd, rangeEnd, Bool.not_not, put_cons, put_nil, trim_same, at_zero, at_add, set_zero, set_add, store_one, write_zero, write_add, write_head, write_succ, splice_one, splice_more, List.drop_nil, List.take_nil, cell_int, cell_bool, fillS, splice_one, idxA, Ex.isNormal, List.set_nil, List.length_set, List.all_cons, List.all_nil, Bool.and_self, and_self, true_and, and_true, List.getElem?_nil, Int.reduceLT, Int.reduceLE, Int.reduceToNat, Int.toNat_zero, Int.toNat_one, Int.reduceAdd, Int.reduceSub, Int.reduceMul, Int.reduceNeg, Int.reduceBEq, Int.reduceBNe, Int.reduceGE, Int.reduceGT, Nat.reduceLT, trim_keep, under_fn, under_ptr, under_sl, Nat.lt_irrefl, not_lt_add, trim_tail, keepOk, ABlk.vals, Int.cast_ofNat_Int, decide_true, decide_false, List.all_cons, List.all_nil, Nat.zero_mul, Nat.mul_one, Nat.one_mul, runC_loop, o_wakes, o_call]
    generalize (envL prog).loop (runC (envO prog (knows 9)) (l6x1 (envO prog (knows 9)))) = L at d1 ⊢
    refine outs_ctx (fun r => seqR (blockR 2 r) _) (d1 _ _ _ _ _ _ _ _ _ _ _ _ _ _ _ _ _ _ _ _ _ _ _ _ _ _ _ _ _ _ _ _ _ _ _ _ _ _ _ _ _ _ _ _ _ _ _ _ _ _ _ _ _ _ _ _ _ _ _ _ _ _ _ _ _ _ _ _ _ _ _ _ _ _ _ _ _ _ _ _ _ _ _ _ _ _ _ _ _ _ _ _ _ _ _ _ _ _ _ H2 r2 F2 _ _ _ _ _ _ _ _ _ _ _ _ _ _ _ _ _ _ _ _ _ _ _ _ _ _ _ _ _ _ _ l2 I2 (by omega)) ?_
    rintro e t H3 ⟨rfl, ⟨c3, r3, F3, l3, I3⟩, k, rfl⟩
    simp -implicitDefEqProofs (maxSteps := 5000000) only [go_sem, Nat.reduceShiftRight, Nat.reduceAnd, Nat.reduceBNe, Int.reduceEq, Nat.reduceAdd, Nat.reduceSub, Nat.reduceMul, Nat.reduceLeDiff, reduceIte, reduceCtorEq, Nat.reduceBEq, Nat.reduceEqDiff, wrap64, runC_loop, runC_range, callF_fn, callV_fn, callV_yld, yield_eq, yieldBody, yieldRaw, roundMid, roundEnd, rangeEnd, Bool.not_not, put_cons, put_nil, trim_same, at_zero, at_add, set_zero, set_add, store_one, write_zero, write_add, write_head, write_succ, splice_one, splice_more, List.drop_nil, List.take_nil, cell_int, cell_bool, fillS, splice_one, idxA, Ex.isNormal, List.set_nil, List.length_set, List.all_cons, List.all_nil, Bool.and_self, and_self, true_and, and_true, List.getElem?_nil, Int.reduceLT, Int.reduceLE, Int.reduceToNat, Int.toNat_zero, Int.toNat_one, Int.reduceAdd, Int.reduceSub, Int.reduceMul, Int.reduceNeg, Int.reduceBEq, Int.reduceBNe, Int.reduceGE, Int.reduceGT, Nat.reduceLT, trim_keep, under_fn, under_ptr, under_sl, Nat.lt_irrefl, not_lt_add, trim_tail, keepOk, ABlk.vals, Int.cast_ofNat_Int, decide_true, decide_false, List.all_cons, List.all_nil, Nat.zero_mul, Nat.mul_one, Nat.one_mul, runC_loop, o_wakes, o_call]
    have d2 := d2 c3 r3 F3 I3
    generalize (envL prog).loop (runC (envO prog (knows 9)) (l6x2 (envO prog (knows 9)))) = L at d2 ⊢
    refine outs_ctx (fun r => seqR (blockR 4 r) _) (d2 _ _ _ _ _ _ _ _ _ _ _ _ _ _ _ _ _ _ _ _ _ _ _ _ _ _ _ _ _ _ _ _ _ _ _ _ _ _ _ _ _ _ _ _ _ _ _ _ _ _ _ _ _ _ _ _ _ _ _ _ _ _ _ _ _ _ _ _ _ _ _ _ _ _ _ _ _ _ _ _ _ _ _ _ _ _ _ _ _ _ _ _ _ _ _ _ _ _ _ _ _ _ _ _ _ _ _ _ _ H3 _ _ _ _ _ _ _ _ _ _ _ _ _ _ _ _ _ _ _ _ _ _ l3 (by omega)) ?_
    rintro e t H4 ⟨rfl, l4, k, rfl⟩
    have lB := l4.adds [.rw (u8s [255, 255, 255, 255, 255]), .rw (u8s [1, 0, 1])]
    have nF : ∀ b, b = H4.length ∨ b = H4.length + 1 → ¬ F3 b := fun b hb hf => by have := l4.m.lt b hf; omega
    have u0 : IsU8 [255, 255, 255, 255, 255] := fun z hz => by
      simp only [List.mem_cons, List.not_mem_nil, or_false] at hz
      omega
    have u1 : IsU8 [1, 0, 1] := fun z hz => by
      simp only [List.mem_cons, List.not_mem_nil, or_false] at hz
      omega
    have b0 : BS (H4 ++ [.rw (u8s [255, 255, 255, 255, 255]), .rw (u8s [1, 0, 1])]) (.sl H4.length 0 1 5 5 true) [255, 255, 255, 255, 255] := BS.block (zs := [255, 255, 255, 255, 255]) (by rw [List.getElem?_append_right (Nat.le_refl _), Nat.sub_self]; rfl)
    have b1 : BS (H4 ++ [.rw (u8s [255, 255, 255, 255, 255]), .rw (u8s [1, 0, 1])]) (.sl (H4.length + 1) 0 1 3 3 true) [1, 0, 1] := BS.block (zs := [1, 0, 1]) (by rw [List.getElem?_append_right (Nat.le_add_right _ _), Nat.add_sub_cancel_left]; rfl)
    obtain ⟨H5, m5, s5, _, ec⟩ := rinCrash (v0 := .sl H4.length 0 1 5 5 true) (v1 := .sl (H4.length + 1) 0 1 3 3 true) (z0 := [255, 255, 255, 255, 255]) (z1 := [1, 0, 1]) lB.m b0 b1 u0 u1
      (fun b o s n l e h => by injection h; omega) (fun b o s n l e h => by injection h; omega) (fun b hb => by injection hb with hb; subst hb; exact ⟨by simp, nF _ (.inl rfl)⟩) (fun b hb => by injection hb with hb; subst hb; exact ⟨by simp, nF _ (.inr rfl)⟩)
    have l5 := lB.step m5 s5
    have eu1 : u8s [255, 255, 255, 255, 255] = [.int .u8 255, .int .u8 255, .int .u8 255, .int .u8 255, .int .u8 255] := rfl
    have eu2 : u8s [1, 0, 1] = [.int .u8 1, .int .u8 0, .int .u8 1] := rfl
    rw [eu1, eu2] at ec
    simp -implicitDefEqProofs (maxSteps := 5000000) only [go_sem, Nat.reduceShiftRight, Nat.reduceAnd, Nat.reduceBNe, Int.reduceEq, Nat.reduceAdd, Nat.reduceSub, Nat.reduceMul, Nat.reduceLeDiff, reduceIte, reduceCtorEq, Nat.reduceBEq, Nat.reduceEqDiff, wrap64, runC_loop, runC_range, callF_fn, callV_fn, callV_yld, yield_eq, yieldBody, yieldRaw, roundMid, roundEnd, rangeEnd, Bool.not_not, put_cons, put_nil, trim_same, at_zero, at_add, set_zero, set_add, store_one, write_zero, write_add, write_head, write_succ, splice_one, splice_more, List.drop_nil, List.take_nil, cell_int, cell_bool, fillS, splice_one, idxA, Ex.isNormal, List.set_nil, List.length_set, List.all_cons, List.all_nil, Bool.and_self, and_self, true_and, and_true, List.getElem?_nil, Int.reduceLT, Int.reduceLE, Int.reduceToNat, Int.toNat_zero, Int.toNat_one, Int.reduceAdd, Int.reduceSub, Int.reduceMul, Int.reduceNeg, Int.reduceBEq, Int.reduceBNe, Int.reduceGE, Int.reduceGT, Nat.reduceLT, trim_keep, under_fn, under_ptr, under_sl, Nat.lt_irrefl, not_lt_add, trim_tail, keepOk, ABlk.vals, Int.cast_ofNat_Int, decide_true, decide_false, List.all_cons, List.all_nil, Nat.zero_mul, Nat.mul_one, Nat.one_mul, runC_loop, o_wakes, o_call, ec]
    have d3 := d3 c3 _ F3 (fun i hi => I3.crash hi)
    generalize (envL prog).loop (runC (envO prog (knows 9)) (l6x3 (envO prog (knows 9)))) = L at d3 ⊢
    refine outs_ctx (fun r => seqR (blockR 6 r) _) (d3 _ _ _ _ _ _ _ _ _ _ _ _ _ _ _ _ _ _ _ _ _ _ _ _ _ _ _ _ _ _ _ _ _ _ _ _ _ _ _ _ _ _ _ _ _ _ _ _ _ _ _ _ _ _ _ _ _ _ _ _ _ _ _ _ _ _ _ _ _ _ _ _ _ _ _ _ _ _ _ _ _ _ _ _ _ _ _ _ _ _ _ _ _ _ _ _ _ _ _ _ H5 _ _ _ _ _ _ _ _ _ _ _ _ _ _ _ _ _ _ _ _ _ _ _ _ _ _ _ _ _ _ _ l5 (by omega)) ?_
    rintro e t H6 ⟨rfl, k, rfl⟩
    simp -implicitDefEqProofs (maxSteps := 5000000) only [go_sem, Nat.reduceShiftRight, Nat.reduceAnd, Nat.reduceBNe, Int.reduceEq, Nat.reduceAdd, Nat.reduceSub, Nat.reduceMul, Nat.reduceLeDiff, reduceIte, reduceCtorEq, Nat.reduceBEq, Nat.reduceEqDiff, wrap64, runC_loop, runC_range, callF_fn, callV_fn, callV_yld, yield_eq, yieldBody, yieldRaw, roundMid, roundEnd, rangeEnd, Bool.not_not, put_cons, put_nil, trim_same, at_zero, at_add, set_zero, set_add, store_one, write_zero, write_add, write_head, write_succ, splice_one, splice_more, List.drop_nil, List.take_nil, cell_int, cell_bool, fillS, splice_one, idxA, Ex.isNormal, List.set_nil, List.length_set, List.all_cons, List.all_nil, Bool.and_self, and_self, true_and, and_true, List.getElem?_nil, Int.reduceLT, Int.reduceLE, Int.reduceToNat, Int.toNat_zero, Int.toNat_one, Int.reduceAdd, Int.reduceSub, Int.reduceMul, Int.reduceNeg, Int.reduceBEq, Int.reduceBNe, Int.reduceGE, Int.reduceGT, Nat.reduceLT, trim_keep, under_fn, under_ptr, under_sl, Nat.lt_irrefl, not_lt_add, trim_tail, keepOk, ABlk.vals, Int.cast_ofNat_Int, decide_true, decide_false, List.all_cons, List.all_nil, Nat.zero_mul, Nat.mul_one, Nat.one_mul, o_wakes, o_call, outs_normal]
    subst hQ
    simp -implicitDefEqProofs (maxSteps := 5000000) only [go_sem, Nat.reduceShiftRight, Nat.reduceAnd, Nat.reduceBNe, Int.reduceEq, Nat.reduceAdd, Nat.reduceSub, Nat.reduceMul, Nat.reduceLeDiff, reduceIte, reduceCtorEq, Nat.reduceBEq, Nat.reduceEqDiff]
end Go.Proofs.Ythjkfincekckhaa.G04

