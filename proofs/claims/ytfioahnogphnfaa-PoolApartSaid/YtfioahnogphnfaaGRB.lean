/- What the functions that PoolApart reaches answer, for every argument. No condition but those in each statement. -/
import Derived.Test.YtfioahnogphnfaaGRA
set_option linter.unusedSimpArgs false
set_option linter.unusedVariables false
set_option linter.unusedSectionVars false
set_option maxRecDepth 10000
section
namespace Go.Proofs.Ytfioahnogphnfaa.G12
open Go Go.Proofs.Ytfioahnogphnfaa.Eng
section
variable {H : AHeap} {vd vs vp : AV} {nx kd pd : Int} {L : List SnS} {P : List PrS} {nd : Nat} (gs : IsC H vs L) (gp : IsP H vp P) (wd : lenSl vd = some (.int .i64 (nd : Int))) (cd : vd.isCell = true) (fb : L.length ≤ 9223372036854775807 ∧ ∀ s ∈ L, s.ch.length ≤ 9223372036854775807 ∧ s.tb.length ≤ 9223372036854775807)
include gs gp wd cd fb
set_option maxHeartbeats 4000000 in
theorem fairL12 {q : Nat} (hq : cellsOf H q = some [vd, vs, .int .i64 nx, .int .i64 kd, .int .i64 pd, vp]) (x0 x29 x30 x31 x32 x33 x34 x35 x36 x37 x38 x39 x40 x41 x42 x43 x44 x45 : AV) : ∀ (k i : Nat) (j4 j5 j6 j7 j8 j9 j10 j11 j12 j13 j14 j15 j16 j17 j18 j19 j20 j21 j22 j23 j24 j25 j26 j27 j28 : AV), i + k = L.length →
  Outs (LP1 l6x0 [x0, .ptr q 0, .bool false, .int .i64 (i : Int), j4, j5, j6, j7, j8, j9, j10, j11, j12, j13, j14, j15, j16, j17, j18, j19, j20, j21, j22, j23, j24, j25, j26, j27, j28, x29, x30, x31, x32, x33, x34, x35, x36, x37, x38, x39, x40, x41, x42, x43, x44, x45] H) fun e t K => K = H ∧ ∃ fv : Nat → AV, t = [x0, .ptr q 0, (fv 2), (fv 3), (fv 4), (fv 5), (fv 6), (fv 7), (fv 8), (fv 9), (fv 10), (fv 11), (fv 12), (fv 13), (fv 14), (fv 15), (fv 16), (fv 17), (fv 18), (fv 19), (fv 20), (fv 21), (fv 22), (fv 23), (fv 24), (fv 25), (fv 26), (fv 27), (fv 28), x29, x30, x31, x32, x33, x34, x35, x36, x37, x38, x39, x40, x41, x42, x43, x44, x45] ∧ ((e = .exit 0 ∧ (L.drop i).all (fun s => decide (s.ch.length ≤ 40) && decide (s.tb.length ≤ 80)) = true) ∨ (e = .ret ∧ fv 2 = .bool false ∧ (L.drop i).all (fun s => decide (s.ch.length ≤ 40) && decide (s.tb.length ≤ 80)) = false)) := by
 intro k
 obtain ⟨L0, hL0⟩ : ∃ L, L = LP1 l6x0 := ⟨_, rfl⟩
 have lo := loop_open hL0
 have fl := fb.1
 have wl := gs.len
 rw [← hL0]
 induction k with
 | zero =>
  intro i j4 j5 j6 j7 j8 j9 j10 j11 j12 j13 j14 j15 j16 j17 j18 j19 j20 j21 j22 j23 j24 j25 j26 j27 j28 hi
  obtain rfl : i = L.length := by omega
  have hd : decide ((L.length : Int) < (L.length : Int)) = false := by simp
  rw [List.drop_length, lo]
  unfold l6x0
  simp -implicitDefEqProofs (maxSteps := 5000000) only [go_sem, Nat.reduceShiftRight, Nat.reduceAnd, Nat.reduceBNe, Int.reduceEq, Nat.reduceAdd, Nat.reduceSub, Nat.reduceMul, Nat.reduceLeDiff, reduceIte, reduceCtorEq, Nat.reduceBEq, Nat.reduceEqDiff, wrap64, runC_loop, runC_range, callF_fn, callV_fn, callV_yld, yield_eq, yieldBody, yieldRaw, roundMid, roundEnd, rangeEnd, Bool.not_not, put_cons, put_nil, trim_same, at_zero, at_add, set_zero, set_add, store_one, write_zero, write_add, write_head, write_succ, splice_one, splice_more, List.drop_nil, List.take_nil, cell_int, cell_bool, fillS, splice_one, idxA, Ex.isNormal, List.set_nil, List.length_set, List.all_cons, List.all_nil, Bool.and_self, and_self, true_and, and_true, List.getElem?_nil, Int.reduceLT, Int.reduceLE, Int.reduceToNat, Int.toNat_zero, Int.toNat_one, Int.reduceAdd, Int.reduceSub, Int.reduceMul, Int.reduceNeg, Int.reduceBEq, Int.reduceBNe, Int.reduceGE, Int.reduceGT, Nat.reduceLT, trim_keep, under_fn, under_ptr, under_sl, Nat.lt_irrefl, not_lt_add, trim_tail, keepOk, ABlk.vals, Int.cast_ofNat_Int, decide_true, decide_false, List.all_cons, List.all_nil, Nat.zero_mul, Nat.mul_one, Nat.one_mul, hq, wl, hd, seqR_exit', outs_normal]
  exact exF2 rfl (.inl (by first | rfl | trivial))
 | succ k ih =>
  intro i j4 j5 j6 j7 j8 j9 j10 j11 j12 j13 j14 j15 j16 j17 j18 j19 j20 j21 j22 j23 j24 j25 j26 j27 j28 hi
  have hlt : i < L.length := by omega
  have hd : decide ((i : Int) < (L.length : Int)) = true := decide_eq_true (by omega)
  have e2 : IntKind.i64.wrap ((i : Int) + 1) = ((i + 1 : Nat) : Int) := by rw [wrap64 (by omega) (by omega)]; omega
  have hx := List.getElem?_eq_getElem hlt
  have hm := fb.2 _ (List.getElem_mem hlt)
  rw [List.drop_eq_getElem_cons hlt, List.all_cons]
  generalize L[i] = s at *
  obtain ⟨bb, cs, vc, vt, sb, ix, hc, h1, h2, h3, ht, hle, hbs, hip⟩ := gs.idx hx
  have w1 := hbs.len
  have w2 := hip.len
  rw [lo]
  unfold l6x0
  by_cases h : (s.ch.length : Int) > 40
  ·have d1 := decide_eq_true h
   rw [decide_eq_false (show ¬ s.ch.length ≤ 40 by omega)]
   simp -implicitDefEqProofs (maxSteps := 5000000) only [go_sem, Nat.reduceShiftRight, Nat.reduceAnd, Nat.reduceBNe, Int.reduceEq, Nat.reduceAdd, Nat.reduceSub, Nat.reduceMul, Nat.reduceLeDiff, reduceIte, reduceCtorEq, Nat.reduceBEq, Nat.reduceEqDiff, wrap64, runC_loop, runC_range, callF_fn, callV_fn, callV_yld, yield_eq, yieldBody, yieldRaw, roundMid, roundEnd, rangeEnd, Bool.not_not, put_cons, put_nil, trim_same, at_zero, at_add, set_zero, set_add, store_one, write_zero, write_add, write_head, write_succ, splice_one, splice_more, List.drop_nil, List.take_nil, cell_int, cell_bool, fillS, splice_one, idxA, Ex.isNormal, List.set_nil, List.length_set, List.all_cons, List.all_nil, Bool.and_self, and_self, true_and, and_true, List.getElem?_nil, Int.reduceLT, Int.reduceLE, Int.reduceToNat, Int.toNat_zero, Int.toNat_one, Int.reduceAdd, Int.reduceSub, Int.reduceMul, Int.reduceNeg, Int.reduceBEq, Int.reduceBNe, Int.reduceGE, Int.reduceGT, Nat.reduceLT, trim_keep, under_fn, under_ptr, under_sl, Nat.lt_irrefl, not_lt_add, trim_tail, keepOk, ABlk.vals, Int.cast_ofNat_Int, decide_true, decide_false, List.all_cons, List.all_nil, Nat.zero_mul, Nat.mul_one, Nat.one_mul, hq, wl, hd, ix, hc, h2, h3, w1, w2, d1, seqR_ret, outs_normal]
   exact exF2 rfl (.inr rfl)
  ·have d1 := decide_eq_false h
   rw [decide_eq_true (show s.ch.length ≤ 40 by omega)]
   by_cases h' : (s.tb.length : Int) > 80
   ·have d2 := decide_eq_true h'
    rw [decide_eq_false (show ¬ s.tb.length ≤ 80 by omega)]
    simp -implicitDefEqProofs (maxSteps := 5000000) only [go_sem, Nat.reduceShiftRight, Nat.reduceAnd, Nat.reduceBNe, Int.reduceEq, Nat.reduceAdd, Nat.reduceSub, Nat.reduceMul, Nat.reduceLeDiff, reduceIte, reduceCtorEq, Nat.reduceBEq, Nat.reduceEqDiff, wrap64, runC_loop, runC_range, callF_fn, callV_fn, callV_yld, yield_eq, yieldBody, yieldRaw, roundMid, roundEnd, rangeEnd, Bool.not_not, put_cons, put_nil, trim_same, at_zero, at_add, set_zero, set_add, store_one, write_zero, write_add, write_head, write_succ, splice_one, splice_more, List.drop_nil, List.take_nil, cell_int, cell_bool, fillS, splice_one, idxA, Ex.isNormal, List.set_nil, List.length_set, List.all_cons, List.all_nil, Bool.and_self, and_self, true_and, and_true, List.getElem?_nil, Int.reduceLT, Int.reduceLE, Int.reduceToNat, Int.toNat_zero, Int.toNat_one, Int.reduceAdd, Int.reduceSub, Int.reduceMul, Int.reduceNeg, Int.reduceBEq, Int.reduceBNe, Int.reduceGE, Int.reduceGT, Nat.reduceLT, trim_keep, under_fn, under_ptr, under_sl, Nat.lt_irrefl, not_lt_add, trim_tail, keepOk, ABlk.vals, Int.cast_ofNat_Int, decide_true, decide_false, List.all_cons, List.all_nil, Nat.zero_mul, Nat.mul_one, Nat.one_mul, hq, wl, hd, ix, hc, h2, h3, w1, w2, d1, d2, seqR_ret, outs_normal]
    exact exF2 rfl (.inr rfl)
   ·have d2 := decide_eq_false h'
    rw [decide_eq_true (show s.tb.length ≤ 80 by omega)]
    simp -implicitDefEqProofs (maxSteps := 5000000) only [go_sem, Nat.reduceShiftRight, Nat.reduceAnd, Nat.reduceBNe, Int.reduceEq, Nat.reduceAdd, Nat.reduceSub, Nat.reduceMul, Nat.reduceLeDiff, reduceIte, reduceCtorEq, Nat.reduceBEq, Nat.reduceEqDiff, wrap64, runC_loop, runC_range, callF_fn, callV_fn, callV_yld, yield_eq, yieldBody, yieldRaw, roundMid, roundEnd, rangeEnd, Bool.not_not, put_cons, put_nil, trim_same, at_zero, at_add, set_zero, set_add, store_one, write_zero, write_add, write_head, write_succ, splice_one, splice_more, List.drop_nil, List.take_nil, cell_int, cell_bool, fillS, splice_one, idxA, Ex.isNormal, List.set_nil, List.length_set, List.all_cons, List.all_nil, Bool.and_self, and_self, true_and, and_true, List.getElem?_nil, Int.reduceLT, Int.reduceLE, Int.reduceToNat, Int.toNat_zero, Int.toNat_one, Int.reduceAdd, Int.reduceSub, Int.reduceMul, Int.reduceNeg, Int.reduceBEq, Int.reduceBNe, Int.reduceGE, Int.reduceGT, Nat.reduceLT, trim_keep, under_fn, under_ptr, under_sl, Nat.lt_irrefl, not_lt_add, trim_tail, keepOk, ABlk.vals, Int.cast_ofNat_Int, decide_true, decide_false, List.all_cons, List.all_nil, Nat.zero_mul, Nat.mul_one, Nat.one_mul, hq, wl, hd, ix, hc, h2, h3, w1, w2, d1, d2, e2]
    exact ih (i + 1) _ _ _ _ _ _ _ _ _ _ _ _ _ _ _ _ _ _ _ _ _ _ _ _ _ (by omega)
def fair12 (L : List SnS) (nd : Nat) (P : List PrS) : Bool := fairS L && (decide (nd ≤ 80) && decide (P.length ≤ 80))
theorem fairC12 : (envL prog).call 6 [.agg [vd, vs, .int .i64 nx, .int .i64 kd, .int .i64 pd, vp]] H = some (.bool (fair12 L nd P), H) := by
 obtain ⟨H1, hH1⟩ : ∃ K, K = H ++ [ABlk.rw [vd, vs, .int .i64 nx, .int .i64 kd, .int .i64 pd, vp]] := ⟨_, rfl⟩
 have A1 : Adds H H1 := ⟨_, hH1⟩
 have hq : cellsOf H1 H.length = some [vd, vs, .int .i64 nx, .int .i64 kd, .int .i64 pd, vp] := by rw [hH1]; unfold cellsOf; simp
 have l0 := fairL12 (gs.adds A1) (gp.adds A1) wd cd fb hq (k := L.length) (i := 0)
 rw [show ((0 : Nat) : Int) = 0 from rfl, List.drop_zero] at l0
 have wl := gs.len
 have wp := gp.len
 have k2 := gs.cell.2
 have k3 := gp.cell.2
 have hH1 := hH1.symm
 have key : Outs (runC (envL prog) (b6 (envL prog)) ([AV.agg [vd, vs, .int .i64 nx, .int .i64 kd, .int .i64 pd, vp]] ++ List.replicate (46 - [AV.agg [vd, vs, .int .i64 nx, .int .i64 kd, .int .i64 pd, vp]].length) .undef) H) fun e' t K => Adds H K ∧ fin [.tmp 2] (some (e', t, K)) = some (.bool (fair12 L nd P), K) := by
  unfold b6
  generalize hQ : (fun (e' : Ex) (t : T) (K : AHeap) => Adds H K ∧ fin [.tmp 2] (some (e', t, K)) = some (AV.bool (fair12 L nd P), K)) = Q
  simp -implicitDefEqProofs (maxSteps := 5000000) only [go_sem, Nat.reduceShiftRight, Nat.reduceAnd, Nat.reduceBNe, Int.reduceEq, Nat.reduceAdd, Nat.reduceSub, Nat.reduceMul, Nat.reduceLeDiff, reduceIte, reduceCtorEq, Nat.reduceBEq, Nat.reduceEqDiff, wrap64, runC_loop, runC_range, callF_fn, callV_fn, callV_yld, yield_eq, yieldBody, yieldRaw, roundMid, roundEnd, rangeEnd, Bool.not_not, put_cons, put_nil, trim_same, at_zero, at_add, set_zero, set_add, store_one, write_zero, write_add, write_head, write_succ, splice_one, splice_more, List.drop_nil, List.take_nil, cell_int, cell_bool, fillS, splice_one, idxA, Ex.isNormal, List.set_nil, List.length_set, List.all_cons, List.all_nil, Bool.and_self, and_self, true_and, and_true, List.getElem?_nil, Int.reduceLT, Int.reduceLE, Int.reduceToNat, Int.toNat_zero, Int.toNat_one, Int.reduceAdd, Int.reduceSub, Int.reduceMul, Int.reduceNeg, Int.reduceBEq, Int.reduceBNe, Int.reduceGE, Int.reduceGT, Nat.reduceLT, trim_keep, under_fn, under_ptr, under_sl, Nat.lt_irrefl, not_lt_add, trim_tail, keepOk, ABlk.vals, Int.cast_ofNat_Int, decide_true, decide_false, List.all_cons, List.all_nil, Nat.zero_mul, Nat.mul_one, Nat.one_mul, runC_loop, cellsA_agg, cd, k2, k3, hH1]
  unfold LP1 at l0
  generalize (envL prog).loop (runC (envL prog) (l6x0 (envL prog))) = L0 at l0 ⊢
  refine outs_ctx (fun r => seqR (blockR 0 r) _) (l0 _ _ _ _ _ _ _ _ _ _ _ _ _ _ _ _ _ _ _ _ _ _ _ _ _ _ _ _ _ _ _ _ _ _ _ _ _ _ _ _ _ _ _ (by omega)) ?_
  rintro e t K ⟨rfl, fv, rfl, ⟨rfl, ho⟩ | ⟨rfl, f4, ho⟩⟩
  ·have hf : fair12 L nd P = (decide (L.length ≤ 12) && (decide (nd ≤ 80) && decide (P.length ≤ 80))) := by unfold fair12 fairS; rw [ho]; rfl
   have cast : ∀ a b : Nat, decide ((a : Int) ≤ (b : Int)) = decide (a ≤ b) := fun a b => by
    by_cases h : a ≤ b
    ·rw [decide_eq_true h, decide_eq_true (by omega)]
    ·rw [decide_eq_false h, decide_eq_false (by omega)]
   have c1 := cast L.length 12
   have c2 := cast nd 80
   have c3 := cast P.length 80
   rw [show ((12 : Nat) : Int) = 12 from rfl] at c1
   rw [show ((80 : Nat) : Int) = 80 from rfl] at c2 c3
   rcases b1 : decide (L.length ≤ 12) with _ | _ <;> rw [b1] at c1
   ·simp -implicitDefEqProofs (maxSteps := 5000000) only [go_sem, Nat.reduceShiftRight, Nat.reduceAnd, Nat.reduceBNe, Int.reduceEq, Nat.reduceAdd, Nat.reduceSub, Nat.reduceMul, Nat.reduceLeDiff, reduceIte, reduceCtorEq, Nat.reduceBEq, Nat.reduceEqDiff, wrap64, runC_loop, runC_range, callF_fn, callV_fn, callV_yld, yield_eq, yieldBody, yieldRaw, roundMid, roundEnd, rangeEnd, Bool.not_not, put_cons, put_nil, trim_same, at_zero, at_add, set_zero, set_add, store_one, write_zero, write_add, write_head, write_succ, splice_one, splice_more, List.drop_nil, List.take_nil, cell_int, cell_bool, fillS, splice_one, idxA, Ex.isNormal, List.set_nil, List.length_set, List.all_cons, List.all_nil, Bool.and_self, and_self, true_and, and_true, List.getElem?_nil, Int.reduceLT, Int.reduceLE, Int.reduceToNat, Int.toNat_zero, Int.toNat_one, Int.reduceAdd, Int.reduceSub, Int.reduceMul, Int.reduceNeg, Int.reduceBEq, Int.reduceBNe, Int.reduceGE, Int.reduceGT, Nat.reduceLT, trim_keep, under_fn, under_ptr, under_sl, Nat.lt_irrefl, not_lt_add, trim_tail, keepOk, ABlk.vals, Int.cast_ofNat_Int, decide_true, decide_false, List.all_cons, List.all_nil, Nat.zero_mul, Nat.mul_one, Nat.one_mul, hq, wl, c1, outs_normal]
    subst hQ
    rw [hf, b1]
    refine ⟨A1, ?_⟩
    simp -implicitDefEqProofs (maxSteps := 5000000) only [go_sem, Nat.reduceShiftRight, Nat.reduceAnd, Nat.reduceBNe, Int.reduceEq, Nat.reduceAdd, Nat.reduceSub, Nat.reduceMul, Nat.reduceLeDiff, reduceIte, reduceCtorEq, Nat.reduceBEq, Nat.reduceEqDiff, wrap64, runC_loop, runC_range, callF_fn, callV_fn, callV_yld, yield_eq, yieldBody, yieldRaw, roundMid, roundEnd, rangeEnd, Bool.not_not, put_cons, put_nil, trim_same, at_zero, at_add, set_zero, set_add, store_one, write_zero, write_add, write_head, write_succ, splice_one, splice_more, List.drop_nil, List.take_nil, cell_int, cell_bool, fillS, splice_one, idxA, Ex.isNormal, List.set_nil, List.length_set, List.all_cons, List.all_nil, Bool.and_self, and_self, true_and, and_true, List.getElem?_nil, Int.reduceLT, Int.reduceLE, Int.reduceToNat, Int.toNat_zero, Int.toNat_one, Int.reduceAdd, Int.reduceSub, Int.reduceMul, Int.reduceNeg, Int.reduceBEq, Int.reduceBNe, Int.reduceGE, Int.reduceGT, Nat.reduceLT, trim_keep, under_fn, under_ptr, under_sl, Nat.lt_irrefl, not_lt_add, trim_tail, keepOk, ABlk.vals, Int.cast_ofNat_Int, decide_true, decide_false, List.all_cons, List.all_nil, Nat.zero_mul, Nat.mul_one, Nat.one_mul]
   rcases b2 : decide (nd ≤ 80) with _ | _ <;> rw [b2] at c2
   ·simp -implicitDefEqProofs (maxSteps := 5000000) only [go_sem, Nat.reduceShiftRight, Nat.reduceAnd, Nat.reduceBNe, Int.reduceEq, Nat.reduceAdd, Nat.reduceSub, Nat.reduceMul, Nat.reduceLeDiff, reduceIte, reduceCtorEq, Nat.reduceBEq, Nat.reduceEqDiff, wrap64, runC_loop, runC_range, callF_fn, callV_fn, callV_yld, yield_eq, yieldBody, yieldRaw, roundMid, roundEnd, rangeEnd, Bool.not_not, put_cons, put_nil, trim_same, at_zero, at_add, set_zero, set_add, store_one, write_zero, write_add, write_head, write_succ, splice_one, splice_more, List.drop_nil, List.take_nil, cell_int, cell_bool, fillS, splice_one, idxA, Ex.isNormal, List.set_nil, List.length_set, List.all_cons, List.all_nil, Bool.and_self, and_self, true_and, and_true, List.getElem?_nil, Int.reduceLT, Int.reduceLE, Int.reduceToNat, Int.toNat_zero, Int.toNat_one, Int.reduceAdd, Int.reduceSub, Int.reduceMul, Int.reduceNeg, Int.reduceBEq, Int.reduceBNe, Int.reduceGE, Int.reduceGT, Nat.reduceLT, trim_keep, under_fn, under_ptr, under_sl, Nat.lt_irrefl, not_lt_add, trim_tail, keepOk, ABlk.vals, Int.cast_ofNat_Int, decide_true, decide_false, List.all_cons, List.all_nil, Nat.zero_mul, Nat.mul_one, Nat.one_mul, hq, wl, wd, c1, c2, outs_normal]
    subst hQ
    rw [hf, b1, b2]
    refine ⟨A1, ?_⟩
    simp -implicitDefEqProofs (maxSteps := 5000000) only [go_sem, Nat.reduceShiftRight, Nat.reduceAnd, Nat.reduceBNe, Int.reduceEq, Nat.reduceAdd, Nat.reduceSub, Nat.reduceMul, Nat.reduceLeDiff, reduceIte, reduceCtorEq, Nat.reduceBEq, Nat.reduceEqDiff, wrap64, runC_loop, runC_range, callF_fn, callV_fn, callV_yld, yield_eq, yieldBody, yieldRaw, roundMid, roundEnd, rangeEnd, Bool.not_not, put_cons, put_nil, trim_same, at_zero, at_add, set_zero, set_add, store_one, write_zero, write_add, write_head, write_succ, splice_one, splice_more, List.drop_nil, List.take_nil, cell_int, cell_bool, fillS, splice_one, idxA, Ex.isNormal, List.set_nil, List.length_set, List.all_cons, List.all_nil, Bool.and_self, and_self, true_and, and_true, List.getElem?_nil, Int.reduceLT, Int.reduceLE, Int.reduceToNat, Int.toNat_zero, Int.toNat_one, Int.reduceAdd, Int.reduceSub, Int.reduceMul, Int.reduceNeg, Int.reduceBEq, Int.reduceBNe, Int.reduceGE, Int.reduceGT, Nat.reduceLT, trim_keep, under_fn, under_ptr, under_sl, Nat.lt_irrefl, not_lt_add, trim_tail, keepOk, ABlk.vals, Int.cast_ofNat_Int, decide_true, decide_false, List.all_cons, List.all_nil, Nat.zero_mul, Nat.mul_one, Nat.one_mul]
   rcases b3 : decide (P.length ≤ 80) with _ | _ <;> rw [b3] at c3
   ·simp -implicitDefEqProofs (maxSteps := 5000000) only [go_sem, Nat.reduceShiftRight, Nat.reduceAnd, Nat.reduceBNe, Int.reduceEq, Nat.reduceAdd, Nat.reduceSub, Nat.reduceMul, Nat.reduceLeDiff, reduceIte, reduceCtorEq, Nat.reduceBEq, Nat.reduceEqDiff, wrap64, runC_loop, runC_range, callF_fn, callV_fn, callV_yld, yield_eq, yieldBody, yieldRaw, roundMid, roundEnd, rangeEnd, Bool.not_not, put_cons, put_nil, trim_same, at_zero, at_add, set_zero, set_add, store_one, write_zero, write_add, write_head, write_succ, splice_one, splice_more, List.drop_nil, List.take_nil, cell_int, cell_bool, fillS, splice_one, idxA, Ex.isNormal, List.set_nil, List.length_set, List.all_cons, List.all_nil, Bool.and_self, and_self, true_and, and_true, List.getElem?_nil, Int.reduceLT, Int.reduceLE, Int.reduceToNat, Int.toNat_zero, Int.toNat_one, Int.reduceAdd, Int.reduceSub, Int.reduceMul, Int.reduceNeg, Int.reduceBEq, Int.reduceBNe, Int.reduceGE, Int.reduceGT, Nat.reduceLT, trim_keep, under_fn, under_ptr, under_sl, Nat.lt_irrefl, not_lt_add, trim_tail, keepOk, ABlk.vals, Int.cast_ofNat_Int, decide_true, decide_false, List.all_cons, List.all_nil, Nat.zero_mul, Nat.mul_one, Nat.one_mul, hq, wl, wd, wp, c1, c2, c3, outs_normal]
    subst hQ
    rw [hf, b1, b2, b3]
    refine ⟨A1, ?_⟩
    simp -implicitDefEqProofs (maxSteps := 5000000) only [go_sem, Nat.reduceShiftRight, Nat.reduceAnd, Nat.reduceBNe, Int.reduceEq, Nat.reduceAdd, Nat.reduceSub, Nat.reduceMul, Nat.reduceLeDiff, reduceIte, reduceCtorEq, Nat.reduceBEq, Nat.reduceEqDiff, wrap64, runC_loop, runC_range, callF_fn, callV_fn, callV_yld, yield_eq, yieldBody, yieldRaw, roundMid, roundEnd, rangeEnd, Bool.not_not, put_cons, put_nil, trim_same, at_zero, at_add, set_zero, set_add, store_one, write_zero, write_add, write_head, write_succ, splice_one, splice_more, List.drop_nil, List.take_nil, cell_int, cell_bool, fillS, splice_one, idxA, Ex.isNormal, List.set_nil, List.length_set, List.all_cons, List.all_nil, Bool.and_self, and_self, true_and, and_true, List.getElem?_nil, Int.reduceLT, Int.reduceLE, Int.reduceToNat, Int.toNat_zero, Int.toNat_one, Int.reduceAdd, Int.reduceSub, Int.reduceMul, Int.reduceNeg, Int.reduceBEq, Int.reduceBNe, Int.reduceGE, Int.reduceGT, Nat.reduceLT, trim_keep, under_fn, under_ptr, under_sl, Nat.lt_irrefl, not_lt_add, trim_tail, keepOk, ABlk.vals, Int.cast_ofNat_Int, decide_true, decide_false, List.all_cons, List.all_nil, Nat.zero_mul, Nat.mul_one, Nat.one_mul]
   ·simp -implicitDefEqProofs (maxSteps := 5000000) only [go_sem, Nat.reduceShiftRight, Nat.reduceAnd, Nat.reduceBNe, Int.reduceEq, Nat.reduceAdd, Nat.reduceSub, Nat.reduceMul, Nat.reduceLeDiff, reduceIte, reduceCtorEq, Nat.reduceBEq, Nat.reduceEqDiff, wrap64, runC_loop, runC_range, callF_fn, callV_fn, callV_yld, yield_eq, yieldBody, yieldRaw, roundMid, roundEnd, rangeEnd, Bool.not_not, put_cons, put_nil, trim_same, at_zero, at_add, set_zero, set_add, store_one, write_zero, write_add, write_head, write_succ, splice_one, splice_more, List.drop_nil, List.take_nil, cell_int, cell_bool, fillS, splice_one, idxA, Ex.isNormal, List.set_nil, List.length_set, List.all_cons, List.all_nil, Bool.and_self, and_self, true_and, and_true, List.getElem?_nil, Int.reduceLT, Int.reduceLE, Int.reduceToNat, Int.toNat_zero, Int.toNat_one, Int.reduceAdd, Int.reduceSub, Int.reduceMul, Int.reduceNeg, Int.reduceBEq, Int.reduceBNe, Int.reduceGE, Int.reduceGT, Nat.reduceLT, trim_keep, under_fn, under_ptr, under_sl, Nat.lt_irrefl, not_lt_add, trim_tail, keepOk, ABlk.vals, Int.cast_ofNat_Int, decide_true, decide_false, List.all_cons, List.all_nil, Nat.zero_mul, Nat.mul_one, Nat.one_mul, hq, wl, wd, wp, c1, c2, c3, outs_normal]
    subst hQ
    rw [hf, b1, b2, b3]
    refine ⟨A1, ?_⟩
    simp -implicitDefEqProofs (maxSteps := 5000000) only [go_sem, Nat.reduceShiftRight, Nat.reduceAnd, Nat.reduceBNe, Int.reduceEq, Nat.reduceAdd, Nat.reduceSub, Nat.reduceMul, Nat.reduceLeDiff, reduceIte, reduceCtorEq, Nat.reduceBEq, Nat.reduceEqDiff, wrap64, runC_loop, runC_range, callF_fn, callV_fn, callV_yld, yield_eq, yieldBody, yieldRaw, roundMid, roundEnd, rangeEnd, Bool.not_not, put_cons, put_nil, trim_same, at_zero, at_add, set_zero, set_add, store_one, write_zero, write_add, write_head, write_succ, splice_one, splice_more, List.drop_nil, List.take_nil, cell_int, cell_bool, fillS, splice_one, idxA, Ex.isNormal, List.set_nil, List.length_set, List.all_cons, List.all_nil, Bool.and_self, and_self, true_and, and_true, List.getElem?_nil, Int.reduceLT, Int.reduceLE, Int.reduceToNat, Int.toNat_zero, Int.toNat_one, Int.reduceAdd, Int.reduceSub, Int.reduceMul, Int.reduceNeg, Int.reduceBEq, Int.reduceBNe, Int.reduceGE, Int.reduceGT, Nat.reduceLT, trim_keep, under_fn, under_ptr, under_sl, Nat.lt_irrefl, not_lt_add, trim_tail, keepOk, ABlk.vals, Int.cast_ofNat_Int, decide_true, decide_false, List.all_cons, List.all_nil, Nat.zero_mul, Nat.mul_one, Nat.one_mul]
  ·simp -implicitDefEqProofs (maxSteps := 5000000) only [go_sem, Nat.reduceShiftRight, Nat.reduceAnd, Nat.reduceBNe, Int.reduceEq, Nat.reduceAdd, Nat.reduceSub, Nat.reduceMul, Nat.reduceLeDiff, reduceIte, reduceCtorEq, Nat.reduceBEq, Nat.reduceEqDiff, outs_normal]
   subst hQ
   have : fair12 L nd P = false := by unfold fair12 fairS; rw [ho]; rfl
   rw [this]
   refine ⟨A1, ?_⟩
   simp -implicitDefEqProofs (maxSteps := 5000000) only [go_sem, Nat.reduceShiftRight, Nat.reduceAnd, Nat.reduceBNe, Int.reduceEq, Nat.reduceAdd, Nat.reduceSub, Nat.reduceMul, Nat.reduceLeDiff, reduceIte, reduceCtorEq, Nat.reduceBEq, Nat.reduceEqDiff, f4]
 obtain ⟨e', t, K, hr, aK, hf⟩ := key
 rw [c6, hr, hf]; exact aK.trimS rfl
end
section
variable {K : AHeap} {v : AV} {u : List Int} (g : IS K v u) (up : u.Pairwise (· < ·)) (lu : u.length ≤ 1000000) (A : Nat) (hA : A ≤ 1000000)
include g up lu hA
set_option maxHeartbeats 4000000 in
theorem apL0 (x0 x1 x2 x3 x9 x10 x11 x12 x13 x14 x15 x16 x17 x18 x19 x20 x21 x22 x23 x24 x60 x61 x62 x63 x64 x65 x66 x67 x68 x69 x70 x71 x72 x73 x74 x75 x76 x77 x78 x79 x80 x81 x82 x83 x84 x85 x86 x87 x88 x89 x90 x91 x92 x93 x94 x95 x96 x97 x98 x99 x100 x101 x102 x103 x104 x105 x106 x107 x108 x109 x110 x111 x112 x113 x114 x115 x116 x117 x118 x119 x120 x121 x122 x123 x124 x125 x126 x127 x128 x129 x130 x131 x132 x133 x134 x135 x136 x137 x138 x139 x140 x141 x142 x143 x144 x145 : AV) : ∀ (m i : Nat) (j25 j26 j27 j28 j29 j30 j31 j32 j33 j34 j35 j36 j37 j38 j39 j40 j41 j42 j43 j44 j45 j46 j47 j48 j49 j50 j51 j52 j53 j54 j55 j56 j57 j58 j59 : AV), i + m = u.length →
  Outs (LZ l3x0 [x0, x1, x2, x3, .bool false, .int .i64 (A : Int), v, .int .i64 (wth A (u.take i) : Int), .int .i64 (i : Int), x9, x10, x11, x12, x13, x14, x15, x16, x17, x18, x19, x20, x21, x22, x23, x24, j25, j26, j27, j28, j29, j30, j31, j32, j33, j34, j35, j36, j37, j38, j39, j40, j41, j42, j43, j44, j45, j46, j47, j48, j49, j50, j51, j52, j53, j54, j55, j56, j57, j58, j59, x60, x61, x62, x63, x64, x65, x66, x67, x68, x69, x70, x71, x72, x73, x74, x75, x76, x77, x78, x79, x80, x81, x82, x83, x84, x85, x86, x87, x88, x89, x90, x91, x92, x93, x94, x95, x96, x97, x98, x99, x100, x101, x102, x103, x104, x105, x106, x107, x108, x109, x110, x111, x112, x113, x114, x115, x116, x117, x118, x119, x120, x121, x122, x123, x124, x125, x126, x127, x128, x129, x130, x131, x132, x133, x134, x135, x136, x137, x138, x139, x140, x141, x142, x143, x144, x145] K) fun e t K' => e = .exit 0 ∧ K' = K ∧ ∃ fv : Nat → AV, t = [x0, x1, x2, x3, (fv 4), .int .i64 (A : Int), v, (fv 7), (fv 8), x9, x10, x11, x12, x13, x14, x15, x16, x17, x18, x19, x20, x21, x22, x23, x24, (fv 25), (fv 26), (fv 27), (fv 28), (fv 29), (fv 30), (fv 31), (fv 32), (fv 33), (fv 34), (fv 35), (fv 36), (fv 37), (fv 38), (fv 39), (fv 40), (fv 41), (fv 42), (fv 43), (fv 44), (fv 45), (fv 46), (fv 47), (fv 48), (fv 49), (fv 50), (fv 51), (fv 52), (fv 53), (fv 54), (fv 55), (fv 56), (fv 57), (fv 58), (fv 59), x60, x61, x62, x63, x64, x65, x66, x67, x68, x69, x70, x71, x72, x73, x74, x75, x76, x77, x78, x79, x80, x81, x82, x83, x84, x85, x86, x87, x88, x89, x90, x91, x92, x93, x94, x95, x96, x97, x98, x99, x100, x101, x102, x103, x104, x105, x106, x107, x108, x109, x110, x111, x112, x113, x114, x115, x116, x117, x118, x119, x120, x121, x122, x123, x124, x125, x126, x127, x128, x129, x130, x131, x132, x133, x134, x135, x136, x137, x138, x139, x140, x141, x142, x143, x144, x145] ∧ fv 4 = .bool false ∧ fv 7 = .int .i64 (wth A u : Int) := by
 intro m
 obtain ⟨L0, hL0⟩ : ∃ L, L = LZ l3x0 := ⟨_, rfl⟩
 have lo := loop_open hL0
 have wl := g.len
 rw [← hL0]
 induction m with
 | zero =>
  intro i j25 j26 j27 j28 j29 j30 j31 j32 j33 j34 j35 j36 j37 j38 j39 j40 j41 j42 j43 j44 j45 j46 j47 j48 j49 j50 j51 j52 j53 j54 j55 j56 j57 j58 j59 hi
  obtain rfl : i = u.length := by omega
  have hd : decide ((u.length : Int) < (u.length : Int)) = false := by simp
  rw [lo, List.take_length]
  unfold l3x0
  simp -implicitDefEqProofs (maxSteps := 5000000) only [go_sem, Nat.reduceShiftRight, Nat.reduceAnd, Nat.reduceBNe, Int.reduceEq, Nat.reduceAdd, Nat.reduceSub, Nat.reduceMul, Nat.reduceLeDiff, reduceIte, reduceCtorEq, Nat.reduceBEq, Nat.reduceEqDiff, wrap64, runC_loop, runC_range, callF_fn, callV_fn, callV_yld, yield_eq, yieldBody, yieldRaw, roundMid, roundEnd, rangeEnd, Bool.not_not, put_cons, put_nil, trim_same, at_zero, at_add, set_zero, set_add, store_one, write_zero, write_add, write_head, write_succ, splice_one, splice_more, List.drop_nil, List.take_nil, cell_int, cell_bool, fillS, splice_one, idxA, Ex.isNormal, List.set_nil, List.length_set, List.all_cons, List.all_nil, Bool.and_self, and_self, true_and, and_true, List.getElem?_nil, Int.reduceLT, Int.reduceLE, Int.reduceToNat, Int.toNat_zero, Int.toNat_one, Int.reduceAdd, Int.reduceSub, Int.reduceMul, Int.reduceNeg, Int.reduceBEq, Int.reduceBNe, Int.reduceGE, Int.reduceGT, Nat.reduceLT, trim_keep, under_fn, under_ptr, under_sl, Nat.lt_irrefl, not_lt_add, trim_tail, keepOk, ABlk.vals, Int.cast_ofNat_Int, decide_true, decide_false, List.all_cons, List.all_nil, Nat.zero_mul, Nat.mul_one, Nat.one_mul, wl, hd, seqR_exit', outs_normal]
  exact exF2 rfl ⟨rfl, rfl⟩
 | succ m ih =>
  intro i j25 j26 j27 j28 j29 j30 j31 j32 j33 j34 j35 j36 j37 j38 j39 j40 j41 j42 j43 j44 j45 j46 j47 j48 j49 j50 j51 j52 j53 j54 j55 j56 j57 j58 j59 hi
  have hlt : i < u.length := by omega
  have hd : decide ((i : Int) < (u.length : Int)) = true := decide_eq_true (by omega)
  have e2 : IntKind.i64.wrap ((i : Int) + 1) = ((i + 1 : Nat) : Int) := by rw [wrap64 (by omega) (by omega)]; omega
  have hx := List.getElem?_eq_getElem hlt
  have tk : u.take (i + 1) = u.take i ++ [u[i]] := by rw [List.take_add_one, hx]; rfl
  have wle := wth_le (A : Int) (u.take i)
  rw [List.length_take] at wle
  have key := ih (i + 1)
  have hw : wth (A : Int) (u.take (i + 1)) = wth (A : Int) (u.take i) + (if 0 ≤ u[i] ∧ u[i] < (A : Int) then 1 else 0) := by
   rw [tk, wth_app, wth_cons, wth_nil]; omega
  rw [hw] at key
  have s1 : IntKind.i64.wrap ((wth (A : Int) (u.take i) : Int) + 1) = ((wth (A : Int) (u.take i) + 1 : Nat) : Int) := by rw [wrap64 (by omega) (by omega)]; omega
  have prev : (i = 0) ∨ ∃ n y a2, i = n + 1 ∧ idxAddrS 1 v (.int .i64 (n : Int)) = some a2 ∧ loadV 1 false a2 K = some (.int .i64 y) ∧ y < u[i] := by
   cases i with
   | zero => exact .inl rfl
   | succ n =>
    have hn : n < u.length := by omega
    obtain ⟨a2, ix2, ld2⟩ := g.idx (List.getElem?_eq_getElem hn) .i64
    exact .inr ⟨n, u[n], a2, rfl, ix2, ld2, List.pairwise_iff_getElem.1 up n (n + 1) hn hlt (by omega)⟩
  generalize u[i] = x at *
  obtain ⟨ad, ix, ld⟩ := g.idx hx .i64
  have run : ∀ {b0 : Bool}, decide ((i : Int) > 0) = b0 → (b0 = true → ∃ n y a2, IntKind.i64.wrap ((i : Int) - 1) = ((n : Nat) : Int) ∧ idxAddrS 1 v (.int .i64 (n : Int)) = some a2 ∧ loadV 1 false a2 K = some (.int .i64 y) ∧ decide (x ≤ y) = false) → True := fun _ _ => trivial
  rw [lo]
  unfold l3x0
  rcases prev with hi0 | ⟨n, y, a2, hin, ix2, ld2, hy⟩
  ·have dz : decide ((i : Int) > 0) = false := decide_eq_false (by omega)
   by_cases c0 : x ≥ 0
   ·have d0 := decide_eq_true c0
    by_cases c1 : x < (A : Int)
    ·have d1 := decide_eq_true c1
     rw [if_pos ⟨c0, c1⟩] at key
     simp -implicitDefEqProofs (maxSteps := 5000000) only [go_sem, Nat.reduceShiftRight, Nat.reduceAnd, Nat.reduceBNe, Int.reduceEq, Nat.reduceAdd, Nat.reduceSub, Nat.reduceMul, Nat.reduceLeDiff, reduceIte, reduceCtorEq, Nat.reduceBEq, Nat.reduceEqDiff, wrap64, runC_loop, runC_range, callF_fn, callV_fn, callV_yld, yield_eq, yieldBody, yieldRaw, roundMid, roundEnd, rangeEnd, Bool.not_not, put_cons, put_nil, trim_same, at_zero, at_add, set_zero, set_add, store_one, write_zero, write_add, write_head, write_succ, splice_one, splice_more, List.drop_nil, List.take_nil, cell_int, cell_bool, fillS, splice_one, idxA, Ex.isNormal, List.set_nil, List.length_set, List.all_cons, List.all_nil, Bool.and_self, and_self, true_and, and_true, List.getElem?_nil, Int.reduceLT, Int.reduceLE, Int.reduceToNat, Int.toNat_zero, Int.toNat_one, Int.reduceAdd, Int.reduceSub, Int.reduceMul, Int.reduceNeg, Int.reduceBEq, Int.reduceBNe, Int.reduceGE, Int.reduceGT, Nat.reduceLT, trim_keep, under_fn, under_ptr, under_sl, Nat.lt_irrefl, not_lt_add, trim_tail, keepOk, ABlk.vals, Int.cast_ofNat_Int, decide_true, decide_false, List.all_cons, List.all_nil, Nat.zero_mul, Nat.mul_one, Nat.one_mul, wl, hd, dz, ix, ld, d0, d1, s1, e2]
     exact key _ _ _ _ _ _ _ _ _ _ _ _ _ _ _ _ _ _ _ _ _ _ _ _ _ _ _ _ _ _ _ _ _ _ _ (by omega)
    ·have d1 := decide_eq_false c1
     rw [if_neg (by omega), Nat.add_zero] at key
     simp -implicitDefEqProofs (maxSteps := 5000000) only [go_sem, Nat.reduceShiftRight, Nat.reduceAnd, Nat.reduceBNe, Int.reduceEq, Nat.reduceAdd, Nat.reduceSub, Nat.reduceMul, Nat.reduceLeDiff, reduceIte, reduceCtorEq, Nat.reduceBEq, Nat.reduceEqDiff, wrap64, runC_loop, runC_range, callF_fn, callV_fn, callV_yld, yield_eq, yieldBody, yieldRaw, roundMid, roundEnd, rangeEnd, Bool.not_not, put_cons, put_nil, trim_same, at_zero, at_add, set_zero, set_add, store_one, write_zero, write_add, write_head, write_succ, splice_one, splice_more, List.drop_nil, List.take_nil, cell_int, cell_bool, fillS, splice_one, idxA, Ex.isNormal, List.set_nil, List.length_set, List.all_cons, List.all_nil, Bool.and_self, and_self, true_and, and_true, List.getElem?_nil, Int.reduceLT, Int.reduceLE, Int.reduceToNat, Int.toNat_zero, Int.toNat_one, Int.reduceAdd, Int.reduceSub, Int.reduceMul, Int.reduceNeg, Int.reduceBEq, Int.reduceBNe, Int.reduceGE, Int.reduceGT, Nat.reduceLT, trim_keep, under_fn, under_ptr, under_sl, Nat.lt_irrefl, not_lt_add, trim_tail, keepOk, ABlk.vals, Int.cast_ofNat_Int, decide_true, decide_false, List.all_cons, List.all_nil, Nat.zero_mul, Nat.mul_one, Nat.one_mul, wl, hd, dz, ix, ld, d0, d1, e2]
     exact key _ _ _ _ _ _ _ _ _ _ _ _ _ _ _ _ _ _ _ _ _ _ _ _ _ _ _ _ _ _ _ _ _ _ _ (by omega)
   ·have d0 := decide_eq_false c0
    rw [if_neg (by omega), Nat.add_zero] at key
    simp -implicitDefEqProofs (maxSteps := 5000000) only [go_sem, Nat.reduceShiftRight, Nat.reduceAnd, Nat.reduceBNe, Int.reduceEq, Nat.reduceAdd, Nat.reduceSub, Nat.reduceMul, Nat.reduceLeDiff, reduceIte, reduceCtorEq, Nat.reduceBEq, Nat.reduceEqDiff, wrap64, runC_loop, runC_range, callF_fn, callV_fn, callV_yld, yield_eq, yieldBody, yieldRaw, roundMid, roundEnd, rangeEnd, Bool.not_not, put_cons, put_nil, trim_same, at_zero, at_add, set_zero, set_add, store_one, write_zero, write_add, write_head, write_succ, splice_one, splice_more, List.drop_nil, List.take_nil, cell_int, cell_bool, fillS, splice_one, idxA, Ex.isNormal, List.set_nil, List.length_set, List.all_cons, List.all_nil, Bool.and_self, and_self, true_and, and_true, List.getElem?_nil, Int.reduceLT, Int.reduceLE, Int.reduceToNat, Int.toNat_zero, Int.toNat_one, Int.reduceAdd, Int.reduceSub, Int.reduceMul, Int.reduceNeg, Int.reduceBEq, Int.reduceBNe, Int.reduceGE, Int.reduceGT, Nat.reduceLT, trim_keep, under_fn, under_ptr, under_sl, Nat.lt_irrefl, not_lt_add, trim_tail, keepOk, ABlk.vals, Int.cast_ofNat_Int, decide_true, decide_false, List.all_cons, List.all_nil, Nat.zero_mul, Nat.mul_one, Nat.one_mul, wl, hd, dz, ix, ld, d0, e2]
    exact key _ _ _ _ _ _ _ _ _ _ _ _ _ _ _ _ _ _ _ _ _ _ _ _ _ _ _ _ _ _ _ _ _ _ _ (by omega)
  ·have dz : decide ((i : Int) > 0) = true := decide_eq_true (by omega)
   have il2 : IntKind.i64.wrap ((i : Int) - 1) = (n : Int) := by rw [wrap64 (by omega) (by omega)]; omega
   have dy : decide (x ≤ y) = false := decide_eq_false (by omega)
   by_cases c0 : x ≥ 0
   ·have d0 := decide_eq_true c0
    by_cases c1 : x < (A : Int)
    ·have d1 := decide_eq_true c1
     rw [if_pos ⟨c0, c1⟩] at key
     simp -implicitDefEqProofs (maxSteps := 5000000) only [go_sem, Nat.reduceShiftRight, Nat.reduceAnd, Nat.reduceBNe, Int.reduceEq, Nat.reduceAdd, Nat.reduceSub, Nat.reduceMul, Nat.reduceLeDiff, reduceIte, reduceCtorEq, Nat.reduceBEq, Nat.reduceEqDiff, wrap64, runC_loop, runC_range, callF_fn, callV_fn, callV_yld, yield_eq, yieldBody, yieldRaw, roundMid, roundEnd, rangeEnd, Bool.not_not, put_cons, put_nil, trim_same, at_zero, at_add, set_zero, set_add, store_one, write_zero, write_add, write_head, write_succ, splice_one, splice_more, List.drop_nil, List.take_nil, cell_int, cell_bool, fillS, splice_one, idxA, Ex.isNormal, List.set_nil, List.length_set, List.all_cons, List.all_nil, Bool.and_self, and_self, true_and, and_true, List.getElem?_nil, Int.reduceLT, Int.reduceLE, Int.reduceToNat, Int.toNat_zero, Int.toNat_one, Int.reduceAdd, Int.reduceSub, Int.reduceMul, Int.reduceNeg, Int.reduceBEq, Int.reduceBNe, Int.reduceGE, Int.reduceGT, Nat.reduceLT, trim_keep, under_fn, under_ptr, under_sl, Nat.lt_irrefl, not_lt_add, trim_tail, keepOk, ABlk.vals, Int.cast_ofNat_Int, decide_true, decide_false, List.all_cons, List.all_nil, Nat.zero_mul, Nat.mul_one, Nat.one_mul, wl, hd, dz, ix, ld, il2, ix2, ld2, dy, d0, d1, s1, e2]
     exact key _ _ _ _ _ _ _ _ _ _ _ _ _ _ _ _ _ _ _ _ _ _ _ _ _ _ _ _ _ _ _ _ _ _ _ (by omega)
    ·have d1 := decide_eq_false c1
     rw [if_neg (by omega), Nat.add_zero] at key
     simp -implicitDefEqProofs (maxSteps := 5000000) only [go_sem, Nat.reduceShiftRight, Nat.reduceAnd, Nat.reduceBNe, Int.reduceEq, Nat.reduceAdd, Nat.reduceSub, Nat.reduceMul, Nat.reduceLeDiff, reduceIte, reduceCtorEq, Nat.reduceBEq, Nat.reduceEqDiff, wrap64, runC_loop, runC_range, callF_fn, callV_fn, callV_yld, yield_eq, yieldBody, yieldRaw, roundMid, roundEnd, rangeEnd, Bool.not_not, put_cons, put_nil, trim_same, at_zero, at_add, set_zero, set_add, store_one, write_zero, write_add, write_head, write_succ, splice_one, splice_more, List.drop_nil, List.take_nil, cell_int, cell_bool, fillS, splice_one, idxA, Ex.isNormal, List.set_nil, List.length_set, List.all_cons, List.all_nil, Bool.and_self, and_self, true_and, and_true, List.getElem?_nil, Int.reduceLT, Int.reduceLE, Int.reduceToNat, Int.toNat_zero, Int.toNat_one, Int.reduceAdd, Int.reduceSub, Int.reduceMul, Int.reduceNeg, Int.reduceBEq, Int.reduceBNe, Int.reduceGE, Int.reduceGT, Nat.reduceLT, trim_keep, under_fn, under_ptr, under_sl, Nat.lt_irrefl, not_lt_add, trim_tail, keepOk, ABlk.vals, Int.cast_ofNat_Int, decide_true, decide_false, List.all_cons, List.all_nil, Nat.zero_mul, Nat.mul_one, Nat.one_mul, wl, hd, dz, ix, ld, il2, ix2, ld2, dy, d0, d1, e2]
     exact key _ _ _ _ _ _ _ _ _ _ _ _ _ _ _ _ _ _ _ _ _ _ _ _ _ _ _ _ _ _ _ _ _ _ _ (by omega)
   ·have d0 := decide_eq_false c0
    rw [if_neg (by omega), Nat.add_zero] at key
    simp -implicitDefEqProofs (maxSteps := 5000000) only [go_sem, Nat.reduceShiftRight, Nat.reduceAnd, Nat.reduceBNe, Int.reduceEq, Nat.reduceAdd, Nat.reduceSub, Nat.reduceMul, Nat.reduceLeDiff, reduceIte, reduceCtorEq, Nat.reduceBEq, Nat.reduceEqDiff, wrap64, runC_loop, runC_range, callF_fn, callV_fn, callV_yld, yield_eq, yieldBody, yieldRaw, roundMid, roundEnd, rangeEnd, Bool.not_not, put_cons, put_nil, trim_same, at_zero, at_add, set_zero, set_add, store_one, write_zero, write_add, write_head, write_succ, splice_one, splice_more, List.drop_nil, List.take_nil, cell_int, cell_bool, fillS, splice_one, idxA, Ex.isNormal, List.set_nil, List.length_set, List.all_cons, List.all_nil, Bool.and_self, and_self, true_and, and_true, List.getElem?_nil, Int.reduceLT, Int.reduceLE, Int.reduceToNat, Int.toNat_zero, Int.toNat_one, Int.reduceAdd, Int.reduceSub, Int.reduceMul, Int.reduceNeg, Int.reduceBEq, Int.reduceBNe, Int.reduceGE, Int.reduceGT, Nat.reduceLT, trim_keep, under_fn, under_ptr, under_sl, Nat.lt_irrefl, not_lt_add, trim_tail, keepOk, ABlk.vals, Int.cast_ofNat_Int, decide_true, decide_false, List.all_cons, List.all_nil, Nat.zero_mul, Nat.mul_one, Nat.one_mul, wl, hd, dz, ix, ld, il2, ix2, ld2, dy, d0, e2]
    exact key _ _ _ _ _ _ _ _ _ _ _ _ _ _ _ _ _ _ _ _ _ _ _ _ _ _ _ _ _ _ _ _ _ _ _ (by omega)
omit up hA in
set_option maxHeartbeats 4000000 in
theorem apL1 (x : Int) (x0 x1 x2 x3 x4 x5 x7 x8 x9 x10 x11 x15 x16 x17 x18 x19 x20 x21 x22 x23 x24 x25 x26 x27 x28 x29 x30 x31 x32 x33 x34 x35 x36 x37 x38 x39 x40 x41 x42 x43 x44 x45 x46 x47 x48 x49 x50 x51 x52 x53 x54 x55 x56 x57 x58 x59 x60 x61 x62 x63 x64 x65 x66 x67 x68 x69 x70 x71 x72 x73 x74 x75 x76 x77 x78 x79 x80 x81 x82 x83 x84 x85 x86 x87 x88 x89 x90 x91 x92 x93 x94 x95 x96 x97 x98 x99 x100 x101 x102 x103 x104 x120 x121 x122 x123 x124 x125 x126 x127 x128 x129 x130 x131 x132 x133 x134 x135 x136 x137 x138 x139 x140 x141 x142 x143 x144 x145 : AV) : ∀ (m i : Nat) (b : Bool) (j105 j106 j107 j108 j109 j110 j111 j112 j113 j114 j115 j116 j117 j118 j119 : AV), i + m = u.length →
  Outs (LZ l3x1 [x0, x1, x2, x3, x4, x5, v, x7, x8, x9, x10, x11, .int .i64 x, .bool b, .int .i64 (i : Int), x15, x16, x17, x18, x19, x20, x21, x22, x23, x24, x25, x26, x27, x28, x29, x30, x31, x32, x33, x34, x35, x36, x37, x38, x39, x40, x41, x42, x43, x44, x45, x46, x47, x48, x49, x50, x51, x52, x53, x54, x55, x56, x57, x58, x59, x60, x61, x62, x63, x64, x65, x66, x67, x68, x69, x70, x71, x72, x73, x74, x75, x76, x77, x78, x79, x80, x81, x82, x83, x84, x85, x86, x87, x88, x89, x90, x91, x92, x93, x94, x95, x96, x97, x98, x99, x100, x101, x102, x103, x104, j105, j106, j107, j108, j109, j110, j111, j112, j113, j114, j115, j116, j117, j118, j119, x120, x121, x122, x123, x124, x125, x126, x127, x128, x129, x130, x131, x132, x133, x134, x135, x136, x137, x138, x139, x140, x141, x142, x143, x144, x145] K) fun e t K' => e = .exit 4 ∧ K' = K ∧ ∃ fv : Nat → AV, t = [x0, x1, x2, x3, x4, x5, v, x7, x8, x9, x10, x11, .int .i64 x, (fv 13), (fv 14), x15, x16, x17, x18, x19, x20, x21, x22, x23, x24, x25, x26, x27, x28, x29, x30, x31, x32, x33, x34, x35, x36, x37, x38, x39, x40, x41, x42, x43, x44, x45, x46, x47, x48, x49, x50, x51, x52, x53, x54, x55, x56, x57, x58, x59, x60, x61, x62, x63, x64, x65, x66, x67, x68, x69, x70, x71, x72, x73, x74, x75, x76, x77, x78, x79, x80, x81, x82, x83, x84, x85, x86, x87, x88, x89, x90, x91, x92, x93, x94, x95, x96, x97, x98, x99, x100, x101, x102, x103, x104, (fv 105), (fv 106), (fv 107), (fv 108), (fv 109), (fv 110), (fv 111), (fv 112), (fv 113), (fv 114), (fv 115), (fv 116), (fv 117), (fv 118), (fv 119), x120, x121, x122, x123, x124, x125, x126, x127, x128, x129, x130, x131, x132, x133, x134, x135, x136, x137, x138, x139, x140, x141, x142, x143, x144, x145] ∧ fv 13 = .bool (b || (u.drop i).any (· == x)) := by
 intro m
 obtain ⟨L0, hL0⟩ : ∃ L, L = LZ l3x1 := ⟨_, rfl⟩
 have lo := loop_open hL0
 have wl := g.len
 rw [← hL0]
 induction m with
 | zero =>
  intro i b j105 j106 j107 j108 j109 j110 j111 j112 j113 j114 j115 j116 j117 j118 j119 hi
  obtain rfl : i = u.length := by omega
  have hd : decide ((u.length : Int) < (u.length : Int)) = false := by simp
  rw [lo, List.drop_length, List.any_nil, Bool.or_false]
  unfold l3x1
  simp -implicitDefEqProofs (maxSteps := 5000000) only [go_sem, Nat.reduceShiftRight, Nat.reduceAnd, Nat.reduceBNe, Int.reduceEq, Nat.reduceAdd, Nat.reduceSub, Nat.reduceMul, Nat.reduceLeDiff, reduceIte, reduceCtorEq, Nat.reduceBEq, Nat.reduceEqDiff, wrap64, runC_loop, runC_range, callF_fn, callV_fn, callV_yld, yield_eq, yieldBody, yieldRaw, roundMid, roundEnd, rangeEnd, Bool.not_not, put_cons, put_nil, trim_same, at_zero, at_add, set_zero, set_add, store_one, write_zero, write_add, write_head, write_succ, splice_one, splice_more, List.drop_nil, List.take_nil, cell_int, cell_bool, fillS, splice_one, idxA, Ex.isNormal, List.set_nil, List.length_set, List.all_cons, List.all_nil, Bool.and_self, and_self, true_and, and_true, List.getElem?_nil, Int.reduceLT, Int.reduceLE, Int.reduceToNat, Int.toNat_zero, Int.toNat_one, Int.reduceAdd, Int.reduceSub, Int.reduceMul, Int.reduceNeg, Int.reduceBEq, Int.reduceBNe, Int.reduceGE, Int.reduceGT, Nat.reduceLT, trim_keep, under_fn, under_ptr, under_sl, Nat.lt_irrefl, not_lt_add, trim_tail, keepOk, ABlk.vals, Int.cast_ofNat_Int, decide_true, decide_false, List.all_cons, List.all_nil, Nat.zero_mul, Nat.mul_one, Nat.one_mul, wl, hd, seqR_exit', outs_normal]
  exact exF2 rfl rfl
 | succ m ih =>
  intro i b j105 j106 j107 j108 j109 j110 j111 j112 j113 j114 j115 j116 j117 j118 j119 hi
  have hlt : i < u.length := by omega
  have hd : decide ((i : Int) < (u.length : Int)) = true := decide_eq_true (by omega)
  have e2 : IntKind.i64.wrap ((i : Int) + 1) = ((i + 1 : Nat) : Int) := by rw [wrap64 (by omega) (by omega)]; omega
  have hx := List.getElem?_eq_getElem hlt
  rw [List.drop_eq_getElem_cons hlt, List.any_cons, ← Bool.or_assoc]
  generalize u[i] = y at *
  obtain ⟨ad, ix, ld⟩ := g.idx hx .i64
  have key := fun b => ih (i + 1) b
  generalize hq : (y == x) = q
  rw [lo]
  unfold l3x1
  cases b with
  | true =>
   simp -implicitDefEqProofs (maxSteps := 5000000) only [go_sem, Nat.reduceShiftRight, Nat.reduceAnd, Nat.reduceBNe, Int.reduceEq, Nat.reduceAdd, Nat.reduceSub, Nat.reduceMul, Nat.reduceLeDiff, reduceIte, reduceCtorEq, Nat.reduceBEq, Nat.reduceEqDiff, wrap64, runC_loop, runC_range, callF_fn, callV_fn, callV_yld, yield_eq, yieldBody, yieldRaw, roundMid, roundEnd, rangeEnd, Bool.not_not, put_cons, put_nil, trim_same, at_zero, at_add, set_zero, set_add, store_one, write_zero, write_add, write_head, write_succ, splice_one, splice_more, List.drop_nil, List.take_nil, cell_int, cell_bool, fillS, splice_one, idxA, Ex.isNormal, List.set_nil, List.length_set, List.all_cons, List.all_nil, Bool.and_self, and_self, true_and, and_true, List.getElem?_nil, Int.reduceLT, Int.reduceLE, Int.reduceToNat, Int.toNat_zero, Int.toNat_one, Int.reduceAdd, Int.reduceSub, Int.reduceMul, Int.reduceNeg, Int.reduceBEq, Int.reduceBNe, Int.reduceGE, Int.reduceGT, Nat.reduceLT, trim_keep, under_fn, under_ptr, under_sl, Nat.lt_irrefl, not_lt_add, trim_tail, keepOk, ABlk.vals, Int.cast_ofNat_Int, decide_true, decide_false, List.all_cons, List.all_nil, Nat.zero_mul, Nat.mul_one, Nat.one_mul, wl, hd, e2]
   exact key true _ _ _ _ _ _ _ _ _ _ _ _ _ _ _ (by omega)
  | false =>
   simp -implicitDefEqProofs (maxSteps := 5000000) only [go_sem, Nat.reduceShiftRight, Nat.reduceAnd, Nat.reduceBNe, Int.reduceEq, Nat.reduceAdd, Nat.reduceSub, Nat.reduceMul, Nat.reduceLeDiff, reduceIte, reduceCtorEq, Nat.reduceBEq, Nat.reduceEqDiff, wrap64, runC_loop, runC_range, callF_fn, callV_fn, callV_yld, yield_eq, yieldBody, yieldRaw, roundMid, roundEnd, rangeEnd, Bool.not_not, put_cons, put_nil, trim_same, at_zero, at_add, set_zero, set_add, store_one, write_zero, write_add, write_head, write_succ, splice_one, splice_more, List.drop_nil, List.take_nil, cell_int, cell_bool, fillS, splice_one, idxA, Ex.isNormal, List.set_nil, List.length_set, List.all_cons, List.all_nil, Bool.and_self, and_self, true_and, and_true, List.getElem?_nil, Int.reduceLT, Int.reduceLE, Int.reduceToNat, Int.toNat_zero, Int.toNat_one, Int.reduceAdd, Int.reduceSub, Int.reduceMul, Int.reduceNeg, Int.reduceBEq, Int.reduceBNe, Int.reduceGE, Int.reduceGT, Nat.reduceLT, trim_keep, under_fn, under_ptr, under_sl, Nat.lt_irrefl, not_lt_add, trim_tail, keepOk, ABlk.vals, Int.cast_ofNat_Int, decide_true, decide_false, List.all_cons, List.all_nil, Nat.zero_mul, Nat.mul_one, Nat.one_mul, wl, hd, ix, ld, hq, e2]
   exact key q _ _ _ _ _ _ _ _ _ _ _ _ _ _ _ (by omega)
end
theorem any_mem {u : List Int} {x : Int} : u.any (· == x) = decide (x ∈ u) := by
 rw [Bool.eq_iff_iff, List.any_eq_true, decide_eq_true_eq]
 constructor
 ·rintro ⟨y, hy, e⟩; rw [beq_iff_eq] at e; rw [← e]; exact hy
 ·intro h; exact ⟨x, h, by simp⟩
end Go.Proofs.Ytfioahnogphnfaa.G12
end
section
namespace Go.Proofs.Ytfioahnogphnfaa.G12
open Go Go.Proofs.Ytfioahnogphnfaa.Eng
section
variable {K : AHeap} {v l : AV} {u : List Int} (g : IS K v u) (lu : u.length ≤ 1000000) {A k : Nat} (hA : A ≤ 1000000) (hk : k ≤ (freeB u A).length) (gl : IS K l ((freeB u A).take k))
include g lu hA hk gl
set_option maxHeartbeats 4000000 in
theorem apL2 (x0 x1 x2 x3 x7 x8 x10 x15 x16 x17 x18 x19 x20 x21 x22 x23 x24 x25 x26 x27 x28 x29 x30 x31 x32 x33 x34 x35 x36 x37 x38 x39 x40 x41 x42 x43 x44 x45 x46 x47 x48 x49 x50 x51 x52 x53 x54 x55 x56 x57 x58 x59 x60 x61 x62 x63 x64 x65 x66 x67 x68 x69 x70 x71 x72 x73 x74 x75 x76 x77 x78 x79 x80 x81 x82 x83 x84 x85 x86 x87 x88 x89 x90 x91 x92 x93 x130 x131 x132 x133 x134 x135 x136 x137 x138 x139 x140 x141 x142 x143 x144 x145 : AV) : ∀ (m w : Nat) (j13 j14 j94 j95 j96 j97 j98 j99 j100 j101 j102 j103 j104 j105 j106 j107 j108 j109 j110 j111 j112 j113 j114 j115 j116 j117 j118 j119 j120 j121 j122 j123 j124 j125 j126 j127 j128 j129 : AV), w + m = A → (freeB u w).length ≤ k →
  Outs (LZ l3x2 [x0, x1, x2, x3, .bool false, .int .i64 (A : Int), v, x7, x8, l, x10, .int .i64 ((freeB u w).length : Int), .int .i64 (w : Int), j13, j14, x15, x16, x17, x18, x19, x20, x21, x22, x23, x24, x25, x26, x27, x28, x29, x30, x31, x32, x33, x34, x35, x36, x37, x38, x39, x40, x41, x42, x43, x44, x45, x46, x47, x48, x49, x50, x51, x52, x53, x54, x55, x56, x57, x58, x59, x60, x61, x62, x63, x64, x65, x66, x67, x68, x69, x70, x71, x72, x73, x74, x75, x76, x77, x78, x79, x80, x81, x82, x83, x84, x85, x86, x87, x88, x89, x90, x91, x92, x93, j94, j95, j96, j97, j98, j99, j100, j101, j102, j103, j104, j105, j106, j107, j108, j109, j110, j111, j112, j113, j114, j115, j116, j117, j118, j119, j120, j121, j122, j123, j124, j125, j126, j127, j128, j129, x130, x131, x132, x133, x134, x135, x136, x137, x138, x139, x140, x141, x142, x143, x144, x145] K) fun e t K' => e = .exit 2 ∧ K' = K ∧ ∃ fv : Nat → AV, t = [x0, x1, x2, x3, (fv 4), .int .i64 (A : Int), v, x7, x8, l, x10, (fv 11), (fv 12), (fv 13), (fv 14), x15, x16, x17, x18, x19, x20, x21, x22, x23, x24, x25, x26, x27, x28, x29, x30, x31, x32, x33, x34, x35, x36, x37, x38, x39, x40, x41, x42, x43, x44, x45, x46, x47, x48, x49, x50, x51, x52, x53, x54, x55, x56, x57, x58, x59, x60, x61, x62, x63, x64, x65, x66, x67, x68, x69, x70, x71, x72, x73, x74, x75, x76, x77, x78, x79, x80, x81, x82, x83, x84, x85, x86, x87, x88, x89, x90, x91, x92, x93, (fv 94), (fv 95), (fv 96), (fv 97), (fv 98), (fv 99), (fv 100), (fv 101), (fv 102), (fv 103), (fv 104), (fv 105), (fv 106), (fv 107), (fv 108), (fv 109), (fv 110), (fv 111), (fv 112), (fv 113), (fv 114), (fv 115), (fv 116), (fv 117), (fv 118), (fv 119), (fv 120), (fv 121), (fv 122), (fv 123), (fv 124), (fv 125), (fv 126), (fv 127), (fv 128), (fv 129), x130, x131, x132, x133, x134, x135, x136, x137, x138, x139, x140, x141, x142, x143, x144, x145] ∧ fv 4 = .bool false ∧ fv 11 = .int .i64 (k : Int) := by
 intro m
 obtain ⟨L0, hL0⟩ : ∃ L, L = LZ l3x2 := ⟨_, rfl⟩
 have lo := loop_open hL0
 have ll : ((freeB u A).take k).length = k := by rw [List.length_take]; omega
 have wl := gl.len
 rw [ll] at wl
 have fle := freeB_le u A
 rw [← hL0]
 induction m with
 | zero =>
  intro w j13 j14 j94 j95 j96 j97 j98 j99 j100 j101 j102 j103 j104 j105 j106 j107 j108 j109 j110 j111 j112 j113 j114 j115 j116 j117 j118 j119 j120 j121 j122 j123 j124 j125 j126 j127 j128 j129 hw hl
  obtain rfl : w = A := by omega
  have hd : decide ((w : Int) < (w : Int)) = false := by simp
  rw [lo]
  unfold l3x2
  simp -implicitDefEqProofs (maxSteps := 5000000) only [go_sem, Nat.reduceShiftRight, Nat.reduceAnd, Nat.reduceBNe, Int.reduceEq, Nat.reduceAdd, Nat.reduceSub, Nat.reduceMul, Nat.reduceLeDiff, reduceIte, reduceCtorEq, Nat.reduceBEq, Nat.reduceEqDiff, wrap64, runC_loop, runC_range, callF_fn, callV_fn, callV_yld, yield_eq, yieldBody, yieldRaw, roundMid, roundEnd, rangeEnd, Bool.not_not, put_cons, put_nil, trim_same, at_zero, at_add, set_zero, set_add, store_one, write_zero, write_add, write_head, write_succ, splice_one, splice_more, List.drop_nil, List.take_nil, cell_int, cell_bool, fillS, splice_one, idxA, Ex.isNormal, List.set_nil, List.length_set, List.all_cons, List.all_nil, Bool.and_self, and_self, true_and, and_true, List.getElem?_nil, Int.reduceLT, Int.reduceLE, Int.reduceToNat, Int.toNat_zero, Int.toNat_one, Int.reduceAdd, Int.reduceSub, Int.reduceMul, Int.reduceNeg, Int.reduceBEq, Int.reduceBNe, Int.reduceGE, Int.reduceGT, Nat.reduceLT, trim_keep, under_fn, under_ptr, under_sl, Nat.lt_irrefl, not_lt_add, trim_tail, keepOk, ABlk.vals, Int.cast_ofNat_Int, decide_true, decide_false, List.all_cons, List.all_nil, Nat.zero_mul, Nat.mul_one, Nat.one_mul, hd, seqR_exit', outs_normal]
  exact exF2 rfl ⟨rfl, by show AV.int .i64 ((freeB u w).length : Int) = _; congr 1; omega⟩
 | succ m ih =>
  intro w j13 j14 j94 j95 j96 j97 j98 j99 j100 j101 j102 j103 j104 j105 j106 j107 j108 j109 j110 j111 j112 j113 j114 j115 j116 j117 j118 j119 j120 j121 j122 j123 j124 j125 j126 j127 j128 j129 hw hl
  have hd : decide ((w : Int) < (A : Int)) = true := decide_eq_true (by omega)
  have e2 : IntKind.i64.wrap ((w : Int) + 1) = ((w + 1 : Nat) : Int) := by rw [wrap64 (by omega) (by omega)]; omega
  by_cases hlk : (freeB u w).length < k
  ·have dk : decide (((freeB u w).length : Int) < (k : Int)) = true := decide_eq_true (by omega)
   have l1 := apL1 g lu (w : Int) (m := u.length) (i := 0) (b := false)
   rw [show ((0 : Nat) : Int) = 0 from rfl, List.drop_zero, Bool.false_or, any_mem] at l1
   have key := ih (w + 1)
   rw [lo]
   unfold l3x2
   simp -implicitDefEqProofs (maxSteps := 5000000) only [go_sem, Nat.reduceShiftRight, Nat.reduceAnd, Nat.reduceBNe, Int.reduceEq, Nat.reduceAdd, Nat.reduceSub, Nat.reduceMul, Nat.reduceLeDiff, reduceIte, reduceCtorEq, Nat.reduceBEq, Nat.reduceEqDiff, wrap64, runC_loop, runC_range, callF_fn, callV_fn, callV_yld, yield_eq, yieldBody, yieldRaw, roundMid, roundEnd, rangeEnd, Bool.not_not, put_cons, put_nil, trim_same, at_zero, at_add, set_zero, set_add, store_one, write_zero, write_add, write_head, write_succ, splice_one, splice_more, List.drop_nil, List.take_nil, cell_int, cell_bool, fillS, splice_one, idxA, Ex.isNormal, List.set_nil, List.length_set, List.all_cons, List.all_nil, Bool.and_self, and_self, true_and, and_true, List.getElem?_nil, Int.reduceLT, Int.reduceLE, Int.reduceToNat, Int.toNat_zero, Int.toNat_one, Int.reduceAdd, Int.reduceSub, Int.reduceMul, Int.reduceNeg, Int.reduceBEq, Int.reduceBNe, Int.reduceGE, Int.reduceGT, Nat.reduceLT, trim_keep, under_fn, under_ptr, under_sl, Nat.lt_irrefl, not_lt_add, trim_tail, keepOk, ABlk.vals, Int.cast_ofNat_Int, decide_true, decide_false, List.all_cons, List.all_nil, Nat.zero_mul, Nat.mul_one, Nat.one_mul, runC_loop, x_loop, wl, hd, dk]
   unfold LZ at l1
   generalize (envL prog).loop (runC (envX prog X4) (l3x1 (envX prog X4))) = LL at l1 ⊢
   refine outs_ctx (fun r => seqR (seqR (blockR 3 (seqR (blockR 4 r) _)) _) _) (l1 _ _ _ _ _ _ _ _ _ _ _ _ _ _ _ _ _ _ _ _ _ _ _ _ _ _ _ _ _ _ _ _ _ _ _ _ _ _ _ _ _ _ _ _ _ _ _ _ _ _ _ _ _ _ _ _ _ _ _ _ _ _ _ _ _ _ _ _ _ _ _ _ _ _ _ _ _ _ _ _ _ _ _ _ _ _ _ _ _ _ _ _ _ _ _ _ _ _ _ _ _ _ _ _ _ _ _ _ _ _ _ _ _ _ _ _ _ _ _ _ _ _ _ _ _ _ _ _ _ _ _ _ _ _ _ _ _ _ _ _ _ _ (by omega)) ?_
   rintro e t K' ⟨rfl, rfl, fv, rfl, f13⟩
   by_cases hu : (w : Int) ∈ u
   ·rw [decide_eq_true hu] at f13
    have hf : freeB u (w + 1) = freeB u w := by rw [freeB, if_pos hu, List.append_nil]
    rw [hf] at key
    simp -implicitDefEqProofs (maxSteps := 5000000) only [go_sem, Nat.reduceShiftRight, Nat.reduceAnd, Nat.reduceBNe, Int.reduceEq, Nat.reduceAdd, Nat.reduceSub, Nat.reduceMul, Nat.reduceLeDiff, reduceIte, reduceCtorEq, Nat.reduceBEq, Nat.reduceEqDiff, wrap64, runC_loop, runC_range, callF_fn, callV_fn, callV_yld, yield_eq, yieldBody, yieldRaw, roundMid, roundEnd, rangeEnd, Bool.not_not, put_cons, put_nil, trim_same, at_zero, at_add, set_zero, set_add, store_one, write_zero, write_add, write_head, write_succ, splice_one, splice_more, List.drop_nil, List.take_nil, cell_int, cell_bool, fillS, splice_one, idxA, Ex.isNormal, List.set_nil, List.length_set, List.all_cons, List.all_nil, Bool.and_self, and_self, true_and, and_true, List.getElem?_nil, Int.reduceLT, Int.reduceLE, Int.reduceToNat, Int.toNat_zero, Int.toNat_one, Int.reduceAdd, Int.reduceSub, Int.reduceMul, Int.reduceNeg, Int.reduceBEq, Int.reduceBNe, Int.reduceGE, Int.reduceGT, Nat.reduceLT, trim_keep, under_fn, under_ptr, under_sl, Nat.lt_irrefl, not_lt_add, trim_tail, keepOk, ABlk.vals, Int.cast_ofNat_Int, decide_true, decide_false, List.all_cons, List.all_nil, Nat.zero_mul, Nat.mul_one, Nat.one_mul, f13, e2]
    exact key _ _ _ _ _ _ _ _ _ _ _ _ _ _ _ _ _ _ _ _ _ _ _ _ _ _ _ _ _ _ _ _ _ _ _ _ _ _ (by omega) hl
   ·rw [decide_eq_false hu] at f13
    have hf : freeB u (w + 1) = freeB u w ++ [(w : Int)] := by rw [freeB, if_neg hu]
    have hl1 : (freeB u (w + 1)).length = (freeB u w).length + 1 := by rw [hf, List.length_append]; rfl
    have at_ : ((freeB u A).take k)[(freeB u w).length]? = some (w : Int) := by
     rw [List.getElem?_take, if_pos hlk]
     have hp := freeB_pre u (w + 1) (A - (w + 1))
     rw [show w + 1 + (A - (w + 1)) = A by omega] at hp
     have := congrArg (fun l : List Int => l[(freeB u w).length]?) hp
     simp only [List.getElem?_take] at this
     rw [if_pos (by omega)] at this
     rw [this, hf, List.getElem?_append_right (Nat.le_refl _), Nat.sub_self]; rfl
    obtain ⟨ad, ix, ld⟩ := gl.idx at_ .i64
    have nn : ((w : Int) != (w : Int)) = false := by simp
    have s1 : IntKind.i64.wrap (((freeB u w).length : Int) + 1) = ((freeB u (w + 1)).length : Int) := by rw [wrap64 (by omega) (by omega)]; omega
    simp -implicitDefEqProofs (maxSteps := 5000000) only [go_sem, Nat.reduceShiftRight, Nat.reduceAnd, Nat.reduceBNe, Int.reduceEq, Nat.reduceAdd, Nat.reduceSub, Nat.reduceMul, Nat.reduceLeDiff, reduceIte, reduceCtorEq, Nat.reduceBEq, Nat.reduceEqDiff, wrap64, runC_loop, runC_range, callF_fn, callV_fn, callV_yld, yield_eq, yieldBody, yieldRaw, roundMid, roundEnd, rangeEnd, Bool.not_not, put_cons, put_nil, trim_same, at_zero, at_add, set_zero, set_add, store_one, write_zero, write_add, write_head, write_succ, splice_one, splice_more, List.drop_nil, List.take_nil, cell_int, cell_bool, fillS, splice_one, idxA, Ex.isNormal, List.set_nil, List.length_set, List.all_cons, List.all_nil, Bool.and_self, and_self, true_and, and_true, List.getElem?_nil, Int.reduceLT, Int.reduceLE, Int.reduceToNat, Int.toNat_zero, Int.toNat_one, Int.reduceAdd, Int.reduceSub, Int.reduceMul, Int.reduceNeg, Int.reduceBEq, Int.reduceBNe, Int.reduceGE, Int.reduceGT, Nat.reduceLT, trim_keep, under_fn, under_ptr, under_sl, Nat.lt_irrefl, not_lt_add, trim_tail, keepOk, ABlk.vals, Int.cast_ofNat_Int, decide_true, decide_false, List.all_cons, List.all_nil, Nat.zero_mul, Nat.mul_one, Nat.one_mul, f13, ix, ld, nn, s1, e2]
    exact key _ _ _ _ _ _ _ _ _ _ _ _ _ _ _ _ _ _ _ _ _ _ _ _ _ _ _ _ _ _ _ _ _ _ _ _ _ _ (by omega) (by omega)
  ·have dk : decide (((freeB u w).length : Int) < (k : Int)) = false := decide_eq_false (by omega)
   rw [lo]
   unfold l3x2
   simp -implicitDefEqProofs (maxSteps := 5000000) only [go_sem, Nat.reduceShiftRight, Nat.reduceAnd, Nat.reduceBNe, Int.reduceEq, Nat.reduceAdd, Nat.reduceSub, Nat.reduceMul, Nat.reduceLeDiff, reduceIte, reduceCtorEq, Nat.reduceBEq, Nat.reduceEqDiff, wrap64, runC_loop, runC_range, callF_fn, callV_fn, callV_yld, yield_eq, yieldBody, yieldRaw, roundMid, roundEnd, rangeEnd, Bool.not_not, put_cons, put_nil, trim_same, at_zero, at_add, set_zero, set_add, store_one, write_zero, write_add, write_head, write_succ, splice_one, splice_more, List.drop_nil, List.take_nil, cell_int, cell_bool, fillS, splice_one, idxA, Ex.isNormal, List.set_nil, List.length_set, List.all_cons, List.all_nil, Bool.and_self, and_self, true_and, and_true, List.getElem?_nil, Int.reduceLT, Int.reduceLE, Int.reduceToNat, Int.toNat_zero, Int.toNat_one, Int.reduceAdd, Int.reduceSub, Int.reduceMul, Int.reduceNeg, Int.reduceBEq, Int.reduceBNe, Int.reduceGE, Int.reduceGT, Nat.reduceLT, trim_keep, under_fn, under_ptr, under_sl, Nat.lt_irrefl, not_lt_add, trim_tail, keepOk, ABlk.vals, Int.cast_ofNat_Int, decide_true, decide_false, List.all_cons, List.all_nil, Nat.zero_mul, Nat.mul_one, Nat.one_mul, wl, hd, dk, seqR_exit', outs_normal]
   exact exF2 rfl ⟨rfl, by show AV.int .i64 ((freeB u w).length : Int) = _; congr 1; omega⟩
end
theorem tmod_nat' {n m : Int} (h : 0 ≤ n) (hm : 0 < m) : ∃ i : Nat, n.tmod m = i ∧ (i : Int) < m := by
 have := tmod_nat h hm
 exact ⟨(n.tmod m).toNat, (Int.toNat_of_nonneg this.1).symm, by rw [Int.toNat_of_nonneg this.1]; exact this.2⟩
set_option maxHeartbeats 32000000 in
theorem poolApart (vd vs vp : AV) (nx kd pd n0 n1 : Int) (k0 : 0 ≤ n0 ∧ n0 ≤ 255) (k1 : 0 ≤ n1 ∧ n1 ≤ 255) (h : AHeap) (dd : DatC h (.sl [.int .i64]) vd) (ds : DatC h (.sl [.int .i64, .sl [.int .u8], .sl [.int .i64, .int .i64]]) vs) (dp : DatC h (.sl [.int .i64, .int .i64]) vp) : ∃ h', callBody prog (envX prog X4) 3 [.agg [vd, vs, .int .i64 nx, .int .i64 kd, .int .i64 pd, vp], .agg [.int .u8 n0, .int .u8 n1]] h = some (.bool true, h') := by
 obtain ⟨L, gs, ln, hL⟩ := snaps_dat ds
 obtain ⟨P, gp, np, _⟩ := pairs_isP dp
 obtain ⟨rows, gd, _, nd⟩ := dd.rows
 have wd := gd.len
 have cd : cellsA vd = some [vd] ∧ vd.isCell = true := by cases dd <;> exact ⟨rfl, rfl⟩
 rw [d3]
 refine of_outs ?_
 unfold b3
 generalize hQ : (fun (e : Ex) (t : T) (h1 : AHeap) => fin [.tmp 4] (some (e, t, h1)) = some (AV.bool true, h1)) = Q
 obtain ⟨h0, e0⟩ : ∃ h0, h0 = h ++ [ABlk.rw [vd, vs, .int .i64 nx, .int .i64 kd, .int .i64 pd, vp], .rw [.int .u8 n0, .int .u8 n1]] := ⟨_, rfl⟩
 have a0 : Adds h h0 := ⟨_, e0⟩
 have cs0 : cellsOf h0 h.length = some [vd, vs, .int .i64 nx, .int .i64 kd, .int .i64 pd, vp] := by rw [e0]; unfold cellsOf; simp
 have cn0 : cellsOf h0 (h.length + 1) = some [.int .u8 n0, .int .u8 n1] := by rw [e0]; unfold cellsOf; simp
 have e0 := e0.symm
 have gs0 := gs.adds a0
 have gp0 := gp.adds a0
 have ks := gs.cell.2
 have kp := gp.cell.2
 have w0 : IntKind.i64.wrap n0 = n0 := wrap64 (by omega) (by omega)
 have w1 : IntKind.i64.wrap n1 = n1 := wrap64 (by omega) (by omega)
 have r0 := int_rem .none .i64 n0 201 (by omega)
 have r1 := int_rem .none .i64 n1 20 (by omega)
 obtain ⟨A, hA, hA1⟩ := tmod_nat' k0.1 (show (0 : Int) < 201 by omega)
 obtain ⟨k, hk, hk1⟩ := tmod_nat' k1.1 (show (0 : Int) < 20 by omega)
 rw [hA] at r0
 rw [hk] at r1
 have ef := fairC12 (nx := nx) (kd := kd) (pd := pd) gs0 gp0 wd cd.2 ⟨ln, fun s hs => ⟨(hL s hs).2.2.1, (hL s hs).2.2.2.1⟩⟩
 rcases hf : fair12 L rows.length P with _ | _ <;> rw [hf] at ef
 ·simp -implicitDefEqProofs (maxSteps := 5000000) only [go_sem, Nat.reduceShiftRight, Nat.reduceAnd, Nat.reduceBNe, Int.reduceEq, Nat.reduceAdd, Nat.reduceSub, Nat.reduceMul, Nat.reduceLeDiff, reduceIte, reduceCtorEq, Nat.reduceBEq, Nat.reduceEqDiff, wrap64, runC_loop, runC_range, callF_fn, callV_fn, callV_yld, yield_eq, yieldBody, yieldRaw, roundMid, roundEnd, rangeEnd, Bool.not_not, put_cons, put_nil, trim_same, at_zero, at_add, set_zero, set_add, store_one, write_zero, write_add, write_head, write_succ, splice_one, splice_more, List.drop_nil, List.take_nil, cell_int, cell_bool, fillS, splice_one, idxA, Ex.isNormal, List.set_nil, List.length_set, List.all_cons, List.all_nil, Bool.and_self, and_self, true_and, and_true, List.getElem?_nil, Int.reduceLT, Int.reduceLE, Int.reduceToNat, Int.toNat_zero, Int.toNat_one, Int.reduceAdd, Int.reduceSub, Int.reduceMul, Int.reduceNeg, Int.reduceBEq, Int.reduceBNe, Int.reduceGE, Int.reduceGT, Nat.reduceLT, trim_keep, under_fn, under_ptr, under_sl, Nat.lt_irrefl, not_lt_add, trim_tail, keepOk, ABlk.vals, Int.cast_ofNat_Int, decide_true, decide_false, List.all_cons, List.all_nil, Nat.zero_mul, Nat.mul_one, Nat.one_mul, idx_arr, cellsA_agg, cd.2, ks, kp, e0, cs0, cn0, w0, r0, hA, x4_call, ef, x4_wakes, outs_normal]
  subst hQ
  simp -implicitDefEqProofs (maxSteps := 5000000) only [go_sem, Nat.reduceShiftRight, Nat.reduceAnd, Nat.reduceBNe, Int.reduceEq, Nat.reduceAdd, Nat.reduceSub, Nat.reduceMul, Nat.reduceLeDiff, reduceIte, reduceCtorEq, Nat.reduceBEq, Nat.reduceEqDiff]
 unfold fair12 at hf
 rw [Bool.and_eq_true, Bool.and_eq_true, decide_eq_true_eq, decide_eq_true_eq] at hf
 have fi := (fairS_fair hf.1 fun s hs => (hL s hs).2.1).fits
 have sa : SA h0 [vd, vs, .int .i64 nx, .int .i64 kd, .int .i64 pd, vp] L P := ⟨⟨vd, vs, nx, kd, pd, vp, rfl, gs0, gp0, cd⟩, fi, by omega⟩
 have lu := usedS_len sa.fi sa.lp
 have up : (usedS L P).Pairwise (· < ·) := usd_up _
 obtain ⟨v, K1, eu, A1, i1, _⟩ := usedC sa
 have eu := x4_used eu
 have s1 := sa.adds A1
 have c1 := A1.cells cs0
 have cn1 := A1.cells cn0
 have l0 := apL0 i1 up lu A (by omega) (m := (usedS L P).length) (i := 0)
 rw [show ((0 : Nat) : Int) = 0 from rfl, List.take_zero, wth_nil, show ((0 : Nat) : Int) = 0 from rfl] at l0
 have efr := x4_free (freeC s1 (A : Int) (by omega))
 have fa := free_all (up_nodup up) A
 rw [freeN_len up A] at efr
 have q1 : IntKind.i64.wrap ((A : Int) - (wth (A : Int) (usedS L P) : Int)) = ((freeB (usedS L P) A).length : Int) := by rw [wrap64 (by omega) (by omega)]; omega
 have nn : ∀ x : Int, (x != x) = false := fun x => by simp
 obtain ⟨l, K2, et, A2, i2⟩ := takeC s1 A (by omega) (k : Int)
 have et := x4_take et
 have cn2 := A2.cells cn1
 simp -implicitDefEqProofs (maxSteps := 5000000) only [go_sem, Nat.reduceShiftRight, Nat.reduceAnd, Nat.reduceBNe, Int.reduceEq, Nat.reduceAdd, Nat.reduceSub, Nat.reduceMul, Nat.reduceLeDiff, reduceIte, reduceCtorEq, Nat.reduceBEq, Nat.reduceEqDiff, wrap64, runC_loop, runC_range, callF_fn, callV_fn, callV_yld, yield_eq, yieldBody, yieldRaw, roundMid, roundEnd, rangeEnd, Bool.not_not, put_cons, put_nil, trim_same, at_zero, at_add, set_zero, set_add, store_one, write_zero, write_add, write_head, write_succ, splice_one, splice_more, List.drop_nil, List.take_nil, cell_int, cell_bool, fillS, splice_one, idxA, Ex.isNormal, List.set_nil, List.length_set, List.all_cons, List.all_nil, Bool.and_self, and_self, true_and, and_true, List.getElem?_nil, Int.reduceLT, Int.reduceLE, Int.reduceToNat, Int.toNat_zero, Int.toNat_one, Int.reduceAdd, Int.reduceSub, Int.reduceMul, Int.reduceNeg, Int.reduceBEq, Int.reduceBNe, Int.reduceGE, Int.reduceGT, Nat.reduceLT, trim_keep, under_fn, under_ptr, under_sl, Nat.lt_irrefl, not_lt_add, trim_tail, keepOk, ABlk.vals, Int.cast_ofNat_Int, decide_true, decide_false, List.all_cons, List.all_nil, Nat.zero_mul, Nat.mul_one, Nat.one_mul, idx_arr, runC_loop, x_loop, cellsA_agg, cd.2, ks, kp, e0, cs0, cn0, w0, r0, hA, x4_call, ef, eu]
 unfold LZ at l0
 generalize (envL prog).loop (runC (envX prog X4) (l3x0 (envX prog X4))) = LL at l0 ⊢
 refine outs_ctx (fun r => seqR (blockR 0 r) _) (l0 _ _ _ _ _ _ _ _ _ _ _ _ _ _ _ _ _ _ _ _ _ _ _ _ _ _ _ _ _ _ _ _ _ _ _ _ _ _ _ _ _ _ _ _ _ _ _ _ _ _ _ _ _ _ _ _ _ _ _ _ _ _ _ _ _ _ _ _ _ _ _ _ _ _ _ _ _ _ _ _ _ _ _ _ _ _ _ _ _ _ _ _ _ _ _ _ _ _ _ _ _ _ _ _ _ _ _ _ _ _ _ _ _ _ _ _ _ _ _ _ _ _ _ _ _ _ _ _ _ _ _ _ _ _ _ _ _ _ _ _ _ (by omega)) ?_
 rintro e t H6 ⟨rfl, rfl, fv, rfl, f4, f7⟩
 by_cases hlt : ((freeB (usedS L P) A).length : Int) < (k : Int)
 ·have ht : takeS (usedS L P) A (k : Int) = ([], 12) := by unfold takeS; rw [if_neg (by omega), if_pos hlt]
  rw [ht] at et
  have n12 : ((12 : Int) != 0) = true := rfl
  have e12 : ((12 : Int) == 12) = true := rfl
  have dg : decide ((k : Int) > ((freeB (usedS L P) A).length : Int)) = true := decide_eq_true hlt
  simp -implicitDefEqProofs (maxSteps := 5000000) only [go_sem, Nat.reduceShiftRight, Nat.reduceAnd, Nat.reduceBNe, Int.reduceEq, Nat.reduceAdd, Nat.reduceSub, Nat.reduceMul, Nat.reduceLeDiff, reduceIte, reduceCtorEq, Nat.reduceBEq, Nat.reduceEqDiff, wrap64, runC_loop, runC_range, callF_fn, callV_fn, callV_yld, yield_eq, yieldBody, yieldRaw, roundMid, roundEnd, rangeEnd, Bool.not_not, put_cons, put_nil, trim_same, at_zero, at_add, set_zero, set_add, store_one, write_zero, write_add, write_head, write_succ, splice_one, splice_more, List.drop_nil, List.take_nil, cell_int, cell_bool, fillS, splice_one, idxA, Ex.isNormal, List.set_nil, List.length_set, List.all_cons, List.all_nil, Bool.and_self, and_self, true_and, and_true, List.getElem?_nil, Int.reduceLT, Int.reduceLE, Int.reduceToNat, Int.toNat_zero, Int.toNat_one, Int.reduceAdd, Int.reduceSub, Int.reduceMul, Int.reduceNeg, Int.reduceBEq, Int.reduceBNe, Int.reduceGE, Int.reduceGT, Nat.reduceLT, trim_keep, under_fn, under_ptr, under_sl, Nat.lt_irrefl, not_lt_add, trim_tail, keepOk, ABlk.vals, Int.cast_ofNat_Int, decide_true, decide_false, List.all_cons, List.all_nil, Nat.zero_mul, Nat.mul_one, Nat.one_mul, idx_arr, f4, f7, c1, efr, q1, nn, cn1, w1, r1, hk, et, n12, e12, cn2, dg, x4_wakes, outs_normal]
  subst hQ
  simp -implicitDefEqProofs (maxSteps := 5000000) only [go_sem, Nat.reduceShiftRight, Nat.reduceAnd, Nat.reduceBNe, Int.reduceEq, Nat.reduceAdd, Nat.reduceSub, Nat.reduceMul, Nat.reduceLeDiff, reduceIte, reduceCtorEq, Nat.reduceBEq, Nat.reduceEqDiff]
 ·have ht : takeS (usedS L P) A (k : Int) = ((freeB (usedS L P) A).take k, 0) := by unfold takeS; rw [if_neg (by omega), if_neg hlt, Int.toNat_natCast]
  rw [ht] at et i2
  have n0' : ((0 : Int) != 0) = false := rfl
  have ll : ((freeB (usedS L P) A).take k).length = k := by rw [List.length_take]; omega
  have wl := i2.len
  rw [ll] at wl
  have l2 := apL2 (A2.is i1) lu (A := A) (k := k) (by omega) (by omega) i2 (m := A) (w := 0)
  rw [show ((0 : Nat) : Int) = 0 from rfl, show ((freeB (usedS L P) 0).length : Int) = 0 from rfl] at l2
  have kk : ((k : Int) == (k : Int)) = true := by simp
  simp -implicitDefEqProofs (maxSteps := 5000000) only [go_sem, Nat.reduceShiftRight, Nat.reduceAnd, Nat.reduceBNe, Int.reduceEq, Nat.reduceAdd, Nat.reduceSub, Nat.reduceMul, Nat.reduceLeDiff, reduceIte, reduceCtorEq, Nat.reduceBEq, Nat.reduceEqDiff, wrap64, runC_loop, runC_range, callF_fn, callV_fn, callV_yld, yield_eq, yieldBody, yieldRaw, roundMid, roundEnd, rangeEnd, Bool.not_not, put_cons, put_nil, trim_same, at_zero, at_add, set_zero, set_add, store_one, write_zero, write_add, write_head, write_succ, splice_one, splice_more, List.drop_nil, List.take_nil, cell_int, cell_bool, fillS, splice_one, idxA, Ex.isNormal, List.set_nil, List.length_set, List.all_cons, List.all_nil, Bool.and_self, and_self, true_and, and_true, List.getElem?_nil, Int.reduceLT, Int.reduceLE, Int.reduceToNat, Int.toNat_zero, Int.toNat_one, Int.reduceAdd, Int.reduceSub, Int.reduceMul, Int.reduceNeg, Int.reduceBEq, Int.reduceBNe, Int.reduceGE, Int.reduceGT, Nat.reduceLT, trim_keep, under_fn, under_ptr, under_sl, Nat.lt_irrefl, not_lt_add, trim_tail, keepOk, ABlk.vals, Int.cast_ofNat_Int, decide_true, decide_false, List.all_cons, List.all_nil, Nat.zero_mul, Nat.mul_one, Nat.one_mul, idx_arr, runC_loop, x_loop, f4, f7, c1, efr, q1, nn, cn1, w1, r1, hk, et, n0']
  unfold LZ at l2
  generalize (envL prog).loop (runC (envX prog X4) (l3x2 (envX prog X4))) = LL at l2 ⊢
  refine outs_ctx (fun r => seqR (blockR 2 r) _) (l2 _ _ _ _ _ _ _ _ _ _ _ _ _ _ _ _ _ _ _ _ _ _ _ _ _ _ _ _ _ _ _ _ _ _ _ _ _ _ _ _ _ _ _ _ _ _ _ _ _ _ _ _ _ _ _ _ _ _ _ _ _ _ _ _ _ _ _ _ _ _ _ _ _ _ _ _ _ _ _ _ _ _ _ _ _ _ _ _ _ _ _ _ _ _ _ _ _ _ _ _ _ _ _ _ _ _ _ _ _ _ _ _ _ _ _ _ _ _ _ _ _ _ _ _ _ _ _ _ _ _ _ _ _ _ _ _ _ _ _ _ (by omega) (Nat.zero_le _)) ?_
  rintro e t H7 ⟨rfl, rfl, fw, rfl, g4, g11⟩
  simp -implicitDefEqProofs (maxSteps := 5000000) only [go_sem, Nat.reduceShiftRight, Nat.reduceAnd, Nat.reduceBNe, Int.reduceEq, Nat.reduceAdd, Nat.reduceSub, Nat.reduceMul, Nat.reduceLeDiff, reduceIte, reduceCtorEq, Nat.reduceBEq, Nat.reduceEqDiff, wrap64, runC_loop, runC_range, callF_fn, callV_fn, callV_yld, yield_eq, yieldBody, yieldRaw, roundMid, roundEnd, rangeEnd, Bool.not_not, put_cons, put_nil, trim_same, at_zero, at_add, set_zero, set_add, store_one, write_zero, write_add, write_head, write_succ, splice_one, splice_more, List.drop_nil, List.take_nil, cell_int, cell_bool, fillS, splice_one, idxA, Ex.isNormal, List.set_nil, List.length_set, List.all_cons, List.all_nil, Bool.and_self, and_self, true_and, and_true, List.getElem?_nil, Int.reduceLT, Int.reduceLE, Int.reduceToNat, Int.toNat_zero, Int.toNat_one, Int.reduceAdd, Int.reduceSub, Int.reduceMul, Int.reduceNeg, Int.reduceBEq, Int.reduceBNe, Int.reduceGE, Int.reduceGT, Nat.reduceLT, trim_keep, under_fn, under_ptr, under_sl, Nat.lt_irrefl, not_lt_add, trim_tail, keepOk, ABlk.vals, Int.cast_ofNat_Int, decide_true, decide_false, List.all_cons, List.all_nil, Nat.zero_mul, Nat.mul_one, Nat.one_mul, idx_arr, g4, g11, wl, kk, cn2, w1, r1, hk, x4_wakes, outs_normal]
  subst hQ
  simp -implicitDefEqProofs (maxSteps := 5000000) only [go_sem, Nat.reduceShiftRight, Nat.reduceAnd, Nat.reduceBNe, Int.reduceEq, Nat.reduceAdd, Nat.reduceSub, Nat.reduceMul, Nat.reduceLeDiff, reduceIte, reduceCtorEq, Nat.reduceBEq, Nat.reduceEqDiff]
end Go.Proofs.Ytfioahnogphnfaa.G12
end
