/- What the functions that WaysPlays reaches answer, for every argument. No condition but those in each statement. -/
import Derived.Test.YtodoakeifdiidaaY6
set_option linter.unusedSimpArgs false
set_option linter.unusedVariables false
set_option maxRecDepth 10000
namespace Go.Proofs.Ytodoakeifdiidaa.G13
open Go Go.Proofs.Ytodoakeifdiidaa.Eng
theorem known : (knows 9).Ok prog := knows_ok (n := 12) (by kernel_rfl)
theorem idx_arr (n sz b o : Nat) (k : IntKind) (j : Int) : idxAddrA n sz (.ptr b o) (.int k j) = if 0 ≤ j ∧ j < n then some (.ptr b (o + j.toNat * sz)) else none := rfl
noncomputable abbrev EO := envO prog (knows 9)
set_option maxHeartbeats 8000000 in
theorem waysPlays (n0 n1 : Int) (vl : AV) (rows : List (List AV)) (h : AHeap) (rs : RS 4 h vl rows) (rk : ∀ r ∈ rows, RowOk stepKs r) : ∃ h', callBody prog EO 6 [.agg [.int .i64 n0, .int .i64 n1], vl] h = some (.bool true, h') := by
  have hl := rs.len
  rw [d6]
  unfold b6 EO
  refine of_outs ?_
  generalize hQ : (fun (e : Ex) (t : T) (h1 : AHeap) => fin [.tmp 4] (some (e, t, h1)) = some (AV.bool true, h1)) = Q
  obtain ⟨h0, e0⟩ : ∃ h0, h0 = h ++ [ABlk.rw [.int .i64 n0, .int .i64 n1]] := ⟨_, rfl⟩
  have a0 : Adds h h0 := ⟨_, e0⟩
  have cc : cellsOf h0 h.length = some [.int .i64 n0, .int .i64 n1] := by rw [e0]; unfold cellsOf; simp
  have e0 := e0.symm
  have lp (t : T) (h : AHeap) := loop_open (LP := LP l6x0) rfl t h
  by_cases g1 : rows.length > 200
  · have d1 : decide ((rows.length : Int) > 200) = true := decide_eq_true (by omega)
    simp -implicitDefEqProofs (maxSteps := 5000000) only [go_sem, Nat.reduceShiftRight, Nat.reduceAnd, Nat.reduceBNe, Int.reduceEq, Nat.reduceAdd, Nat.reduceSub, Nat.reduceMul, Nat.reduceLeDiff, reduceIte, reduceCtorEq, Nat.reduceBEq, Nat.reduceEqDiff, wrap64, runC_loop, runC_range, callF_fn, callV_fn, callV_yld, yield_eq, yieldBody, yieldRaw, roundMid, roundEnd, rangeEnd, Bool.not_not, put_cons, put_nil, trim_same, at_zero, at_add, set_zero, set_add, store_one, write_zero, write_add, write_head, write_succ, splice_one, splice_more, List.drop_nil, List.take_nil, cell_int, cell_bool, fillS, splice_one, idxA, Ex.isNormal, List.set_nil, List.length_set, List.all_cons, List.all_nil, Bool.and_self, and_self, true_and, and_true, List.getElem?_nil, Int.reduceLT, Int.reduceLE, Int.reduceToNat, Int.toNat_zero, Int.toNat_one, Int.reduceAdd, Int.reduceSub, Int.reduceMul, Int.reduceNeg, Int.reduceBEq, Int.reduceBNe, Int.reduceGE, Int.reduceGT, Nat.reduceLT, trim_keep, under_fn, under_ptr, under_sl, Nat.lt_irrefl, not_lt_add, trim_tail, keepOk, ABlk.vals, Int.cast_ofNat_Int, decide_true, decide_false, List.all_cons, List.all_nil, Nat.zero_mul, Nat.mul_one, Nat.one_mul, go_sem, hl, d1, o_wakes, o_call, e0, outs_normal]
    subst hQ
    simp -implicitDefEqProofs (maxSteps := 5000000) only [go_sem, Nat.reduceShiftRight, Nat.reduceAnd, Nat.reduceBNe, Int.reduceEq, Nat.reduceAdd, Nat.reduceSub, Nat.reduceMul, Nat.reduceLeDiff, reduceIte, reduceCtorEq, Nat.reduceBEq, Nat.reduceEqDiff, go_sem]
  have d1 : decide ((rows.length : Int) > 200) = false := decide_eq_false (by omega)
  by_cases hb : 1 ≤ n0 ∧ n0 ≤ 8 ∧ 1 ≤ n1 ∧ n1 ≤ 4
  · obtain ⟨b1, b2, b3, b4⟩ := hb
    obtain ⟨sets, rfl⟩ : ∃ sets : Nat, n0 = sets := ⟨n0.toNat, by omega⟩
    obtain ⟨ways, rfl⟩ : ∃ ways : Nat, n1 = ways := ⟨n1.toNat, by omega⟩
    obtain ⟨h1, m1, a1, c1⟩ := newC sets ways (by omega) (by omega) (by omega) (by omega) h0
    obtain ⟨h2, bb, hbb, m2, a2, c2⟩ := newRC sets ways (by omega) (by omega) (by omega) (by omega) h1
    have cc1 := a1.cells cc
    have m1' := m1.adds a2
    have lt1 : h0.length + 2 < h1.length := by
      have hm := m1.map
      unfold cellsOf at hm
      cases hx : h1[h0.length + 2]? with
      | none => rw [hx] at hm; cases hm
      | some k => exact at_lt hx
    have ap : Apart h0 (h0.length + 2) h0.length (h0.length + 1) (h1.length + 1) bb h1.length := ⟨by omega, by omega⟩
    have nf : NF (List.replicate (sets * ways) none') := by
      intro x _ _
      unfold sl
      rw [List.getElem?_replicate]; split <;> rfl
    have tw : Pair h0 h2 sets ways _ _ _ _ _ _ _ _ := ⟨m1', m2, a1.trans a2, nf⟩
    have sl := playsL (sets := sets) (ways := ways) ap (by omega) (rs.adds a0) rk (k := rows.length) (i := 0) (H := h2)
    rw [show ((0 : Nat) : Int) = 0 from rfl] at sl
    have hn0 : ((0 : Int) != 0) = false := rfl
    simp -implicitDefEqProofs (maxSteps := 5000000) only [go_sem, Nat.reduceShiftRight, Nat.reduceAnd, Nat.reduceBNe, Int.reduceEq, Nat.reduceAdd, Nat.reduceSub, Nat.reduceMul, Nat.reduceLeDiff, reduceIte, reduceCtorEq, Nat.reduceBEq, Nat.reduceEqDiff, wrap64, runC_loop, runC_range, callF_fn, callV_fn, callV_yld, yield_eq, yieldBody, yieldRaw, roundMid, roundEnd, rangeEnd, Bool.not_not, put_cons, put_nil, trim_same, at_zero, at_add, set_zero, set_add, store_one, write_zero, write_add, write_head, write_succ, splice_one, splice_more, List.drop_nil, List.take_nil, cell_int, cell_bool, fillS, splice_one, idxA, Ex.isNormal, List.set_nil, List.length_set, List.all_cons, List.all_nil, Bool.and_self, and_self, true_and, and_true, List.getElem?_nil, Int.reduceLT, Int.reduceLE, Int.reduceToNat, Int.toNat_zero, Int.toNat_one, Int.reduceAdd, Int.reduceSub, Int.reduceMul, Int.reduceNeg, Int.reduceBEq, Int.reduceBNe, Int.reduceGE, Int.reduceGT, Nat.reduceLT, trim_keep, under_fn, under_ptr, under_sl, Nat.lt_irrefl, not_lt_add, trim_tail, keepOk, ABlk.vals, Int.cast_ofNat_Int, decide_true, decide_false, List.all_cons, List.all_nil, Nat.zero_mul, Nat.mul_one, Nat.one_mul, go_sem, runC_loop, hl, d1, o_wakes, o_call, idx_arr, e0, cc, cc1, c1, c2, hn0]
    clear lp
    unfold LP at sl
    generalize (envL prog).loop (runC (envO prog (knows 9)) (l6x0 (envO prog (knows 9)))) = L at sl ⊢
    refine outs_ctx (fun r => seqR (blockR 0 r) _) (sl _ _ _ _ _ _ _ _ _ _ _ _ _ _ _ _ _ _ _ _ _ _ _ _ _ _ _ _ _ _ _ _ _ _ _ _ (S := _) (hs := _) _ _ _ _ _ _ _ _ _ _ _ _ _ _ _ _ _ _ _ _ _ _ _ _ _ _ _ _ _ _ _ _ _ _ _ _ _ _ _ _ _ _ _ _ _ _ _ _ _ _ _ _ _ _ _ _ _ _ _ _ _ _ _ _ _ _ _ _ _ _ _ _ _ _ _ _ _ _ _ _ _ _ _ _ _ _ _ _ _ _ _ _ _ _ _ _ _ _ _ _ _ _ _ _ _ _ _ _ _ _ _ _ _ _ _ _ _ _ _ _ _ _ _ _ _ _ _ _ _ _ _ _ _ _ _ _ _ _ _ _ _ _ _ _ _ _ _ _ _ _ _ _ _ _ _ _ _ _ _ _ _ _ _ _ _ _ _ _ _ _ _ _ tw (by omega)) ?_
    rintro e t H' ⟨rfl, k, rfl⟩
    simp -implicitDefEqProofs (maxSteps := 5000000) only [go_sem, Nat.reduceShiftRight, Nat.reduceAnd, Nat.reduceBNe, Int.reduceEq, Nat.reduceAdd, Nat.reduceSub, Nat.reduceMul, Nat.reduceLeDiff, reduceIte, reduceCtorEq, Nat.reduceBEq, Nat.reduceEqDiff, go_sem, o_wakes, o_call, outs_normal]
    subst hQ
    simp -implicitDefEqProofs (maxSteps := 5000000) only [go_sem, Nat.reduceShiftRight, Nat.reduceAnd, Nat.reduceBNe, Int.reduceEq, Nat.reduceAdd, Nat.reduceSub, Nat.reduceMul, Nat.reduceLeDiff, reduceIte, reduceCtorEq, Nat.reduceBEq, Nat.reduceEqDiff, go_sem]
  · have c1 := newBad n0 n1 hb h0
    have c2 := newRBad n0 n1 hb h0
    have hn1 : ((1 : Int) != 1) = false := rfl
    obtain ⟨L, hL⟩ : ∃ L, L = LP l6x0 := ⟨_, rfl⟩
    have lo := loop_open hL
    simp -implicitDefEqProofs (maxSteps := 5000000) only [go_sem, Nat.reduceShiftRight, Nat.reduceAnd, Nat.reduceBNe, Int.reduceEq, Nat.reduceAdd, Nat.reduceSub, Nat.reduceMul, Nat.reduceLeDiff, reduceIte, reduceCtorEq, Nat.reduceBEq, Nat.reduceEqDiff, wrap64, runC_loop, runC_range, callF_fn, callV_fn, callV_yld, yield_eq, yieldBody, yieldRaw, roundMid, roundEnd, rangeEnd, Bool.not_not, put_cons, put_nil, trim_same, at_zero, at_add, set_zero, set_add, store_one, write_zero, write_add, write_head, write_succ, splice_one, splice_more, List.drop_nil, List.take_nil, cell_int, cell_bool, fillS, splice_one, idxA, Ex.isNormal, List.set_nil, List.length_set, List.all_cons, List.all_nil, Bool.and_self, and_self, true_and, and_true, List.getElem?_nil, Int.reduceLT, Int.reduceLE, Int.reduceToNat, Int.toNat_zero, Int.toNat_one, Int.reduceAdd, Int.reduceSub, Int.reduceMul, Int.reduceNeg, Int.reduceBEq, Int.reduceBNe, Int.reduceGE, Int.reduceGT, Nat.reduceLT, trim_keep, under_fn, under_ptr, under_sl, Nat.lt_irrefl, not_lt_add, trim_tail, keepOk, ABlk.vals, Int.cast_ofNat_Int, decide_true, decide_false, List.all_cons, List.all_nil, Nat.zero_mul, Nat.mul_one, Nat.one_mul, go_sem, runC_loop, hl, d1, o_wakes, o_call, idx_arr, e0, cc, c1, c2, hn1]
    unfold LP at hL
    rw [← hL, lo]
    unfold l6x0
    have dd : ∃ b, decide ((0 : Int) < (rows.length : Int)) = b := ⟨_, rfl⟩
    obtain ⟨b, dd⟩ := dd
    cases b with
    | true =>
      simp -implicitDefEqProofs (maxSteps := 5000000) only [go_sem, Nat.reduceShiftRight, Nat.reduceAnd, Nat.reduceBNe, Int.reduceEq, Nat.reduceAdd, Nat.reduceSub, Nat.reduceMul, Nat.reduceLeDiff, reduceIte, reduceCtorEq, Nat.reduceBEq, Nat.reduceEqDiff, go_sem, wrap64, runC_loop, runC_range, callF_fn, callV_fn, callV_yld, yield_eq, yieldBody, yieldRaw, roundMid, roundEnd, rangeEnd, Bool.not_not, put_cons, put_nil, trim_same, at_zero, at_add, set_zero, set_add, store_one, write_zero, write_add, write_head, write_succ, splice_one, splice_more, List.drop_nil, List.take_nil, cell_int, cell_bool, fillS, splice_one, idxA, Ex.isNormal, List.set_nil, List.length_set, List.all_cons, List.all_nil, Bool.and_self, and_self, true_and, and_true, List.getElem?_nil, Int.reduceLT, Int.reduceLE, Int.reduceToNat, Int.toNat_zero, Int.toNat_one, Int.reduceAdd, Int.reduceSub, Int.reduceMul, Int.reduceNeg, Int.reduceBEq, Int.reduceBNe, Int.reduceGE, Int.reduceGT, Nat.reduceLT, trim_keep, under_fn, under_ptr, under_sl, Nat.lt_irrefl, not_lt_add, trim_tail, keepOk, ABlk.vals, Int.cast_ofNat_Int, decide_true, decide_false, List.all_cons, List.all_nil, Nat.zero_mul, Nat.mul_one, Nat.one_mul, hl, dd, seqR_exit', o_wakes, o_call, outs_normal]
      subst hQ
      simp -implicitDefEqProofs (maxSteps := 5000000) only [go_sem, Nat.reduceShiftRight, Nat.reduceAnd, Nat.reduceBNe, Int.reduceEq, Nat.reduceAdd, Nat.reduceSub, Nat.reduceMul, Nat.reduceLeDiff, reduceIte, reduceCtorEq, Nat.reduceBEq, Nat.reduceEqDiff, go_sem]
    | false =>
      simp -implicitDefEqProofs (maxSteps := 5000000) only [go_sem, Nat.reduceShiftRight, Nat.reduceAnd, Nat.reduceBNe, Int.reduceEq, Nat.reduceAdd, Nat.reduceSub, Nat.reduceMul, Nat.reduceLeDiff, reduceIte, reduceCtorEq, Nat.reduceBEq, Nat.reduceEqDiff, go_sem, wrap64, runC_loop, runC_range, callF_fn, callV_fn, callV_yld, yield_eq, yieldBody, yieldRaw, roundMid, roundEnd, rangeEnd, Bool.not_not, put_cons, put_nil, trim_same, at_zero, at_add, set_zero, set_add, store_one, write_zero, write_add, write_head, write_succ, splice_one, splice_more, List.drop_nil, List.take_nil, cell_int, cell_bool, fillS, splice_one, idxA, Ex.isNormal, List.set_nil, List.length_set, List.all_cons, List.all_nil, Bool.and_self, and_self, true_and, and_true, List.getElem?_nil, Int.reduceLT, Int.reduceLE, Int.reduceToNat, Int.toNat_zero, Int.toNat_one, Int.reduceAdd, Int.reduceSub, Int.reduceMul, Int.reduceNeg, Int.reduceBEq, Int.reduceBNe, Int.reduceGE, Int.reduceGT, Nat.reduceLT, trim_keep, under_fn, under_ptr, under_sl, Nat.lt_irrefl, not_lt_add, trim_tail, keepOk, ABlk.vals, Int.cast_ofNat_Int, decide_true, decide_false, List.all_cons, List.all_nil, Nat.zero_mul, Nat.mul_one, Nat.one_mul, hl, dd, seqR_exit', o_wakes, o_call, outs_normal]
      subst hQ
      simp -implicitDefEqProofs (maxSteps := 5000000) only [go_sem, Nat.reduceShiftRight, Nat.reduceAnd, Nat.reduceBNe, Int.reduceEq, Nat.reduceAdd, Nat.reduceSub, Nat.reduceMul, Nat.reduceLeDiff, reduceIte, reduceCtorEq, Nat.reduceBEq, Nat.reduceEqDiff, go_sem]
end Go.Proofs.Ytodoakeifdiidaa.G13

