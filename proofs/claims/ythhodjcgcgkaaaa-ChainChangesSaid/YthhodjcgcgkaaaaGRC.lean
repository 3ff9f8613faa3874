/- What the functions that ChainChanges reaches answer, for every argument. No condition but those in each statement. -/
import Derived.Test.YthhodjcgcgkaaaaGRB
set_option linter.unusedSimpArgs false
set_option linter.unusedVariables false
set_option linter.unusedSectionVars false
set_option maxRecDepth 10000
section
namespace Go.Proofs.Ythhodjcgcgkaaaa.G11
open Go Go.Proofs.Ythhodjcgcgkaaaa.Eng
section
variable {H : AHeap} {v : AV} {L : List SnS} (g : IsC H v L) (fi : Fits L)
include g fi
theorem closS (n : Int) (q : Nat) (s : SnS) (vc vt : AV) (bc : BS H vc s.ch) (pt : IsP H vt s.tb) (hq : cellsOf H q = some [.int .i64 n]) : (envL prog).call 40 [.agg [.int .i64 s.id, vc, vt], .ptr q 0] H = some (.bool (s.id == n), H) := by
 have c1 : ∀ X, cellsOf (H ++ X) q = some [.int .i64 n] := fun X => cells_old hq
 have cc := bc.cell
 have ct := pt.cell
 rw [c40]
 unfold b40
 simp -implicitDefEqProofs (maxSteps := 5000000) only [go_sem, Nat.reduceShiftRight, Nat.reduceAnd, Nat.reduceBNe, Int.reduceEq, Nat.reduceAdd, Nat.reduceSub, Nat.reduceMul, Nat.reduceLeDiff, reduceIte, reduceCtorEq, Nat.reduceBEq, Nat.reduceEqDiff, wrap64, runC_loop, runC_range, callF_fn, callV_fn, callV_yld, yield_eq, yieldBody, yieldRaw, roundMid, roundEnd, rangeEnd, Bool.not_not, put_cons, put_nil, trim_same, at_zero, at_add, set_zero, set_add, store_one, write_zero, write_add, write_head, write_succ, splice_one, splice_more, List.drop_nil, List.take_nil, cell_int, cell_bool, fillS, splice_one, idxA, Ex.isNormal, List.set_nil, List.length_set, List.all_cons, List.all_nil, Bool.and_self, and_self, true_and, and_true, List.getElem?_nil, Int.reduceLT, Int.reduceLE, Int.reduceToNat, Int.toNat_zero, Int.toNat_one, Int.reduceAdd, Int.reduceSub, Int.reduceMul, Int.reduceNeg, Int.reduceBEq, Int.reduceBNe, Int.reduceGE, Int.reduceGT, Nat.reduceLT, trim_keep, under_fn, under_ptr, under_sl, Nat.lt_irrefl, not_lt_add, trim_tail, keepOk, ABlk.vals, Int.cast_ofNat_Int, decide_true, decide_false, List.all_cons, List.all_nil, Nat.zero_mul, Nat.mul_one, Nat.one_mul, cellsA_agg, cc.2, ct.2, c1]
set_option maxHeartbeats 4000000 in
theorem cidL (n : Int) {q : Nat} (hq : cellsOf H q = some [.int .i64 n]) (x2 x3 x6 : AV) : ∀ (k i : Nat) (j5 j9 j10 j11 j12 j13 j14 j15 j16 j17 j18 : AV), i + k = L.length →
  Outs (LP1 l39x0 [v, .fn 40 [.ptr q 0], x2, x3, .int .i64 0, j5, x6, .int .i64 (L.length : Int), .int .i64 (i : Int), j9, j10, j11, j12, j13, j14, j15, j16, j17, j18] H) fun e t K => K = H ∧ ∃ fv : Nat → AV, t = [v, .fn 40 [.ptr q 0], x2, x3, (fv 4), (fv 5), x6, .int .i64 (L.length : Int), (fv 8), (fv 9), (fv 10), (fv 11), (fv 12), (fv 13), (fv 14), (fv 15), (fv 16), (fv 17), (fv 18)] ∧ ((e = .exit 0 ∧ cidF n i (L.drop i) = -1) ∨ (e = .ret ∧ fv 4 = .int .i64 (cidF n i (L.drop i)))) := by
 intro k
 obtain ⟨L0, hL0⟩ : ∃ L, L = LP1 l39x0 := ⟨_, rfl⟩
 have lo := loop_open hL0
 have fl := fi.1
 rw [← hL0]
 induction k with
 | zero =>
  intro i j5 j9 j10 j11 j12 j13 j14 j15 j16 j17 j18 hi
  obtain rfl : i = L.length := by omega
  have hd : decide ((L.length : Int) < (L.length : Int)) = false := by simp
  rw [List.drop_length, lo]
  unfold l39x0
  simp -implicitDefEqProofs (maxSteps := 5000000) only [go_sem, Nat.reduceShiftRight, Nat.reduceAnd, Nat.reduceBNe, Int.reduceEq, Nat.reduceAdd, Nat.reduceSub, Nat.reduceMul, Nat.reduceLeDiff, reduceIte, reduceCtorEq, Nat.reduceBEq, Nat.reduceEqDiff, hd, seqR_exit', outs_normal]
  exact exF2 rfl (.inl rfl)
 | succ k ih =>
  intro i j5 j9 j10 j11 j12 j13 j14 j15 j16 j17 j18 hi
  have hlt : i < L.length := by omega
  have hd : decide ((i : Int) < (L.length : Int)) = true := decide_eq_true (by omega)
  have e2 : IntKind.i64.wrap ((i : Int) + 1) = ((i + 1 : Nat) : Int) := by rw [wrap64 (by omega) (by omega)]; omega
  have hx := List.getElem?_eq_getElem hlt
  rw [List.drop_eq_getElem_cons hlt]
  generalize L[i] = s at *
  obtain ⟨bb, cs, vc, vt, sb, ix, hc, h1, h2, h3, ht, hle, hbs, hip⟩ := g.idx hx
  have ec := closS g fi n q s vc vt hbs hip hq
  rw [lo]
  unfold l39x0
  by_cases h : s.id = n
  ·have hb : (s.id == n) = true := by simp [h]
   rw [cidF, if_pos h]
   simp -implicitDefEqProofs (maxSteps := 5000000) only [go_sem, Nat.reduceShiftRight, Nat.reduceAnd, Nat.reduceBNe, Int.reduceEq, Nat.reduceAdd, Nat.reduceSub, Nat.reduceMul, Nat.reduceLeDiff, reduceIte, reduceCtorEq, Nat.reduceBEq, Nat.reduceEqDiff, wrap64, runC_loop, runC_range, callF_fn, callV_fn, callV_yld, yield_eq, yieldBody, yieldRaw, roundMid, roundEnd, rangeEnd, Bool.not_not, put_cons, put_nil, trim_same, at_zero, at_add, set_zero, set_add, store_one, write_zero, write_add, write_head, write_succ, splice_one, splice_more, List.drop_nil, List.take_nil, cell_int, cell_bool, fillS, splice_one, idxA, Ex.isNormal, List.set_nil, List.length_set, List.all_cons, List.all_nil, Bool.and_self, and_self, true_and, and_true, List.getElem?_nil, Int.reduceLT, Int.reduceLE, Int.reduceToNat, Int.toNat_zero, Int.toNat_one, Int.reduceAdd, Int.reduceSub, Int.reduceMul, Int.reduceNeg, Int.reduceBEq, Int.reduceBNe, Int.reduceGE, Int.reduceGT, Nat.reduceLT, trim_keep, under_fn, under_ptr, under_sl, Nat.lt_irrefl, not_lt_add, trim_tail, keepOk, ABlk.vals, Int.cast_ofNat_Int, decide_true, decide_false, List.all_cons, List.all_nil, Nat.zero_mul, Nat.mul_one, Nat.one_mul, hd, ix, hc, ht, hle, ec, hb, seqR_ret, outs_normal]
   exact exF2 rfl (.inr rfl)
  ·have hb : (s.id == n) = false := by simp [h]
   rw [cidF, if_neg h]
   simp -implicitDefEqProofs (maxSteps := 5000000) only [go_sem, Nat.reduceShiftRight, Nat.reduceAnd, Nat.reduceBNe, Int.reduceEq, Nat.reduceAdd, Nat.reduceSub, Nat.reduceMul, Nat.reduceLeDiff, reduceIte, reduceCtorEq, Nat.reduceBEq, Nat.reduceEqDiff, wrap64, runC_loop, runC_range, callF_fn, callV_fn, callV_yld, yield_eq, yieldBody, yieldRaw, roundMid, roundEnd, rangeEnd, Bool.not_not, put_cons, put_nil, trim_same, at_zero, at_add, set_zero, set_add, store_one, write_zero, write_add, write_head, write_succ, splice_one, splice_more, List.drop_nil, List.take_nil, cell_int, cell_bool, fillS, splice_one, idxA, Ex.isNormal, List.set_nil, List.length_set, List.all_cons, List.all_nil, Bool.and_self, and_self, true_and, and_true, List.getElem?_nil, Int.reduceLT, Int.reduceLE, Int.reduceToNat, Int.toNat_zero, Int.toNat_one, Int.reduceAdd, Int.reduceSub, Int.reduceMul, Int.reduceNeg, Int.reduceBEq, Int.reduceBNe, Int.reduceGE, Int.reduceGT, Nat.reduceLT, trim_keep, under_fn, under_ptr, under_sl, Nat.lt_irrefl, not_lt_add, trim_tail, keepOk, ABlk.vals, Int.cast_ofNat_Int, decide_true, decide_false, List.all_cons, List.all_nil, Nat.zero_mul, Nat.mul_one, Nat.one_mul, hd, ix, hc, ht, hle, ec, hb, e2]
   exact ih (i + 1) _ _ _ _ _ _ _ _ _ _ _ (by omega)
theorem cidFC (n : Int) {q : Nat} (hq : cellsOf H q = some [.int .i64 n]) : (envL prog).call 39 [v, .fn 40 [.ptr q 0]] H = some (.int .i64 (cidF n 0 L), H) := by
 have l0 := cidL g fi n hq (k := L.length) (i := 0)
 rw [show ((0 : Nat) : Int) = 0 from rfl, List.drop_zero] at l0
 have wl := g.len
 have key : Outs (runC (envL prog) (b39 (envL prog)) ([v, .fn 40 [.ptr q 0]] ++ List.replicate (19 - [v, AV.fn 40 [.ptr q 0]].length) .undef) H) fun e' t K => K = H ∧ fin [.tmp 4] (some (e', t, K)) = some (.int .i64 (cidF n 0 L), K) := by
  unfold b39
  generalize hQ : (fun (e' : Ex) (t : T) (K : AHeap) => K = H ∧ fin [.tmp 4] (some (e', t, K)) = some (AV.int .i64 (cidF n 0 L), K)) = Q
  simp -implicitDefEqProofs (maxSteps := 5000000) only [go_sem, Nat.reduceShiftRight, Nat.reduceAnd, Nat.reduceBNe, Int.reduceEq, Nat.reduceAdd, Nat.reduceSub, Nat.reduceMul, Nat.reduceLeDiff, reduceIte, reduceCtorEq, Nat.reduceBEq, Nat.reduceEqDiff, wrap64, runC_loop, runC_range, callF_fn, callV_fn, callV_yld, yield_eq, yieldBody, yieldRaw, roundMid, roundEnd, rangeEnd, Bool.not_not, put_cons, put_nil, trim_same, at_zero, at_add, set_zero, set_add, store_one, write_zero, write_add, write_head, write_succ, splice_one, splice_more, List.drop_nil, List.take_nil, cell_int, cell_bool, fillS, splice_one, idxA, Ex.isNormal, List.set_nil, List.length_set, List.all_cons, List.all_nil, Bool.and_self, and_self, true_and, and_true, List.getElem?_nil, Int.reduceLT, Int.reduceLE, Int.reduceToNat, Int.toNat_zero, Int.toNat_one, Int.reduceAdd, Int.reduceSub, Int.reduceMul, Int.reduceNeg, Int.reduceBEq, Int.reduceBNe, Int.reduceGE, Int.reduceGT, Nat.reduceLT, trim_keep, under_fn, under_ptr, under_sl, Nat.lt_irrefl, not_lt_add, trim_tail, keepOk, ABlk.vals, Int.cast_ofNat_Int, decide_true, decide_false, List.all_cons, List.all_nil, Nat.zero_mul, Nat.mul_one, Nat.one_mul, runC_loop, wl]
  unfold LP1 at l0
  generalize (envL prog).loop (runC (envL prog) (l39x0 (envL prog))) = L0 at l0 ⊢
  refine outs_ctx (fun r => seqR (blockR 0 r) _) (l0 _ _ _ _ _ _ _ _ _ _ _ _ _ _ (by omega)) ?_
  rintro e t K ⟨rfl, fv, rfl, ⟨rfl, ho⟩ | ⟨rfl, f4⟩⟩
  ·simp -implicitDefEqProofs (maxSteps := 5000000) only [go_sem, Nat.reduceShiftRight, Nat.reduceAnd, Nat.reduceBNe, Int.reduceEq, Nat.reduceAdd, Nat.reduceSub, Nat.reduceMul, Nat.reduceLeDiff, reduceIte, reduceCtorEq, Nat.reduceBEq, Nat.reduceEqDiff, outs_normal]
   subst hQ
   rw [ho]
   refine ⟨rfl, ?_⟩
   simp -implicitDefEqProofs (maxSteps := 5000000) only [go_sem, Nat.reduceShiftRight, Nat.reduceAnd, Nat.reduceBNe, Int.reduceEq, Nat.reduceAdd, Nat.reduceSub, Nat.reduceMul, Nat.reduceLeDiff, reduceIte, reduceCtorEq, Nat.reduceBEq, Nat.reduceEqDiff]
  ·simp -implicitDefEqProofs (maxSteps := 5000000) only [go_sem, Nat.reduceShiftRight, Nat.reduceAnd, Nat.reduceBNe, Int.reduceEq, Nat.reduceAdd, Nat.reduceSub, Nat.reduceMul, Nat.reduceLeDiff, reduceIte, reduceCtorEq, Nat.reduceBEq, Nat.reduceEqDiff, outs_normal]
   subst hQ
   refine ⟨rfl, ?_⟩
   simp -implicitDefEqProofs (maxSteps := 5000000) only [go_sem, Nat.reduceShiftRight, Nat.reduceAnd, Nat.reduceBNe, Int.reduceEq, Nat.reduceAdd, Nat.reduceSub, Nat.reduceMul, Nat.reduceLeDiff, reduceIte, reduceCtorEq, Nat.reduceBEq, Nat.reduceEqDiff, f4]
 obtain ⟨e', t, K, hr, rfl, hf⟩ := key
 rw [c39, hr, hf]; exact trim_same rfl
theorem cindexC (n : Int) : (envL prog).call 16 [v, .int .i64 n] H = some (.int .i64 (cidF n 0 L), H) := by
 have ec := cidFC (g.adds (⟨[.rw [.int .i64 n]], rfl⟩ : Adds H (H ++ [.rw [.int .i64 n]]))) fi n (q := H.length) (by unfold cellsOf; simp)
 rw [c16]
 unfold b16
 simp -implicitDefEqProofs (maxSteps := 5000000) only [go_sem, Nat.reduceShiftRight, Nat.reduceAnd, Nat.reduceBNe, Int.reduceEq, Nat.reduceAdd, Nat.reduceSub, Nat.reduceMul, Nat.reduceLeDiff, reduceIte, reduceCtorEq, Nat.reduceBEq, Nat.reduceEqDiff, wrap64, runC_loop, runC_range, callF_fn, callV_fn, callV_yld, yield_eq, yieldBody, yieldRaw, roundMid, roundEnd, rangeEnd, Bool.not_not, put_cons, put_nil, trim_same, at_zero, at_add, set_zero, set_add, store_one, write_zero, write_add, write_head, write_succ, splice_one, splice_more, List.drop_nil, List.take_nil, cell_int, cell_bool, fillS, splice_one, idxA, Ex.isNormal, List.set_nil, List.length_set, List.all_cons, List.all_nil, Bool.and_self, and_self, true_and, and_true, List.getElem?_nil, Int.reduceLT, Int.reduceLE, Int.reduceToNat, Int.toNat_zero, Int.toNat_one, Int.reduceAdd, Int.reduceSub, Int.reduceMul, Int.reduceNeg, Int.reduceBEq, Int.reduceBNe, Int.reduceGE, Int.reduceGT, Nat.reduceLT, trim_keep, under_fn, under_ptr, under_sl, Nat.lt_irrefl, not_lt_add, trim_tail, keepOk, ABlk.vals, Int.cast_ofNat_Int, decide_true, decide_false, List.all_cons, List.all_nil, Nat.zero_mul, Nat.mul_one, Nat.one_mul, ec]
end
def fairS (L : List SnS) : Bool := L.all (fun s => decide (s.ch.length ≤ 40) && decide (s.tb.length ≤ 80)) && decide (L.length ≤ 12)
section
variable {H : AHeap} {v : AV} {L : List SnS} (g : IsC H v L) (fb : L.length ≤ 9223372036854775807 ∧ ∀ s ∈ L, s.ch.length ≤ 9223372036854775807 ∧ s.tb.length ≤ 9223372036854775807)
include g fb
set_option maxHeartbeats 4000000 in
theorem fairL (x1 x26 x27 x28 : AV) : ∀ (k i : Nat) (j4 j5 j6 j7 j8 j9 j10 j11 j12 j13 j14 j15 j16 j17 j18 j19 j20 j21 j22 j23 j24 j25 : AV), i + k = L.length →
  Outs (LP1 l9x0 [v, x1, .bool false, .int .i64 (i : Int), j4, j5, j6, j7, j8, j9, j10, j11, j12, j13, j14, j15, j16, j17, j18, j19, j20, j21, j22, j23, j24, j25, x26, x27, x28] H) fun e t K => K = H ∧ ∃ fv : Nat → AV, t = [v, x1, (fv 2), (fv 3), (fv 4), (fv 5), (fv 6), (fv 7), (fv 8), (fv 9), (fv 10), (fv 11), (fv 12), (fv 13), (fv 14), (fv 15), (fv 16), (fv 17), (fv 18), (fv 19), (fv 20), (fv 21), (fv 22), (fv 23), (fv 24), (fv 25), x26, x27, x28] ∧ ((e = .exit 0 ∧ (L.drop i).all (fun s => decide (s.ch.length ≤ 40) && decide (s.tb.length ≤ 80)) = true) ∨ (e = .ret ∧ fv 2 = .bool false ∧ (L.drop i).all (fun s => decide (s.ch.length ≤ 40) && decide (s.tb.length ≤ 80)) = false)) := by
 intro k
 obtain ⟨L0, hL0⟩ : ∃ L, L = LP1 l9x0 := ⟨_, rfl⟩
 have lo := loop_open hL0
 have fl := fb.1
 have wl := g.len
 rw [← hL0]
 induction k with
 | zero =>
  intro i j4 j5 j6 j7 j8 j9 j10 j11 j12 j13 j14 j15 j16 j17 j18 j19 j20 j21 j22 j23 j24 j25 hi
  obtain rfl : i = L.length := by omega
  have hd : decide ((L.length : Int) < (L.length : Int)) = false := by simp
  rw [List.drop_length, lo]
  unfold l9x0
  simp -implicitDefEqProofs (maxSteps := 5000000) only [go_sem, Nat.reduceShiftRight, Nat.reduceAnd, Nat.reduceBNe, Int.reduceEq, Nat.reduceAdd, Nat.reduceSub, Nat.reduceMul, Nat.reduceLeDiff, reduceIte, reduceCtorEq, Nat.reduceBEq, Nat.reduceEqDiff, wl, hd, seqR_exit', outs_normal]
  exact exF2 rfl (.inl rfl)
 | succ k ih =>
  intro i j4 j5 j6 j7 j8 j9 j10 j11 j12 j13 j14 j15 j16 j17 j18 j19 j20 j21 j22 j23 j24 j25 hi
  have hlt : i < L.length := by omega
  have hd : decide ((i : Int) < (L.length : Int)) = true := decide_eq_true (by omega)
  have e2 : IntKind.i64.wrap ((i : Int) + 1) = ((i + 1 : Nat) : Int) := by rw [wrap64 (by omega) (by omega)]; omega
  have hx := List.getElem?_eq_getElem hlt
  have hm := fb.2 _ (List.getElem_mem hlt)
  rw [List.drop_eq_getElem_cons hlt, List.all_cons]
  generalize L[i] = s at *
  obtain ⟨bb, cs, vc, vt, sb, ix, hc, h1, h2, h3, ht, hle, hbs, hip⟩ := g.idx hx
  have w1 := hbs.len
  have w2 := hip.len
  rw [lo]
  unfold l9x0
  by_cases h : (s.ch.length : Int) > 40
  ·have d1 := decide_eq_true h
   rw [decide_eq_false (show ¬ s.ch.length ≤ 40 by omega)]
   simp -implicitDefEqProofs (maxSteps := 5000000) only [go_sem, Nat.reduceShiftRight, Nat.reduceAnd, Nat.reduceBNe, Int.reduceEq, Nat.reduceAdd, Nat.reduceSub, Nat.reduceMul, Nat.reduceLeDiff, reduceIte, reduceCtorEq, Nat.reduceBEq, Nat.reduceEqDiff, wrap64, runC_loop, runC_range, callF_fn, callV_fn, callV_yld, yield_eq, yieldBody, yieldRaw, roundMid, roundEnd, rangeEnd, Bool.not_not, put_cons, put_nil, trim_same, at_zero, at_add, set_zero, set_add, store_one, write_zero, write_add, write_head, write_succ, splice_one, splice_more, List.drop_nil, List.take_nil, cell_int, cell_bool, fillS, splice_one, idxA, Ex.isNormal, List.set_nil, List.length_set, List.all_cons, List.all_nil, Bool.and_self, and_self, true_and, and_true, List.getElem?_nil, Int.reduceLT, Int.reduceLE, Int.reduceToNat, Int.toNat_zero, Int.toNat_one, Int.reduceAdd, Int.reduceSub, Int.reduceMul, Int.reduceNeg, Int.reduceBEq, Int.reduceBNe, Int.reduceGE, Int.reduceGT, Nat.reduceLT, trim_keep, under_fn, under_ptr, under_sl, Nat.lt_irrefl, not_lt_add, trim_tail, keepOk, ABlk.vals, Int.cast_ofNat_Int, decide_true, decide_false, List.all_cons, List.all_nil, Nat.zero_mul, Nat.mul_one, Nat.one_mul, wl, hd, ix, hc, h2, h3, w1, w2, d1, seqR_ret, outs_normal]
   exact exF2 rfl (.inr rfl)
  ·have d1 := decide_eq_false h
   rw [decide_eq_true (show s.ch.length ≤ 40 by omega)]
   by_cases h' : (s.tb.length : Int) > 80
   ·have d2 := decide_eq_true h'
    rw [decide_eq_false (show ¬ s.tb.length ≤ 80 by omega)]
    simp -implicitDefEqProofs (maxSteps := 5000000) only [go_sem, Nat.reduceShiftRight, Nat.reduceAnd, Nat.reduceBNe, Int.reduceEq, Nat.reduceAdd, Nat.reduceSub, Nat.reduceMul, Nat.reduceLeDiff, reduceIte, reduceCtorEq, Nat.reduceBEq, Nat.reduceEqDiff, wrap64, runC_loop, runC_range, callF_fn, callV_fn, callV_yld, yield_eq, yieldBody, yieldRaw, roundMid, roundEnd, rangeEnd, Bool.not_not, put_cons, put_nil, trim_same, at_zero, at_add, set_zero, set_add, store_one, write_zero, write_add, write_head, write_succ, splice_one, splice_more, List.drop_nil, List.take_nil, cell_int, cell_bool, fillS, splice_one, idxA, Ex.isNormal, List.set_nil, List.length_set, List.all_cons, List.all_nil, Bool.and_self, and_self, true_and, and_true, List.getElem?_nil, Int.reduceLT, Int.reduceLE, Int.reduceToNat, Int.toNat_zero, Int.toNat_one, Int.reduceAdd, Int.reduceSub, Int.reduceMul, Int.reduceNeg, Int.reduceBEq, Int.reduceBNe, Int.reduceGE, Int.reduceGT, Nat.reduceLT, trim_keep, under_fn, under_ptr, under_sl, Nat.lt_irrefl, not_lt_add, trim_tail, keepOk, ABlk.vals, Int.cast_ofNat_Int, decide_true, decide_false, List.all_cons, List.all_nil, Nat.zero_mul, Nat.mul_one, Nat.one_mul, wl, hd, ix, hc, h2, h3, w1, w2, d1, d2, seqR_ret, outs_normal]
    exact exF2 rfl (.inr rfl)
   ·have d2 := decide_eq_false h'
    rw [decide_eq_true (show s.tb.length ≤ 80 by omega)]
    simp -implicitDefEqProofs (maxSteps := 5000000) only [go_sem, Nat.reduceShiftRight, Nat.reduceAnd, Nat.reduceBNe, Int.reduceEq, Nat.reduceAdd, Nat.reduceSub, Nat.reduceMul, Nat.reduceLeDiff, reduceIte, reduceCtorEq, Nat.reduceBEq, Nat.reduceEqDiff, wrap64, runC_loop, runC_range, callF_fn, callV_fn, callV_yld, yield_eq, yieldBody, yieldRaw, roundMid, roundEnd, rangeEnd, Bool.not_not, put_cons, put_nil, trim_same, at_zero, at_add, set_zero, set_add, store_one, write_zero, write_add, write_head, write_succ, splice_one, splice_more, List.drop_nil, List.take_nil, cell_int, cell_bool, fillS, splice_one, idxA, Ex.isNormal, List.set_nil, List.length_set, List.all_cons, List.all_nil, Bool.and_self, and_self, true_and, and_true, List.getElem?_nil, Int.reduceLT, Int.reduceLE, Int.reduceToNat, Int.toNat_zero, Int.toNat_one, Int.reduceAdd, Int.reduceSub, Int.reduceMul, Int.reduceNeg, Int.reduceBEq, Int.reduceBNe, Int.reduceGE, Int.reduceGT, Nat.reduceLT, trim_keep, under_fn, under_ptr, under_sl, Nat.lt_irrefl, not_lt_add, trim_tail, keepOk, ABlk.vals, Int.cast_ofNat_Int, decide_true, decide_false, List.all_cons, List.all_nil, Nat.zero_mul, Nat.mul_one, Nat.one_mul, wl, hd, ix, hc, h2, h3, w1, w2, d1, d2, e2]
    exact ih (i + 1) _ _ _ _ _ _ _ _ _ _ _ _ _ _ _ _ _ _ _ _ _ _ (by omega)
theorem fairC : (envL prog).call 9 [v] H = some (.bool (fairS L), H) := by
 have l0 := fairL g fb (k := L.length) (i := 0)
 rw [show ((0 : Nat) : Int) = 0 from rfl, List.drop_zero] at l0
 have wl := g.len
 have hd : decide ((L.length : Int) ≤ 12) = decide (L.length ≤ 12) := by
  by_cases h : L.length ≤ 12
  ·rw [decide_eq_true h, decide_eq_true (by omega)]
  ·rw [decide_eq_false h, decide_eq_false (by omega)]
 have key : Outs (runC (envL prog) (b9 (envL prog)) ([v] ++ List.replicate (29 - [v].length) .undef) H) fun e' t K => K = H ∧ fin [.tmp 2] (some (e', t, K)) = some (.bool (fairS L), K) := by
  unfold b9
  generalize hQ : (fun (e' : Ex) (t : T) (K : AHeap) => K = H ∧ fin [.tmp 2] (some (e', t, K)) = some (AV.bool (fairS L), K)) = Q
  simp -implicitDefEqProofs (maxSteps := 5000000) only [go_sem, Nat.reduceShiftRight, Nat.reduceAnd, Nat.reduceBNe, Int.reduceEq, Nat.reduceAdd, Nat.reduceSub, Nat.reduceMul, Nat.reduceLeDiff, reduceIte, reduceCtorEq, Nat.reduceBEq, Nat.reduceEqDiff, wrap64, runC_loop, runC_range, callF_fn, callV_fn, callV_yld, yield_eq, yieldBody, yieldRaw, roundMid, roundEnd, rangeEnd, Bool.not_not, put_cons, put_nil, trim_same, at_zero, at_add, set_zero, set_add, store_one, write_zero, write_add, write_head, write_succ, splice_one, splice_more, List.drop_nil, List.take_nil, cell_int, cell_bool, fillS, splice_one, idxA, Ex.isNormal, List.set_nil, List.length_set, List.all_cons, List.all_nil, Bool.and_self, and_self, true_and, and_true, List.getElem?_nil, Int.reduceLT, Int.reduceLE, Int.reduceToNat, Int.toNat_zero, Int.toNat_one, Int.reduceAdd, Int.reduceSub, Int.reduceMul, Int.reduceNeg, Int.reduceBEq, Int.reduceBNe, Int.reduceGE, Int.reduceGT, Nat.reduceLT, trim_keep, under_fn, under_ptr, under_sl, Nat.lt_irrefl, not_lt_add, trim_tail, keepOk, ABlk.vals, Int.cast_ofNat_Int, decide_true, decide_false, List.all_cons, List.all_nil, Nat.zero_mul, Nat.mul_one, Nat.one_mul, runC_loop]
  unfold LP1 at l0
  generalize (envL prog).loop (runC (envL prog) (l9x0 (envL prog))) = L0 at l0 ⊢
  refine outs_ctx (fun r => seqR (blockR 0 r) _) (l0 _ _ _ _ _ _ _ _ _ _ _ _ _ _ _ _ _ _ _ _ _ _ _ _ _ _ (by omega)) ?_
  rintro e t K ⟨rfl, fv, rfl, ⟨rfl, ho⟩ | ⟨rfl, f4, ho⟩⟩
  ·simp -implicitDefEqProofs (maxSteps := 5000000) only [go_sem, Nat.reduceShiftRight, Nat.reduceAnd, Nat.reduceBNe, Int.reduceEq, Nat.reduceAdd, Nat.reduceSub, Nat.reduceMul, Nat.reduceLeDiff, reduceIte, reduceCtorEq, Nat.reduceBEq, Nat.reduceEqDiff, wrap64, runC_loop, runC_range, callF_fn, callV_fn, callV_yld, yield_eq, yieldBody, yieldRaw, roundMid, roundEnd, rangeEnd, Bool.not_not, put_cons, put_nil, trim_same, at_zero, at_add, set_zero, set_add, store_one, write_zero, write_add, write_head, write_succ, splice_one, splice_more, List.drop_nil, List.take_nil, cell_int, cell_bool, fillS, splice_one, idxA, Ex.isNormal, List.set_nil, List.length_set, List.all_cons, List.all_nil, Bool.and_self, and_self, true_and, and_true, List.getElem?_nil, Int.reduceLT, Int.reduceLE, Int.reduceToNat, Int.toNat_zero, Int.toNat_one, Int.reduceAdd, Int.reduceSub, Int.reduceMul, Int.reduceNeg, Int.reduceBEq, Int.reduceBNe, Int.reduceGE, Int.reduceGT, Nat.reduceLT, trim_keep, under_fn, under_ptr, under_sl, Nat.lt_irrefl, not_lt_add, trim_tail, keepOk, ABlk.vals, Int.cast_ofNat_Int, decide_true, decide_false, List.all_cons, List.all_nil, Nat.zero_mul, Nat.mul_one, Nat.one_mul, wl, hd, outs_normal]
   subst hQ
   have : fairS L = decide (L.length ≤ 12) := by unfold fairS; rw [ho]; rfl
   rw [this]
   refine ⟨rfl, ?_⟩
   simp -implicitDefEqProofs (maxSteps := 5000000) only [go_sem, Nat.reduceShiftRight, Nat.reduceAnd, Nat.reduceBNe, Int.reduceEq, Nat.reduceAdd, Nat.reduceSub, Nat.reduceMul, Nat.reduceLeDiff, reduceIte, reduceCtorEq, Nat.reduceBEq, Nat.reduceEqDiff]
  ·simp -implicitDefEqProofs (maxSteps := 5000000) only [go_sem, Nat.reduceShiftRight, Nat.reduceAnd, Nat.reduceBNe, Int.reduceEq, Nat.reduceAdd, Nat.reduceSub, Nat.reduceMul, Nat.reduceLeDiff, reduceIte, reduceCtorEq, Nat.reduceBEq, Nat.reduceEqDiff, outs_normal]
   subst hQ
   have : fairS L = false := by unfold fairS; rw [ho]; rfl
   rw [this]
   refine ⟨rfl, ?_⟩
   simp -implicitDefEqProofs (maxSteps := 5000000) only [go_sem, Nat.reduceShiftRight, Nat.reduceAnd, Nat.reduceBNe, Int.reduceEq, Nat.reduceAdd, Nat.reduceSub, Nat.reduceMul, Nat.reduceLeDiff, reduceIte, reduceCtorEq, Nat.reduceBEq, Nat.reduceEqDiff, f4]
 obtain ⟨e', t, K, hr, rfl, hf⟩ := key
 rw [c9, hr, hf]; exact trim_same rfl
end
end Go.Proofs.Ythhodjcgcgkaaaa.G11
end
section
namespace Go.Proofs.Ythhodjcgcgkaaaa.G11
open Go Go.Proofs.Ythhodjcgcgkaaaa.Eng
def rchgF (i j : Int) : List SnS → Nat → List Int → List Int
 | [], _, acc => acc
 | s :: L, k, acc => rchgF i j L (k + 1) (if i ≤ (k : Int) ∧ (k : Int) < j then Bt.orS acc s.ch else acc)
theorem rchgF_end (i j : Int) : ∀ (L : List SnS) (k : Nat) (acc : List Int), j ≤ k → rchgF i j L k acc = acc
 | [], _, _, _ => rfl
 | s :: L, k, acc, h => by rw [rchgF, if_neg (by omega), rchgF_end i j L (k + 1) acc (by omega)]
theorem rchgF_eq (i j : Int) : ∀ (L : List SnS) (k : Nat) (acc : List Int), i ≤ k → rchgF i j L k acc = chgF j L k acc
 | [], _, _, _ => rfl
 | s :: L, k, acc, h => by
  rw [rchgF, chgF]
  by_cases hj : j ≤ (k : Int)
  ·rw [if_pos hj, if_neg (by omega), rchgF_end i j L (k + 1) acc (by omega)]
  ·rw [if_neg hj, if_pos ⟨h, by omega⟩, rchgF_eq i j L (k + 1) _ (by omega), show ((k + 1 : Nat) : Int) = (k : Int) + 1 by omega]
theorem rchgF_skip (i j : Int) : ∀ (L : List SnS) (k n : Nat) (acc : List Int), (k : Int) + n ≤ max i 0 → rchgF i j L k acc = rchgF i j (L.drop n) (k + n) acc
 | L, k, 0, acc, h => by rw [List.drop_zero, Nat.add_zero]
 | [], k, n + 1, acc, h => by simp [rchgF]
 | s :: L, k, n + 1, acc, h => by
  rw [rchgF, if_neg (by omega), rchgF_skip i j L (k + 1) n acc (by omega), List.drop_succ_cons, show k + 1 + n = k + (n + 1) by omega]
theorem rchg_eq (L : List SnS) (i j : Int) : rchgF i j L 0 [] = chgS L i j := by
 obtain ⟨n, hn⟩ : ∃ n : Nat, max i 0 = n := ⟨(max i 0).toNat, by omega⟩
 have hs : chgS L i j = chgF j (L.drop n) n [] := by unfold chgS; rw [hn, Int.toNat_natCast]
 rw [hs, rchgF_skip i j L 0 n [] (by omega), Nat.zero_add, rchgF_eq i j _ n [] (by omega)]
section
variable {H : AHeap} {v : AV} {L : List SnS} (g : IsC H v L) (fi : Fits L)
include g fi
set_option maxHeartbeats 4000000 in
theorem rchgL (i j : Int) (x3 x4 x5 x6 x30 : AV) : ∀ (m k : Nat) (K : AHeap) (w : AV) (acc : List Int) (j9 j10 j11 j12 j13 j14 j15 j16 j17 j18 j19 j20 j21 j22 j23 j24 j25 j26 j27 j28 j29 : AV), Adds H K → BS K w acc → (∀ b, slb w = some b → H.length ≤ b) → acc.length ≤ 1000 → k + m = L.length →
  Outs (LP1 l20x0 [v, .int .i64 i, .int .i64 j, x3, x4, x5, x6, w, .int .i64 (k : Int), j9, j10, j11, j12, j13, j14, j15, j16, j17, j18, j19, j20, j21, j22, j23, j24, j25, j26, j27, j28, j29, x30] K) fun e t K' => e = .exit 0 ∧ Adds H K' ∧ ∃ fv : Nat → AV, t = [v, .int .i64 i, .int .i64 j, x3, x4, x5, x6, (fv 7), (fv 8), (fv 9), (fv 10), (fv 11), (fv 12), (fv 13), (fv 14), (fv 15), (fv 16), (fv 17), (fv 18), (fv 19), (fv 20), (fv 21), (fv 22), (fv 23), (fv 24), (fv 25), (fv 26), (fv 27), (fv 28), (fv 29), x30] ∧ BS K' (fv 7) (rchgF i j (L.drop k) k acc) ∧ (∀ b, slb (fv 7) = some b → H.length ≤ b) := by
 intro m
 obtain ⟨L0, hL0⟩ : ∃ L, L = LP1 l20x0 := ⟨_, rfl⟩
 have lo := loop_open hL0
 have fl := fi.1
 have wl := g.len
 rw [← hL0]
 induction m with
 | zero =>
  intro k K w acc j9 j10 j11 j12 j13 j14 j15 j16 j17 j18 j19 j20 j21 j22 j23 j24 j25 j26 j27 j28 j29 aK bw hg al hk
  obtain rfl : k = L.length := by omega
  have hd : decide ((L.length : Int) < (L.length : Int)) = false := by simp
  rw [List.drop_length, lo]
  unfold l20x0
  simp -implicitDefEqProofs (maxSteps := 5000000) only [go_sem, Nat.reduceShiftRight, Nat.reduceAnd, Nat.reduceBNe, Int.reduceEq, Nat.reduceAdd, Nat.reduceSub, Nat.reduceMul, Nat.reduceLeDiff, reduceIte, reduceCtorEq, Nat.reduceBEq, Nat.reduceEqDiff, wl, hd, seqR_exit', outs_normal]
  exact ⟨aK, exF2 rfl ⟨bw, hg⟩⟩
 | succ m ih =>
  intro k K w acc j9 j10 j11 j12 j13 j14 j15 j16 j17 j18 j19 j20 j21 j22 j23 j24 j25 j26 j27 j28 j29 aK bw hg al hk
  have hlt : k < L.length := by omega
  have hd : decide ((k : Int) < (L.length : Int)) = true := decide_eq_true (by omega)
  have e2 : IntKind.i64.wrap ((k : Int) + 1) = ((k + 1 : Nat) : Int) := by rw [wrap64 (by omega) (by omega)]; omega
  have hx := List.getElem?_eq_getElem hlt
  have ft := fits_get fi hx
  have lc := ft.lc
  rw [List.drop_eq_getElem_cons hlt, rchgF]
  generalize L[k] = s at *
  obtain ⟨bb, cs, vc, vt, sb, ix, hc0, h1, h2, h3, ht, hle, hbs, hip⟩ := g.idx hx
  have hc := aK.cells hc0
  by_cases h : i ≤ (k : Int)
  ·have d1 : decide ((k : Int) ≥ i) = true := decide_eq_true h
   by_cases h' : (k : Int) < j
   ·have d2 := decide_eq_true h'
    rw [if_pos ⟨h, h'⟩]
    obtain ⟨w', G, ow, eo⟩ := Bt.orR bw (aK.bs hbs) (by omega) (by omega)
    have wg := own_ge ow
    have key := ih (k + 1) (K ++ G) w' (Bt.orS acc s.ch)
    rw [lo]
    unfold l20x0
    simp -implicitDefEqProofs (maxSteps := 5000000) only [go_sem, Nat.reduceShiftRight, Nat.reduceAnd, Nat.reduceBNe, Int.reduceEq, Nat.reduceAdd, Nat.reduceSub, Nat.reduceMul, Nat.reduceLeDiff, reduceIte, reduceCtorEq, Nat.reduceBEq, Nat.reduceEqDiff, wrap64, runC_loop, runC_range, callF_fn, callV_fn, callV_yld, yield_eq, yieldBody, yieldRaw, roundMid, roundEnd, rangeEnd, Bool.not_not, put_cons, put_nil, trim_same, at_zero, at_add, set_zero, set_add, store_one, write_zero, write_add, write_head, write_succ, splice_one, splice_more, List.drop_nil, List.take_nil, cell_int, cell_bool, fillS, splice_one, idxA, Ex.isNormal, List.set_nil, List.length_set, List.all_cons, List.all_nil, Bool.and_self, and_self, true_and, and_true, List.getElem?_nil, Int.reduceLT, Int.reduceLE, Int.reduceToNat, Int.toNat_zero, Int.toNat_one, Int.reduceAdd, Int.reduceSub, Int.reduceMul, Int.reduceNeg, Int.reduceBEq, Int.reduceBNe, Int.reduceGE, Int.reduceGT, Nat.reduceLT, trim_keep, under_fn, under_ptr, under_sl, Nat.lt_irrefl, not_lt_add, trim_tail, keepOk, ABlk.vals, Int.cast_ofNat_Int, decide_true, decide_false, List.all_cons, List.all_nil, Nat.zero_mul, Nat.mul_one, Nat.one_mul, wl, hd, d1, d2, ix, hc, h2, eo, e2]
    exact key _ _ _ _ _ _ _ _ _ _ _ _ _ _ _ _ _ _ _ _ _ (aK.trans ⟨_, rfl⟩) ow.bs (fun b hb => by have := wg b hb; have := aK.len; omega) (orS_le al lc) (by omega)
   ·have d2 := decide_eq_false h'
    rw [if_neg (by omega)]
    have key := ih (k + 1) K w acc
    rw [lo]
    unfold l20x0
    simp -implicitDefEqProofs (maxSteps := 5000000) only [go_sem, Nat.reduceShiftRight, Nat.reduceAnd, Nat.reduceBNe, Int.reduceEq, Nat.reduceAdd, Nat.reduceSub, Nat.reduceMul, Nat.reduceLeDiff, reduceIte, reduceCtorEq, Nat.reduceBEq, Nat.reduceEqDiff, wrap64, runC_loop, runC_range, callF_fn, callV_fn, callV_yld, yield_eq, yieldBody, yieldRaw, roundMid, roundEnd, rangeEnd, Bool.not_not, put_cons, put_nil, trim_same, at_zero, at_add, set_zero, set_add, store_one, write_zero, write_add, write_head, write_succ, splice_one, splice_more, List.drop_nil, List.take_nil, cell_int, cell_bool, fillS, splice_one, idxA, Ex.isNormal, List.set_nil, List.length_set, List.all_cons, List.all_nil, Bool.and_self, and_self, true_and, and_true, List.getElem?_nil, Int.reduceLT, Int.reduceLE, Int.reduceToNat, Int.toNat_zero, Int.toNat_one, Int.reduceAdd, Int.reduceSub, Int.reduceMul, Int.reduceNeg, Int.reduceBEq, Int.reduceBNe, Int.reduceGE, Int.reduceGT, Nat.reduceLT, trim_keep, under_fn, under_ptr, under_sl, Nat.lt_irrefl, not_lt_add, trim_tail, keepOk, ABlk.vals, Int.cast_ofNat_Int, decide_true, decide_false, List.all_cons, List.all_nil, Nat.zero_mul, Nat.mul_one, Nat.one_mul, wl, hd, d1, d2, e2]
    exact key _ _ _ _ _ _ _ _ _ _ _ _ _ _ _ _ _ _ _ _ _ aK bw hg al (by omega)
  ·have d1 : decide ((k : Int) ≥ i) = false := decide_eq_false h
   rw [if_neg (by omega)]
   have key := ih (k + 1) K w acc
   rw [lo]
   unfold l20x0
   simp -implicitDefEqProofs (maxSteps := 5000000) only [go_sem, Nat.reduceShiftRight, Nat.reduceAnd, Nat.reduceBNe, Int.reduceEq, Nat.reduceAdd, Nat.reduceSub, Nat.reduceMul, Nat.reduceLeDiff, reduceIte, reduceCtorEq, Nat.reduceBEq, Nat.reduceEqDiff, wrap64, runC_loop, runC_range, callF_fn, callV_fn, callV_yld, yield_eq, yieldBody, yieldRaw, roundMid, roundEnd, rangeEnd, Bool.not_not, put_cons, put_nil, trim_same, at_zero, at_add, set_zero, set_add, store_one, write_zero, write_add, write_head, write_succ, splice_one, splice_more, List.drop_nil, List.take_nil, cell_int, cell_bool, fillS, splice_one, idxA, Ex.isNormal, List.set_nil, List.length_set, List.all_cons, List.all_nil, Bool.and_self, and_self, true_and, and_true, List.getElem?_nil, Int.reduceLT, Int.reduceLE, Int.reduceToNat, Int.toNat_zero, Int.toNat_one, Int.reduceAdd, Int.reduceSub, Int.reduceMul, Int.reduceNeg, Int.reduceBEq, Int.reduceBNe, Int.reduceGE, Int.reduceGT, Nat.reduceLT, trim_keep, under_fn, under_ptr, under_sl, Nat.lt_irrefl, not_lt_add, trim_tail, keepOk, ABlk.vals, Int.cast_ofNat_Int, decide_true, decide_false, List.all_cons, List.all_nil, Nat.zero_mul, Nat.mul_one, Nat.one_mul, wl, hd, d1, e2]
   exact key _ _ _ _ _ _ _ _ _ _ _ _ _ _ _ _ _ _ _ _ _ aK bw hg al (by omega)
theorem rchangedC (i j : Int) : ∃ w K, (envL prog).call 20 [v, .int .i64 i, .int .i64 j] H = some (w, K) ∧ Adds H K ∧ BS K w (chgS L i j) := by
 have l0 := rchgL g fi i j (m := L.length) (k := 0) (K := H) (w := .nilSl) (acc := [])
 rw [show ((0 : Nat) : Int) = 0 from rfl, List.drop_zero, rchg_eq] at l0
 have key : Outs (runC (envL prog) (b20 (envL prog)) ([v, .int .i64 i, .int .i64 j] ++ List.replicate (31 - [v, AV.int .i64 i, AV.int .i64 j].length) .undef) H) fun e' t K => ∃ w, Adds H K ∧ BS K w (chgS L i j) ∧ (∀ b, slb w = some b → H.length ≤ b) ∧ fin [.tmp 6] (some (e', t, K)) = some (w, K) := by
  unfold b20
  generalize hQ : (fun (e' : Ex) (t : T) (K : AHeap) => ∃ w, Adds H K ∧ BS K w (chgS L i j) ∧ (∀ b, slb w = some b → H.length ≤ b) ∧ fin [.tmp 6] (some (e', t, K)) = some (w, K)) = Q
  simp -implicitDefEqProofs (maxSteps := 5000000) only [go_sem, Nat.reduceShiftRight, Nat.reduceAnd, Nat.reduceBNe, Int.reduceEq, Nat.reduceAdd, Nat.reduceSub, Nat.reduceMul, Nat.reduceLeDiff, reduceIte, reduceCtorEq, Nat.reduceBEq, Nat.reduceEqDiff, wrap64, runC_loop, runC_range, callF_fn, callV_fn, callV_yld, yield_eq, yieldBody, yieldRaw, roundMid, roundEnd, rangeEnd, Bool.not_not, put_cons, put_nil, trim_same, at_zero, at_add, set_zero, set_add, store_one, write_zero, write_add, write_head, write_succ, splice_one, splice_more, List.drop_nil, List.take_nil, cell_int, cell_bool, fillS, splice_one, idxA, Ex.isNormal, List.set_nil, List.length_set, List.all_cons, List.all_nil, Bool.and_self, and_self, true_and, and_true, List.getElem?_nil, Int.reduceLT, Int.reduceLE, Int.reduceToNat, Int.toNat_zero, Int.toNat_one, Int.reduceAdd, Int.reduceSub, Int.reduceMul, Int.reduceNeg, Int.reduceBEq, Int.reduceBNe, Int.reduceGE, Int.reduceGT, Nat.reduceLT, trim_keep, under_fn, under_ptr, under_sl, Nat.lt_irrefl, not_lt_add, trim_tail, keepOk, ABlk.vals, Int.cast_ofNat_Int, decide_true, decide_false, List.all_cons, List.all_nil, Nat.zero_mul, Nat.mul_one, Nat.one_mul, runC_loop]
  unfold LP1 at l0
  generalize (envL prog).loop (runC (envL prog) (l20x0 (envL prog))) = L0 at l0 ⊢
  refine outs_ctx (fun r => seqR (blockR 0 r) _) (l0 _ _ _ _ _ _ _ _ _ _ _ _ _ _ _ _ _ _ _ _ _ _ _ _ _ _ (Adds.refl H) (.inl ⟨rfl, rfl⟩) (fun b h => by cases h) (by simp) (by omega)) ?_
  rintro e t K ⟨rfl, aK, fv, rfl, bw, hg⟩
  simp -implicitDefEqProofs (maxSteps := 5000000) only [go_sem, Nat.reduceShiftRight, Nat.reduceAnd, Nat.reduceBNe, Int.reduceEq, Nat.reduceAdd, Nat.reduceSub, Nat.reduceMul, Nat.reduceLeDiff, reduceIte, reduceCtorEq, Nat.reduceBEq, Nat.reduceEqDiff, outs_normal]
  subst hQ
  refine ⟨fv 7, aK, bw, hg, ?_⟩
  simp -implicitDefEqProofs (maxSteps := 5000000) only [go_sem, Nat.reduceShiftRight, Nat.reduceAnd, Nat.reduceBNe, Int.reduceEq, Nat.reduceAdd, Nat.reduceSub, Nat.reduceMul, Nat.reduceLeDiff, reduceIte, reduceCtorEq, Nat.reduceBEq, Nat.reduceEqDiff]
 obtain ⟨e', t, K, hr, w, aK, bs, wb, hf⟩ := key
 obtain ⟨K', e, a, b⟩ := bs_end aK bs wb
 exact ⟨w, K', by rw [c20, hr, hf]; exact e, a, b⟩
end
end Go.Proofs.Ythhodjcgcgkaaaa.G11
end
section
namespace Go.Proofs.Ythhodjcgcgkaaaa.G11
open Go Go.Proofs.Ythhodjcgcgkaaaa.Eng
theorem sub_len : ∀ {B A : List Int}, A.Pairwise (· < ·) → B.Pairwise (· < ·) → (∀ x ∈ A, x ∈ B) → A.length ≤ B.length ∧ (A.length = B.length → A = B)
 | [], A, _, _, h => by
  cases A with
  | nil => exact ⟨Nat.le_refl _, fun _ => rfl⟩
  | cons a A => exact absurd (h a (by simp)) (by simp)
 | b :: B, [], _, _, _ => ⟨by simp, fun h => by simp at h⟩
 | b :: B, a :: A, ha, hb, h => by
  obtain ⟨a1, a2⟩ := List.pairwise_cons.1 ha
  obtain ⟨b1, b2⟩ := List.pairwise_cons.1 hb
  rcases List.mem_cons.1 (h a (by simp)) with rfl | hab
  ·have ih := sub_len a2 b2 fun x hx => by
    rcases List.mem_cons.1 (h x (by simp [hx])) with rfl | q
    ·exact absurd (a1 _ hx) (by omega)
    ·exact q
   exact ⟨by simp only [List.length_cons]; omega, fun e => by rw [ih.2 (by simpa using e)]⟩
  ·have lt := b1 a hab
   have ih := sub_len ha b2 fun x hx => by
    rcases List.mem_cons.1 (h x hx) with rfl | q
    ·rcases List.mem_cons.1 hx with rfl | hx
     ·exact hab
     ·exact absurd (a1 _ hx) (by omega)
    ·exact q
   exact ⟨by simp only [List.length_cons] at *; omega, fun e => by simp only [List.length_cons] at *; omega⟩
theorem allU_of {zs : List Int} : ∀ {i : Nat} {z : Int}, 0 ≤ z → z < i → Bt.hasS zs z = true → z ∈ Bt.allU zs i
 | 0, z, h0, h1, _ => by omega
 | i + 1, z, h0, h1, h => by
  simp only [Bt.allU]
  by_cases e : z = i
  ·subst e; rw [if_pos h]; simp
  ·have := allU_of (i := i) h0 (by omega) h
   split
   ·exact List.mem_append_left _ this
   ·exact this
theorem mem_allS {zs : List Int} {z : Int} : z ∈ Bt.allS zs ↔ Bt.hasS zs z = true := by
 constructor
 ·intro h; exact (Bt.allU_mem h).2.2
 ·intro h
  by_cases h0 : z < 0
  ·rw [Bt.hasS_neg _ h0] at h; cases h
  ·obtain ⟨n, rfl⟩ : ∃ n : Nat, z = n := ⟨z.toNat, by omega⟩
   by_cases hn : 8 * zs.length ≤ n
   ·rw [Bt.hasS_high hn] at h; cases h
   ·exact allU_of (by omega) (by omega) h
theorem full_iff {l : List PrS} {zs : List Int} (up : asc l) (hu : IsU8 zs) (hs : l.all (fun p => Bt.hasS zs p.1) = true) : ((l.length : Int) == Bt.sumO zs) = (Bt.allS zs).all (fun c => decide (0 ≤ idxS l c)) := by
 rw [Bt.count_all hu, Bool.eq_iff_iff, beq_iff_eq, List.all_eq_true]
 have sub : ∀ x ∈ l.map (·.1), x ∈ Bt.allS zs := fun x hx => by
  obtain ⟨p, hp, rfl⟩ := List.mem_map.1 hx
  exact mem_allS.2 (List.all_eq_true.1 hs p hp)
 have q := sub_len up (Bt.allU_sorted zs _) sub
 rw [List.length_map] at q
 constructor
 ·intro h c hc
  rw [decide_eq_true_eq, idx_has]
  have e := q.2 (by show _ = (Bt.allS zs).length; omega)
  have hc : c ∈ Bt.allU zs (8 * zs.length) := hc
  rw [← e] at hc
  obtain ⟨p, hp, rfl⟩ := List.mem_map.1 hc
  exact ⟨p, hp, rfl⟩
 ·intro h
  have q2 := sub_len (Bt.allU_sorted zs (8 * zs.length)) up fun x hx => by
   have := h x hx
   rw [decide_eq_true_eq, idx_has] at this
   obtain ⟨p, hp, rfl⟩ := this
   exact List.mem_map.2 ⟨p, hp, rfl⟩
  rw [List.length_map] at q2
  have : (Bt.allS zs).length = (Bt.allU zs (8 * zs.length)).length := rfl
  omega
theorem ats_iff : ∀ {l : List PrS} {ats : List Int}, (∀ p ∈ l, ∀ q ∈ l, p.2 = q.2 → p = q) → asc l → atsF l ats = l.all (fun p => !ats.contains p.2)
 | [], _, _, _ => rfl
 | p :: l, ats, inj, up => by
  obtain ⟨u1, u2⟩ := asc_cons.1 up
  rw [atsF, List.all_cons, ats_iff (fun x hx y hy => inj x (by simp [hx]) y (by simp [hy])) u2]
  congr 1
  rw [Bool.eq_iff_iff, List.all_eq_true, List.all_eq_true]
  have hn : ∀ q ∈ l, (ats ++ [p.2]).contains q.2 = ats.contains q.2 := fun q hq => by
   rw [Bool.eq_iff_iff, List.contains_iff_mem, List.contains_iff_mem, List.mem_append, List.mem_singleton]
   constructor
   ·rintro (h | h)
    ·exact h
    ·have := inj q (by simp [hq]) p (by simp) h
     have lt := u1 q hq
     rw [this] at lt; omega
   ·exact .inl
  constructor
  ·intro h q hq; rw [← hn q hq]; exact h q hq
  ·intro h q hq; rw [hn q hq]; exact h q hq
def rgoodF (bl ar : Int) : List SnS → Option Int → List Int → Bool
 | [], _, _ => true
 | s :: L, pv, ats => decide (1 ≤ s.id) && (decide (s.id ≤ 1000000) && (pvOk pv s.id && (Bt.goodS s.ch bl && (tgood s.tb bl ar && (s.tb.all (fun p => Bt.hasS s.ch p.1 && !ats.contains p.2) && ((L.isEmpty || (Bt.allS s.ch).all (fun c => decide (0 ≤ idxS s.tb c))) && rgoodF bl ar L (some s.id) (ats ++ s.tb.map (·.2))))))))
theorem rgood_eq (bl ar : Int) : ∀ (L : List SnS) (pv : Option Int) (ats : List Int), (∀ s ∈ L, IsU8 s.ch) → rgoodF bl ar L pv ats = cgoodF bl ar L pv ats
 | [], _, _, _ => rfl
 | s :: L, pv, ats, hu => by
  rw [rgoodF, cgoodF, oneS, rgood_eq bl ar L _ _ fun s hs => hu s (by simp [hs])]
  generalize cgoodF bl ar L (some s.id) (ats ++ s.tb.map (·.2)) = R
  generalize decide (1 ≤ s.id) = b1
  generalize decide (s.id ≤ 1000000) = b2
  generalize pvOk pv s.id = b3
  generalize Bt.goodS s.ch bl = b4
  rcases hg : tgood s.tb bl ar with _ | _
  ·cases b1 <;> cases b2 <;> cases b3 <;> cases b4 <;> rfl
  have G := good_iff.1 hg
  rw [ats_iff G.inj G.up]
  have e : s.tb.all (fun p => Bt.hasS s.ch p.1 && !ats.contains p.2) = (s.tb.all (fun p => Bt.hasS s.ch p.1) && s.tb.all (fun p => !ats.contains p.2)) := by
   induction s.tb with
   | nil => rfl
   | cons p l ih =>
    rw [List.all_cons, List.all_cons, List.all_cons, ih]
    cases Bt.hasS s.ch p.1 <;> cases ats.contains p.2 <;> cases l.all (fun p => Bt.hasS s.ch p.1) <;> rfl
  rw [e]
  rcases hh : s.tb.all (fun p => Bt.hasS s.ch p.1) with _ | _
  ·cases b1 <;> cases b2 <;> cases b3 <;> cases b4 <;> rfl
  rw [full_iff G.up (hu s (by simp)) hh]
  generalize s.tb.all (fun p => !ats.contains p.2) = b5
  generalize (Bt.allS s.ch).all (fun c => decide (0 ≤ idxS s.tb c)) = b6
  generalize L.isEmpty = b7
  cases b1 <;> cases b2 <;> cases b3 <;> cases b4 <;> cases b5 <;> cases b6 <;> cases b7 <;> rfl
end Go.Proofs.Ythhodjcgcgkaaaa.G11
end
section
namespace Go.Proofs.Ythhodjcgcgkaaaa.G11
open Go Go.Proofs.Ythhodjcgcgkaaaa.Eng
section
variable {K : AHeap} {B : Nat} {w : AV} {ats : List Int} (fs : FS K B w ats) (al : ats.length ≤ 100000) {s : SnS} {q : Nat} {vc vt : AV} (hq : cellsOf K q = some [.int .i64 s.id, vc, vt]) (bc : BS K vc s.ch) (pt : IsP K vt s.tb) (ft : s.Fit)
include fs al hq pt ft
set_option maxHeartbeats 4000000 in
theorem rgooL0 {k0 : Nat} {p : PrS} (hp : s.tb[k0]? = some p) (x0 x1 x2 x3 x4 x5 x8 x12 x13 x14 x15 x16 x17 x18 x19 x20 x21 x22 x23 x24 x25 x26 x27 x28 x29 x30 x31 x32 x33 x34 x35 x36 x37 x38 x39 x40 x41 x42 x43 x44 x45 x46 x47 x48 x49 x50 x51 x52 x53 x54 x55 x56 x57 x58 x59 x60 x61 x62 x63 x64 x65 x66 x67 x68 x69 x70 x71 x72 x73 x74 x75 x76 x77 x78 x79 x80 x81 x82 x100 x101 x102 x103 x104 x105 x106 x107 x108 x109 x110 x111 x112 x113 x114 x115 x116 x117 x118 x119 x120 x121 x122 x123 x124 x125 x126 x127 x128 x129 x130 x131 x132 x133 x134 x135 x136 x137 x138 x139 : AV) : ∀ (k j : Nat) (j83 j84 j85 j86 j87 j88 j89 j90 j91 j92 j93 j94 j95 j96 j97 j98 j99 : AV), j + k = ats.length →
  Outs (LP1 l15x0 [x0, x1, x2, x3, x4, x5, .bool false, w, x8, .ptr q 0, .int .i64 (k0 : Int), .int .i64 (j : Int), x12, x13, x14, x15, x16, x17, x18, x19, x20, x21, x22, x23, x24, x25, x26, x27, x28, x29, x30, x31, x32, x33, x34, x35, x36, x37, x38, x39, x40, x41, x42, x43, x44, x45, x46, x47, x48, x49, x50, x51, x52, x53, x54, x55, x56, x57, x58, x59, x60, x61, x62, x63, x64, x65, x66, x67, x68, x69, x70, x71, x72, x73, x74, x75, x76, x77, x78, x79, x80, x81, x82, j83, j84, j85, j86, j87, j88, j89, j90, j91, j92, j93, j94, j95, j96, j97, j98, j99, x100, x101, x102, x103, x104, x105, x106, x107, x108, x109, x110, x111, x112, x113, x114, x115, x116, x117, x118, x119, x120, x121, x122, x123, x124, x125, x126, x127, x128, x129, x130, x131, x132, x133, x134, x135, x136, x137, x138, x139] K) fun e t K' => K' = K ∧ ∃ fv : Nat → AV, t = [x0, x1, x2, x3, x4, x5, (fv 6), w, x8, .ptr q 0, .int .i64 (k0 : Int), (fv 11), x12, x13, x14, x15, x16, x17, x18, x19, x20, x21, x22, x23, x24, x25, x26, x27, x28, x29, x30, x31, x32, x33, x34, x35, x36, x37, x38, x39, x40, x41, x42, x43, x44, x45, x46, x47, x48, x49, x50, x51, x52, x53, x54, x55, x56, x57, x58, x59, x60, x61, x62, x63, x64, x65, x66, x67, x68, x69, x70, x71, x72, x73, x74, x75, x76, x77, x78, x79, x80, x81, x82, (fv 83), (fv 84), (fv 85), (fv 86), (fv 87), (fv 88), (fv 89), (fv 90), (fv 91), (fv 92), (fv 93), (fv 94), (fv 95), (fv 96), (fv 97), (fv 98), (fv 99), x100, x101, x102, x103, x104, x105, x106, x107, x108, x109, x110, x111, x112, x113, x114, x115, x116, x117, x118, x119, x120, x121, x122, x123, x124, x125, x126, x127, x128, x129, x130, x131, x132, x133, x134, x135, x136, x137, x138, x139] ∧ fv 6 = .bool false ∧ ((e = .exit 4 ∧ (ats.drop j).contains p.2 = false) ∨ (e = .ret ∧ (ats.drop j).contains p.2 = true)) := by
 intro k
 obtain ⟨L0, hL0⟩ : ∃ L, L = LP1 l15x0 := ⟨_, rfl⟩
 have lo := loop_open hL0
 have wl := fs.len
 rw [← hL0]
 induction k with
 | zero =>
  intro j j83 j84 j85 j86 j87 j88 j89 j90 j91 j92 j93 j94 j95 j96 j97 j98 j99 hj
  obtain rfl : j = ats.length := by omega
  have hd : decide ((ats.length : Int) < (ats.length : Int)) = false := by simp
  rw [List.drop_length, lo]
  unfold l15x0
  simp -implicitDefEqProofs (maxSteps := 5000000) only [go_sem, Nat.reduceShiftRight, Nat.reduceAnd, Nat.reduceBNe, Int.reduceEq, Nat.reduceAdd, Nat.reduceSub, Nat.reduceMul, Nat.reduceLeDiff, reduceIte, reduceCtorEq, Nat.reduceBEq, Nat.reduceEqDiff, wl, hd, seqR_exit', outs_normal]
  exact exF2 rfl ⟨rfl, .inl (by first | rfl | trivial)⟩
 | succ k ih =>
  intro j j83 j84 j85 j86 j87 j88 j89 j90 j91 j92 j93 j94 j95 j96 j97 j98 j99 hj
  have hlt : j < ats.length := by omega
  have hd : decide ((j : Int) < (ats.length : Int)) = true := decide_eq_true (by omega)
  have e2 : IntKind.i64.wrap ((j : Int) + 1) = ((j + 1 : Nat) : Int) := by rw [wrap64 (by omega) (by omega)]; omega
  have hx := List.getElem?_eq_getElem hlt
  rw [List.drop_eq_getElem_cons hlt, List.contains_cons]
  generalize ats[j] = a at *
  obtain ⟨b1, c1, _, ix, hc, h1, _⟩ := fs.read hx
  obtain ⟨b2, c2, _, ix2, hc2, _, r2, _, _⟩ := pt.idx hp
  rw [lo]
  unfold l15x0
  by_cases h : a = p.2
  ·have hb : (a == p.2) = true := by simp [h]
   have hb' : (p.2 == a) = true := by simp [h]
   simp -implicitDefEqProofs (maxSteps := 5000000) only [go_sem, Nat.reduceShiftRight, Nat.reduceAnd, Nat.reduceBNe, Int.reduceEq, Nat.reduceAdd, Nat.reduceSub, Nat.reduceMul, Nat.reduceLeDiff, reduceIte, reduceCtorEq, Nat.reduceBEq, Nat.reduceEqDiff, wrap64, runC_loop, runC_range, callF_fn, callV_fn, callV_yld, yield_eq, yieldBody, yieldRaw, roundMid, roundEnd, rangeEnd, Bool.not_not, put_cons, put_nil, trim_same, at_zero, at_add, set_zero, set_add, store_one, write_zero, write_add, write_head, write_succ, splice_one, splice_more, List.drop_nil, List.take_nil, cell_int, cell_bool, fillS, splice_one, idxA, Ex.isNormal, List.set_nil, List.length_set, List.all_cons, List.all_nil, Bool.and_self, and_self, true_and, and_true, List.getElem?_nil, Int.reduceLT, Int.reduceLE, Int.reduceToNat, Int.toNat_zero, Int.toNat_one, Int.reduceAdd, Int.reduceSub, Int.reduceMul, Int.reduceNeg, Int.reduceBEq, Int.reduceBNe, Int.reduceGE, Int.reduceGT, Nat.reduceLT, trim_keep, under_fn, under_ptr, under_sl, Nat.lt_irrefl, not_lt_add, trim_tail, keepOk, ABlk.vals, Int.cast_ofNat_Int, decide_true, decide_false, List.all_cons, List.all_nil, Nat.zero_mul, Nat.mul_one, Nat.one_mul, wl, hd, ix, hc, h1, hq, ix2, hc2, r2, hb, hb', seqR_ret, outs_normal]
   exact exF2 rfl ⟨rfl, .inr (by first | rfl | trivial)⟩
  ·have hb : (a == p.2) = false := by simp [h]
   have hb' : (p.2 == a) = false := by simp [Ne.symm h]
   simp -implicitDefEqProofs (maxSteps := 5000000) only [go_sem, Nat.reduceShiftRight, Nat.reduceAnd, Nat.reduceBNe, Int.reduceEq, Nat.reduceAdd, Nat.reduceSub, Nat.reduceMul, Nat.reduceLeDiff, reduceIte, reduceCtorEq, Nat.reduceBEq, Nat.reduceEqDiff, wrap64, runC_loop, runC_range, callF_fn, callV_fn, callV_yld, yield_eq, yieldBody, yieldRaw, roundMid, roundEnd, rangeEnd, Bool.not_not, put_cons, put_nil, trim_same, at_zero, at_add, set_zero, set_add, store_one, write_zero, write_add, write_head, write_succ, splice_one, splice_more, List.drop_nil, List.take_nil, cell_int, cell_bool, fillS, splice_one, idxA, Ex.isNormal, List.set_nil, List.length_set, List.all_cons, List.all_nil, Bool.and_self, and_self, true_and, and_true, List.getElem?_nil, Int.reduceLT, Int.reduceLE, Int.reduceToNat, Int.toNat_zero, Int.toNat_one, Int.reduceAdd, Int.reduceSub, Int.reduceMul, Int.reduceNeg, Int.reduceBEq, Int.reduceBNe, Int.reduceGE, Int.reduceGT, Nat.reduceLT, trim_keep, under_fn, under_ptr, under_sl, Nat.lt_irrefl, not_lt_add, trim_tail, keepOk, ABlk.vals, Int.cast_ofNat_Int, decide_true, decide_false, List.all_cons, List.all_nil, Nat.zero_mul, Nat.mul_one, Nat.one_mul, wl, hd, ix, hc, h1, hq, ix2, hc2, r2, hb, hb', e2]
   exact ih (j + 1) _ _ _ _ _ _ _ _ _ _ _ _ _ _ _ _ _ (by omega)
include bc
set_option maxHeartbeats 4000000 in
theorem rgooL1 (hb : ∀ p ∈ s.tb, p.1 ≤ 9223372036854775807) (x0 x1 x2 x3 x4 x5 x8 x12 x13 x14 x15 x16 x17 x18 x19 x20 x21 x22 x23 x24 x25 x26 x27 x28 x29 x30 x31 x32 x33 x34 x35 x36 x37 x38 x39 x40 x41 x42 x43 x44 x45 x46 x47 x48 x49 x50 x51 x52 x53 x54 x55 x56 x57 x58 x59 x60 x61 x62 x63 x64 x65 x100 x101 x102 x103 x104 x105 x106 x107 x108 x109 x110 x111 x112 x113 x114 x115 x116 x117 x118 x119 x120 x121 x122 x123 x124 x125 x126 x127 x128 x129 x130 x131 x132 x133 x134 x135 x136 x137 x138 x139 : AV) : ∀ (k i : Nat) (j11 j66 j67 j68 j69 j70 j71 j72 j73 j74 j75 j76 j77 j78 j79 j80 j81 j82 j83 j84 j85 j86 j87 j88 j89 j90 j91 j92 j93 j94 j95 j96 j97 j98 j99 : AV), i + k = s.tb.length →
  Outs (LP1 l15x1 [x0, x1, x2, x3, x4, x5, .bool false, w, x8, .ptr q 0, .int .i64 (i : Int), j11, x12, x13, x14, x15, x16, x17, x18, x19, x20, x21, x22, x23, x24, x25, x26, x27, x28, x29, x30, x31, x32, x33, x34, x35, x36, x37, x38, x39, x40, x41, x42, x43, x44, x45, x46, x47, x48, x49, x50, x51, x52, x53, x54, x55, x56, x57, x58, x59, x60, x61, x62, x63, x64, x65, j66, j67, j68, j69, j70, j71, j72, j73, j74, j75, j76, j77, j78, j79, j80, j81, j82, j83, j84, j85, j86, j87, j88, j89, j90, j91, j92, j93, j94, j95, j96, j97, j98, j99, x100, x101, x102, x103, x104, x105, x106, x107, x108, x109, x110, x111, x112, x113, x114, x115, x116, x117, x118, x119, x120, x121, x122, x123, x124, x125, x126, x127, x128, x129, x130, x131, x132, x133, x134, x135, x136, x137, x138, x139] K) fun e t K' => K' = K ∧ ∃ fv : Nat → AV, t = [x0, x1, x2, x3, x4, x5, (fv 6), w, x8, .ptr q 0, (fv 10), (fv 11), x12, x13, x14, x15, x16, x17, x18, x19, x20, x21, x22, x23, x24, x25, x26, x27, x28, x29, x30, x31, x32, x33, x34, x35, x36, x37, x38, x39, x40, x41, x42, x43, x44, x45, x46, x47, x48, x49, x50, x51, x52, x53, x54, x55, x56, x57, x58, x59, x60, x61, x62, x63, x64, x65, (fv 66), (fv 67), (fv 68), (fv 69), (fv 70), (fv 71), (fv 72), (fv 73), (fv 74), (fv 75), (fv 76), (fv 77), (fv 78), (fv 79), (fv 80), (fv 81), (fv 82), (fv 83), (fv 84), (fv 85), (fv 86), (fv 87), (fv 88), (fv 89), (fv 90), (fv 91), (fv 92), (fv 93), (fv 94), (fv 95), (fv 96), (fv 97), (fv 98), (fv 99), x100, x101, x102, x103, x104, x105, x106, x107, x108, x109, x110, x111, x112, x113, x114, x115, x116, x117, x118, x119, x120, x121, x122, x123, x124, x125, x126, x127, x128, x129, x130, x131, x132, x133, x134, x135, x136, x137, x138, x139] ∧ fv 6 = .bool false ∧ ((e = .exit 2 ∧ (s.tb.drop i).all (fun p => Bt.hasS s.ch p.1 && !ats.contains p.2) = true) ∨ (e = .ret ∧ (s.tb.drop i).all (fun p => Bt.hasS s.ch p.1 && !ats.contains p.2) = false)) := by
 intro k
 obtain ⟨L0, hL0⟩ : ∃ L, L = LP1 l15x1 := ⟨_, rfl⟩
 have lo := loop_open hL0
 have wl := pt.len
 have lt1 := ft.lt
 rw [← hL0]
 induction k with
 | zero =>
  intro i j11 j66 j67 j68 j69 j70 j71 j72 j73 j74 j75 j76 j77 j78 j79 j80 j81 j82 j83 j84 j85 j86 j87 j88 j89 j90 j91 j92 j93 j94 j95 j96 j97 j98 j99 hi
  obtain rfl : i = s.tb.length := by omega
  have hd : decide ((s.tb.length : Int) < (s.tb.length : Int)) = false := by simp
  rw [List.drop_length, lo]
  unfold l15x1
  simp -implicitDefEqProofs (maxSteps := 5000000) only [go_sem, Nat.reduceShiftRight, Nat.reduceAnd, Nat.reduceBNe, Int.reduceEq, Nat.reduceAdd, Nat.reduceSub, Nat.reduceMul, Nat.reduceLeDiff, reduceIte, reduceCtorEq, Nat.reduceBEq, Nat.reduceEqDiff, wrap64, runC_loop, runC_range, callF_fn, callV_fn, callV_yld, yield_eq, yieldBody, yieldRaw, roundMid, roundEnd, rangeEnd, Bool.not_not, put_cons, put_nil, trim_same, at_zero, at_add, set_zero, set_add, store_one, write_zero, write_add, write_head, write_succ, splice_one, splice_more, List.drop_nil, List.take_nil, cell_int, cell_bool, fillS, splice_one, idxA, Ex.isNormal, List.set_nil, List.length_set, List.all_cons, List.all_nil, Bool.and_self, and_self, true_and, and_true, List.getElem?_nil, Int.reduceLT, Int.reduceLE, Int.reduceToNat, Int.toNat_zero, Int.toNat_one, Int.reduceAdd, Int.reduceSub, Int.reduceMul, Int.reduceNeg, Int.reduceBEq, Int.reduceBNe, Int.reduceGE, Int.reduceGT, Nat.reduceLT, trim_keep, under_fn, under_ptr, under_sl, Nat.lt_irrefl, not_lt_add, trim_tail, keepOk, ABlk.vals, Int.cast_ofNat_Int, decide_true, decide_false, List.all_cons, List.all_nil, Nat.zero_mul, Nat.mul_one, Nat.one_mul, hq, wl, hd, seqR_exit', outs_normal]
  exact exF2 rfl ⟨rfl, .inl (by first | rfl | trivial)⟩
 | succ k ih =>
  intro i j11 j66 j67 j68 j69 j70 j71 j72 j73 j74 j75 j76 j77 j78 j79 j80 j81 j82 j83 j84 j85 j86 j87 j88 j89 j90 j91 j92 j93 j94 j95 j96 j97 j98 j99 hi
  have hlt : i < s.tb.length := by omega
  have hd : decide ((i : Int) < (s.tb.length : Int)) = true := decide_eq_true (by omega)
  have e2 : IntKind.i64.wrap ((i : Int) + 1) = ((i + 1 : Nat) : Int) := by rw [wrap64 (by omega) (by omega)]; omega
  have hx := List.getElem?_eq_getElem hlt
  have hpb := hb _ (List.getElem_mem hlt)
  rw [List.drop_eq_getElem_cons hlt, List.all_cons]
  generalize s.tb[i] = p at *
  obtain ⟨b2, c2, _, ix2, hc2, r1, r2, _, _⟩ := pt.idx hx
  have eh := Bt.hasR bc p.1 hpb
  have l0 := rgooL0 fs al hq pt ft hx (k := ats.length) (j := 0)
  rw [show ((0 : Nat) : Int) = 0 from rfl, List.drop_zero] at l0
  rw [lo]
  unfold l15x1
  rcases hh : Bt.hasS s.ch p.1 with _ | _ <;> rw [hh] at eh
  ·simp -implicitDefEqProofs (maxSteps := 5000000) only [go_sem, Nat.reduceShiftRight, Nat.reduceAnd, Nat.reduceBNe, Int.reduceEq, Nat.reduceAdd, Nat.reduceSub, Nat.reduceMul, Nat.reduceLeDiff, reduceIte, reduceCtorEq, Nat.reduceBEq, Nat.reduceEqDiff, wrap64, runC_loop, runC_range, callF_fn, callV_fn, callV_yld, yield_eq, yieldBody, yieldRaw, roundMid, roundEnd, rangeEnd, Bool.not_not, put_cons, put_nil, trim_same, at_zero, at_add, set_zero, set_add, store_one, write_zero, write_add, write_head, write_succ, splice_one, splice_more, List.drop_nil, List.take_nil, cell_int, cell_bool, fillS, splice_one, idxA, Ex.isNormal, List.set_nil, List.length_set, List.all_cons, List.all_nil, Bool.and_self, and_self, true_and, and_true, List.getElem?_nil, Int.reduceLT, Int.reduceLE, Int.reduceToNat, Int.toNat_zero, Int.toNat_one, Int.reduceAdd, Int.reduceSub, Int.reduceMul, Int.reduceNeg, Int.reduceBEq, Int.reduceBNe, Int.reduceGE, Int.reduceGT, Nat.reduceLT, trim_keep, under_fn, under_ptr, under_sl, Nat.lt_irrefl, not_lt_add, trim_tail, keepOk, ABlk.vals, Int.cast_ofNat_Int, decide_true, decide_false, List.all_cons, List.all_nil, Nat.zero_mul, Nat.mul_one, Nat.one_mul, hq, wl, hd, ix2, hc2, r1, eh, seqR_ret, outs_normal]
   exact exF2 rfl ⟨rfl, .inr (by first | rfl | trivial)⟩
  ·simp -implicitDefEqProofs (maxSteps := 5000000) only [go_sem, Nat.reduceShiftRight, Nat.reduceAnd, Nat.reduceBNe, Int.reduceEq, Nat.reduceAdd, Nat.reduceSub, Nat.reduceMul, Nat.reduceLeDiff, reduceIte, reduceCtorEq, Nat.reduceBEq, Nat.reduceEqDiff, wrap64, runC_loop, runC_range, callF_fn, callV_fn, callV_yld, yield_eq, yieldBody, yieldRaw, roundMid, roundEnd, rangeEnd, Bool.not_not, put_cons, put_nil, trim_same, at_zero, at_add, set_zero, set_add, store_one, write_zero, write_add, write_head, write_succ, splice_one, splice_more, List.drop_nil, List.take_nil, cell_int, cell_bool, fillS, splice_one, idxA, Ex.isNormal, List.set_nil, List.length_set, List.all_cons, List.all_nil, Bool.and_self, and_self, true_and, and_true, List.getElem?_nil, Int.reduceLT, Int.reduceLE, Int.reduceToNat, Int.toNat_zero, Int.toNat_one, Int.reduceAdd, Int.reduceSub, Int.reduceMul, Int.reduceNeg, Int.reduceBEq, Int.reduceBNe, Int.reduceGE, Int.reduceGT, Nat.reduceLT, trim_keep, under_fn, under_ptr, under_sl, Nat.lt_irrefl, not_lt_add, trim_tail, keepOk, ABlk.vals, Int.cast_ofNat_Int, decide_true, decide_false, List.all_cons, List.all_nil, Nat.zero_mul, Nat.mul_one, Nat.one_mul, runC_loop, hq, wl, hd, ix2, hc2, r1, eh]
   unfold LP1 at l0
   generalize (envL prog).loop (runC (envL prog) (l15x0 (envL prog))) = LL at l0 ⊢
   refine outs_ctx (fun r => seqR (seqR (blockR 3 (blockR 4 r)) _) _) (l0 _ _ _ _ _ _ _ _ _ _ _ _ _ _ _ _ _ _ _ _ _ _ _ _ _ _ _ _ _ _ _ _ _ _ _ _ _ _ _ _ _ _ _ _ _ _ _ _ _ _ _ _ _ _ _ _ _ _ _ _ _ _ _ _ _ _ _ _ _ _ _ _ _ _ _ _ _ _ _ _ _ _ _ _ _ _ _ _ _ _ _ _ _ _ _ _ _ _ _ _ _ _ _ _ _ _ _ _ _ _ _ _ _ _ _ _ _ _ _ _ _ _ _ _ _ _ _ _ _ _ _ _ _ _ _ (by omega)) ?_
   rintro e t K' ⟨rfl, fv, rfl, f6, ⟨rfl, ho⟩ | ⟨rfl, ho⟩⟩
   ·rw [ho]
    simp -implicitDefEqProofs (maxSteps := 5000000) only [go_sem, Nat.reduceShiftRight, Nat.reduceAnd, Nat.reduceBNe, Int.reduceEq, Nat.reduceAdd, Nat.reduceSub, Nat.reduceMul, Nat.reduceLeDiff, reduceIte, reduceCtorEq, Nat.reduceBEq, Nat.reduceEqDiff, wrap64, runC_loop, runC_range, callF_fn, callV_fn, callV_yld, yield_eq, yieldBody, yieldRaw, roundMid, roundEnd, rangeEnd, Bool.not_not, put_cons, put_nil, trim_same, at_zero, at_add, set_zero, set_add, store_one, write_zero, write_add, write_head, write_succ, splice_one, splice_more, List.drop_nil, List.take_nil, cell_int, cell_bool, fillS, splice_one, idxA, Ex.isNormal, List.set_nil, List.length_set, List.all_cons, List.all_nil, Bool.and_self, and_self, true_and, and_true, List.getElem?_nil, Int.reduceLT, Int.reduceLE, Int.reduceToNat, Int.toNat_zero, Int.toNat_one, Int.reduceAdd, Int.reduceSub, Int.reduceMul, Int.reduceNeg, Int.reduceBEq, Int.reduceBNe, Int.reduceGE, Int.reduceGT, Nat.reduceLT, trim_keep, under_fn, under_ptr, under_sl, Nat.lt_irrefl, not_lt_add, trim_tail, keepOk, ABlk.vals, Int.cast_ofNat_Int, decide_true, decide_false, List.all_cons, List.all_nil, Nat.zero_mul, Nat.mul_one, Nat.one_mul, f6, e2]
    exact ih (i + 1) _ _ _ _ _ _ _ _ _ _ _ _ _ _ _ _ _ _ _ _ _ _ _ _ _ _ _ _ _ _ _ _ _ _ _ (by omega)
   ·rw [ho]
    simp -implicitDefEqProofs (maxSteps := 5000000) only [go_sem, Nat.reduceShiftRight, Nat.reduceAnd, Nat.reduceBNe, Int.reduceEq, Nat.reduceAdd, Nat.reduceSub, Nat.reduceMul, Nat.reduceLeDiff, reduceIte, reduceCtorEq, Nat.reduceBEq, Nat.reduceEqDiff, wrap64, runC_loop, runC_range, callF_fn, callV_fn, callV_yld, yield_eq, yieldBody, yieldRaw, roundMid, roundEnd, rangeEnd, Bool.not_not, put_cons, put_nil, trim_same, at_zero, at_add, set_zero, set_add, store_one, write_zero, write_add, write_head, write_succ, splice_one, splice_more, List.drop_nil, List.take_nil, cell_int, cell_bool, fillS, splice_one, idxA, Ex.isNormal, List.set_nil, List.length_set, List.all_cons, List.all_nil, Bool.and_self, and_self, true_and, and_true, List.getElem?_nil, Int.reduceLT, Int.reduceLE, Int.reduceToNat, Int.toNat_zero, Int.toNat_one, Int.reduceAdd, Int.reduceSub, Int.reduceMul, Int.reduceNeg, Int.reduceBEq, Int.reduceBNe, Int.reduceGE, Int.reduceGT, Nat.reduceLT, trim_keep, under_fn, under_ptr, under_sl, Nat.lt_irrefl, not_lt_add, trim_tail, keepOk, ABlk.vals, Int.cast_ofNat_Int, decide_true, decide_false, List.all_cons, List.all_nil, Nat.zero_mul, Nat.mul_one, Nat.one_mul, seqR_ret, outs_normal]
    exact exF2 rfl ⟨f6, .inr (by first | rfl | trivial)⟩
end
section
variable {H : AHeap} {s : SnS} {q : Nat} {vc vt : AV} (pt : IsP H vt s.tb) (ft : s.Fit)
include pt ft
set_option maxHeartbeats 4000000 in
theorem rgooL2 (x0 x1 x2 x3 x4 x5 x6 x8 x10 x11 x13 x14 x15 x16 x17 x18 x19 x20 x21 x22 x23 x24 x25 x26 x27 x28 x29 x30 x31 x32 x33 x34 x35 x36 x37 x38 x39 x40 x41 x42 x43 x44 x45 x46 x47 x48 x49 x50 x51 x52 x53 x54 x55 x56 x57 x58 x59 x60 x61 x62 x63 x64 x65 x66 x67 x68 x69 x70 x71 x72 x73 x74 x75 x76 x77 x78 x79 x80 x81 x82 x83 x84 x85 x86 x87 x88 x89 x90 x91 x92 x93 x94 x95 x96 x97 x98 x99 x116 x117 x118 x119 x120 x121 x122 x123 x124 x125 x126 x127 x128 x129 x130 x131 x132 x133 x134 x135 x136 x137 x138 x139 : AV) : ∀ (k i : Nat) (K : AHeap) (w : AV) (ats : List Int) (j100 j101 j102 j103 j104 j105 j106 j107 j108 j109 j110 j111 j112 j113 j114 j115 : AV), Adds H K → FS K H.length w ats → cellsOf K q = some [.int .i64 s.id, vc, vt] → (∀ b, slb w = some b → b ≠ q) → ats.length ≤ 100000 + i → i + k = s.tb.length →
  Outs (LP1 l15x2 [x0, x1, x2, x3, x4, x5, x6, w, x8, .ptr q 0, x10, x11, .int .i64 (i : Int), x13, x14, x15, x16, x17, x18, x19, x20, x21, x22, x23, x24, x25, x26, x27, x28, x29, x30, x31, x32, x33, x34, x35, x36, x37, x38, x39, x40, x41, x42, x43, x44, x45, x46, x47, x48, x49, x50, x51, x52, x53, x54, x55, x56, x57, x58, x59, x60, x61, x62, x63, x64, x65, x66, x67, x68, x69, x70, x71, x72, x73, x74, x75, x76, x77, x78, x79, x80, x81, x82, x83, x84, x85, x86, x87, x88, x89, x90, x91, x92, x93, x94, x95, x96, x97, x98, x99, j100, j101, j102, j103, j104, j105, j106, j107, j108, j109, j110, j111, j112, j113, j114, j115, x116, x117, x118, x119, x120, x121, x122, x123, x124, x125, x126, x127, x128, x129, x130, x131, x132, x133, x134, x135, x136, x137, x138, x139] K) fun e t K' => e = .exit 6 ∧ Adds H K' ∧ cellsOf K' q = some [.int .i64 s.id, vc, vt] ∧ ∃ fv : Nat → AV, t = [x0, x1, x2, x3, x4, x5, x6, (fv 7), x8, .ptr q 0, x10, x11, (fv 12), x13, x14, x15, x16, x17, x18, x19, x20, x21, x22, x23, x24, x25, x26, x27, x28, x29, x30, x31, x32, x33, x34, x35, x36, x37, x38, x39, x40, x41, x42, x43, x44, x45, x46, x47, x48, x49, x50, x51, x52, x53, x54, x55, x56, x57, x58, x59, x60, x61, x62, x63, x64, x65, x66, x67, x68, x69, x70, x71, x72, x73, x74, x75, x76, x77, x78, x79, x80, x81, x82, x83, x84, x85, x86, x87, x88, x89, x90, x91, x92, x93, x94, x95, x96, x97, x98, x99, (fv 100), (fv 101), (fv 102), (fv 103), (fv 104), (fv 105), (fv 106), (fv 107), (fv 108), (fv 109), (fv 110), (fv 111), (fv 112), (fv 113), (fv 114), (fv 115), x116, x117, x118, x119, x120, x121, x122, x123, x124, x125, x126, x127, x128, x129, x130, x131, x132, x133, x134, x135, x136, x137, x138, x139] ∧ FS K' H.length (fv 7) (ats ++ (s.tb.drop i).map (·.2)) := by
 intro k
 obtain ⟨L0, hL0⟩ : ∃ L, L = LP1 l15x2 := ⟨_, rfl⟩
 have lo := loop_open hL0
 have wl := pt.len
 have lt1 := ft.lt
 rw [← hL0]
 induction k with
 | zero =>
  intro i K w ats j100 j101 j102 j103 j104 j105 j106 j107 j108 j109 j110 j111 j112 j113 j114 j115 aK fs hq hne al hi
  obtain rfl : i = s.tb.length := by omega
  have hd : decide ((s.tb.length : Int) < (s.tb.length : Int)) = false := by simp
  rw [List.drop_length, lo]
  unfold l15x2
  simp -implicitDefEqProofs (maxSteps := 5000000) only [go_sem, Nat.reduceShiftRight, Nat.reduceAnd, Nat.reduceBNe, Int.reduceEq, Nat.reduceAdd, Nat.reduceSub, Nat.reduceMul, Nat.reduceLeDiff, reduceIte, reduceCtorEq, Nat.reduceBEq, Nat.reduceEqDiff, wrap64, runC_loop, runC_range, callF_fn, callV_fn, callV_yld, yield_eq, yieldBody, yieldRaw, roundMid, roundEnd, rangeEnd, Bool.not_not, put_cons, put_nil, trim_same, at_zero, at_add, set_zero, set_add, store_one, write_zero, write_add, write_head, write_succ, splice_one, splice_more, List.drop_nil, List.take_nil, cell_int, cell_bool, fillS, splice_one, idxA, Ex.isNormal, List.set_nil, List.length_set, List.all_cons, List.all_nil, Bool.and_self, and_self, true_and, and_true, List.getElem?_nil, Int.reduceLT, Int.reduceLE, Int.reduceToNat, Int.toNat_zero, Int.toNat_one, Int.reduceAdd, Int.reduceSub, Int.reduceMul, Int.reduceNeg, Int.reduceBEq, Int.reduceBNe, Int.reduceGE, Int.reduceGT, Nat.reduceLT, trim_keep, under_fn, under_ptr, under_sl, Nat.lt_irrefl, not_lt_add, trim_tail, keepOk, ABlk.vals, Int.cast_ofNat_Int, decide_true, decide_false, List.all_cons, List.all_nil, Nat.zero_mul, Nat.mul_one, Nat.one_mul, hq, wl, hd, seqR_exit', outs_normal]
  exact ⟨aK, exF2 rfl fs⟩
 | succ k ih =>
  intro i K w ats j100 j101 j102 j103 j104 j105 j106 j107 j108 j109 j110 j111 j112 j113 j114 j115 aK fs hq hne al hi
  have hlt : i < s.tb.length := by omega
  have hd : decide ((i : Int) < (s.tb.length : Int)) = true := decide_eq_true (by omega)
  have e2 : IntKind.i64.wrap ((i : Int) + 1) = ((i + 1 : Nat) : Int) := by rw [wrap64 (by omega) (by omega)]; omega
  have hx := List.getElem?_eq_getElem hlt
  rw [List.drop_eq_getElem_cons hlt, List.map_cons]
  generalize s.tb[i] = p at *
  obtain ⟨b2, c2, _, ix2, hc0, r1, r2, _, _⟩ := pt.idx hx
  have hc2 := aK.cells hc0
  obtain ⟨K2, hK2⟩ : ∃ K2, K2 = K ++ [ABlk.rw [.int .i64 p.2]] := ⟨_, rfl⟩
  have A2 : Adds K K2 := ⟨_, hK2⟩
  have cs2 : cellsOf K2 K.length = some [.int .i64 p.2] := by rw [hK2]; unfold cellsOf; simp
  obtain ⟨w', K3, ep, f3, fr3, sb3, l3⟩ := FS.push (fs.frT (Fr.adds A2 (fun _ => False)) fun _ _ h => h) cs2 (by omega) (by have := aK.len; have := A2.len; omega)
  have a3 : Adds H K3 := fr3.old (aK.trans A2) fun b hb h => by have := (FS.out fs b h).1; omega
  have q3 : cellsOf K3 q = some [.int .i64 s.id, vc, vt] := fr3.cells (A2.cells hq) fun h => hne q h rfl
  have hK2 := hK2.symm
  have key := ih (i + 1) K3 w' (ats ++ [p.2])
  rw [List.append_assoc, List.singleton_append] at key
  have lq : q < K.length := lt_of_cells hq
  rw [lo]
  unfold l15x2
  simp -implicitDefEqProofs (maxSteps := 5000000) only [go_sem, Nat.reduceShiftRight, Nat.reduceAnd, Nat.reduceBNe, Int.reduceEq, Nat.reduceAdd, Nat.reduceSub, Nat.reduceMul, Nat.reduceLeDiff, reduceIte, reduceCtorEq, Nat.reduceBEq, Nat.reduceEqDiff, wrap64, runC_loop, runC_range, callF_fn, callV_fn, callV_yld, yield_eq, yieldBody, yieldRaw, roundMid, roundEnd, rangeEnd, Bool.not_not, put_cons, put_nil, trim_same, at_zero, at_add, set_zero, set_add, store_one, write_zero, write_add, write_head, write_succ, splice_one, splice_more, List.drop_nil, List.take_nil, cell_int, cell_bool, fillS, splice_one, idxA, Ex.isNormal, List.set_nil, List.length_set, List.all_cons, List.all_nil, Bool.and_self, and_self, true_and, and_true, List.getElem?_nil, Int.reduceLT, Int.reduceLE, Int.reduceToNat, Int.toNat_zero, Int.toNat_one, Int.reduceAdd, Int.reduceSub, Int.reduceMul, Int.reduceNeg, Int.reduceBEq, Int.reduceBNe, Int.reduceGE, Int.reduceGT, Nat.reduceLT, trim_keep, under_fn, under_ptr, under_sl, Nat.lt_irrefl, not_lt_add, trim_tail, keepOk, ABlk.vals, Int.cast_ofNat_Int, decide_true, decide_false, List.all_cons, List.all_nil, Nat.zero_mul, Nat.mul_one, Nat.one_mul, hq, wl, hd, ix2, hc2, r2, hK2, ep, e2]
  exact key _ _ _ _ _ _ _ _ _ _ _ _ _ _ _ _ a3 f3 q3 (fun b h => by rw [sb3] at h; injection h with h; have := A2.len; omega) (by rw [List.length_append, List.length_singleton]; omega) (by omega)
end
section
variable {K : AHeap} {v : AV} {n i0 : Nat} (wv : lenSl v = some (.int .i64 (n : Int))) (hn : n ≤ 1000) (hi0 : i0 < n) {cl : AV} {cs : List Int} (hcl : IS K cl cs) (cn : cs.length ≤ 100000) {s : SnS} {q : Nat} {vc vt : AV} (hq : cellsOf K q = some [.int .i64 s.id, vc, vt]) (pt : IsP K vt s.tb) (ft : s.Fit)
include wv hn hi0 hcl cn hq pt ft
set_option maxHeartbeats 4000000 in
theorem rgooL3 (x1 x2 x3 x4 x5 x7 x10 x11 x12 x15 x16 x17 x18 x19 x20 x21 x22 x23 x24 x25 x26 x27 x28 x29 x30 x31 x32 x33 x34 x35 x36 x37 x38 x39 x40 x41 x42 x43 x44 x45 x46 x47 x48 x49 x50 x51 x52 x53 x54 x55 x56 x57 x58 x59 x60 x61 x62 x63 x64 x65 x66 x67 x68 x69 x70 x71 x72 x73 x74 x75 x76 x77 x78 x79 x80 x81 x82 x83 x84 x85 x86 x87 x88 x89 x90 x91 x92 x93 x94 x95 x96 x97 x98 x99 x100 x101 x102 x103 x104 x105 x106 x107 x108 x109 x110 x111 x112 x113 x114 x115 x116 x117 x118 : AV) : ∀ (k j : Nat) (j119 j120 j121 j122 j123 j124 j125 j126 j127 j128 j129 j130 j131 j132 j133 j134 j135 j136 j137 j138 j139 : AV), j + k = cs.length →
  Outs (LP1 l15x3 [v, x1, x2, x3, x4, x5, .bool false, x7, .int .i64 (i0 : Int), .ptr q 0, x10, x11, x12, cl, .int .i64 (j : Int), x15, x16, x17, x18, x19, x20, x21, x22, x23, x24, x25, x26, x27, x28, x29, x30, x31, x32, x33, x34, x35, x36, x37, x38, x39, x40, x41, x42, x43, x44, x45, x46, x47, x48, x49, x50, x51, x52, x53, x54, x55, x56, x57, x58, x59, x60, x61, x62, x63, x64, x65, x66, x67, x68, x69, x70, x71, x72, x73, x74, x75, x76, x77, x78, x79, x80, x81, x82, x83, x84, x85, x86, x87, x88, x89, x90, x91, x92, x93, x94, x95, x96, x97, x98, x99, x100, x101, x102, x103, x104, x105, x106, x107, x108, x109, x110, x111, x112, x113, x114, x115, x116, x117, x118, j119, j120, j121, j122, j123, j124, j125, j126, j127, j128, j129, j130, j131, j132, j133, j134, j135, j136, j137, j138, j139] K) fun e t K' => K' = K ∧ ∃ fv : Nat → AV, t = [v, x1, x2, x3, x4, x5, (fv 6), x7, .int .i64 (i0 : Int), .ptr q 0, x10, x11, x12, cl, (fv 14), x15, x16, x17, x18, x19, x20, x21, x22, x23, x24, x25, x26, x27, x28, x29, x30, x31, x32, x33, x34, x35, x36, x37, x38, x39, x40, x41, x42, x43, x44, x45, x46, x47, x48, x49, x50, x51, x52, x53, x54, x55, x56, x57, x58, x59, x60, x61, x62, x63, x64, x65, x66, x67, x68, x69, x70, x71, x72, x73, x74, x75, x76, x77, x78, x79, x80, x81, x82, x83, x84, x85, x86, x87, x88, x89, x90, x91, x92, x93, x94, x95, x96, x97, x98, x99, x100, x101, x102, x103, x104, x105, x106, x107, x108, x109, x110, x111, x112, x113, x114, x115, x116, x117, x118, (fv 119), (fv 120), (fv 121), (fv 122), (fv 123), (fv 124), (fv 125), (fv 126), (fv 127), (fv 128), (fv 129), (fv 130), (fv 131), (fv 132), (fv 133), (fv 134), (fv 135), (fv 136), (fv 137), (fv 138), (fv 139)] ∧ fv 6 = .bool false ∧ ((e = .exit 8 ∧ (decide (n ≤ i0 + 1) || (cs.drop j).all (fun c => decide (0 ≤ idxS s.tb c))) = true) ∨ (e = .ret ∧ (decide (n ≤ i0 + 1) || (cs.drop j).all (fun c => decide (0 ≤ idxS s.tb c))) = false)) := by
 intro k
 obtain ⟨L0, hL0⟩ : ∃ L, L = LP1 l15x3 := ⟨_, rfl⟩
 have lo := loop_open hL0
 have wl := hcl.len
 have lt1 := ft.lt
 have e1 : IntKind.i64.wrap ((i0 : Int) + 1) = ((i0 + 1 : Nat) : Int) := by rw [wrap64 (by omega) (by omega)]; omega
 rw [← hL0]
 induction k with
 | zero =>
  intro j j119 j120 j121 j122 j123 j124 j125 j126 j127 j128 j129 j130 j131 j132 j133 j134 j135 j136 j137 j138 j139 hj
  obtain rfl : j = cs.length := by omega
  have hd : decide ((cs.length : Int) < (cs.length : Int)) = false := by simp
  rw [List.drop_length, List.all_nil, Bool.or_true, lo]
  unfold l15x3
  simp -implicitDefEqProofs (maxSteps := 5000000) only [go_sem, Nat.reduceShiftRight, Nat.reduceAnd, Nat.reduceBNe, Int.reduceEq, Nat.reduceAdd, Nat.reduceSub, Nat.reduceMul, Nat.reduceLeDiff, reduceIte, reduceCtorEq, Nat.reduceBEq, Nat.reduceEqDiff, wrap64, runC_loop, runC_range, callF_fn, callV_fn, callV_yld, yield_eq, yieldBody, yieldRaw, roundMid, roundEnd, rangeEnd, Bool.not_not, put_cons, put_nil, trim_same, at_zero, at_add, set_zero, set_add, store_one, write_zero, write_add, write_head, write_succ, splice_one, splice_more, List.drop_nil, List.take_nil, cell_int, cell_bool, fillS, splice_one, idxA, Ex.isNormal, List.set_nil, List.length_set, List.all_cons, List.all_nil, Bool.and_self, and_self, true_and, and_true, List.getElem?_nil, Int.reduceLT, Int.reduceLE, Int.reduceToNat, Int.toNat_zero, Int.toNat_one, Int.reduceAdd, Int.reduceSub, Int.reduceMul, Int.reduceNeg, Int.reduceBEq, Int.reduceBNe, Int.reduceGE, Int.reduceGT, Nat.reduceLT, trim_keep, under_fn, under_ptr, under_sl, Nat.lt_irrefl, not_lt_add, trim_tail, keepOk, ABlk.vals, Int.cast_ofNat_Int, decide_true, decide_false, List.all_cons, List.all_nil, Nat.zero_mul, Nat.mul_one, Nat.one_mul, wl, hd, seqR_exit', outs_normal]
  exact exF2 rfl ⟨rfl, .inl (by first | rfl | trivial)⟩
 | succ k ih =>
  intro j j119 j120 j121 j122 j123 j124 j125 j126 j127 j128 j129 j130 j131 j132 j133 j134 j135 j136 j137 j138 j139 hj
  have hlt : j < cs.length := by omega
  have hd : decide ((j : Int) < (cs.length : Int)) = true := decide_eq_true (by omega)
  have e2 : IntKind.i64.wrap ((j : Int) + 1) = ((j + 1 : Nat) : Int) := by rw [wrap64 (by omega) (by omega)]; omega
  have hx := List.getElem?_eq_getElem hlt
  rw [lo]
  unfold l15x3
  by_cases hl : n ≤ i0 + 1
  ·have dl : decide (((i0 + 1 : Nat) : Int) < (n : Int)) = false := decide_eq_false (by omega)
   rw [decide_eq_true hl, Bool.true_or]
   simp -implicitDefEqProofs (maxSteps := 5000000) only [go_sem, Nat.reduceShiftRight, Nat.reduceAnd, Nat.reduceBNe, Int.reduceEq, Nat.reduceAdd, Nat.reduceSub, Nat.reduceMul, Nat.reduceLeDiff, reduceIte, reduceCtorEq, Nat.reduceBEq, Nat.reduceEqDiff, wrap64, runC_loop, runC_range, callF_fn, callV_fn, callV_yld, yield_eq, yieldBody, yieldRaw, roundMid, roundEnd, rangeEnd, Bool.not_not, put_cons, put_nil, trim_same, at_zero, at_add, set_zero, set_add, store_one, write_zero, write_add, write_head, write_succ, splice_one, splice_more, List.drop_nil, List.take_nil, cell_int, cell_bool, fillS, splice_one, idxA, Ex.isNormal, List.set_nil, List.length_set, List.all_cons, List.all_nil, Bool.and_self, and_self, true_and, and_true, List.getElem?_nil, Int.reduceLT, Int.reduceLE, Int.reduceToNat, Int.toNat_zero, Int.toNat_one, Int.reduceAdd, Int.reduceSub, Int.reduceMul, Int.reduceNeg, Int.reduceBEq, Int.reduceBNe, Int.reduceGE, Int.reduceGT, Nat.reduceLT, trim_keep, under_fn, under_ptr, under_sl, Nat.lt_irrefl, not_lt_add, trim_tail, keepOk, ABlk.vals, Int.cast_ofNat_Int, decide_true, decide_false, List.all_cons, List.all_nil, Nat.zero_mul, Nat.mul_one, Nat.one_mul, wl, hd, e1, wv, dl, seqR_exit', outs_normal]
   exact exF2 rfl ⟨rfl, .inl (by first | rfl | trivial)⟩
  ·have dl : decide (((i0 + 1 : Nat) : Int) < (n : Int)) = true := decide_eq_true (by omega)
   simp -zeta only [decide_eq_false hl, Bool.false_or] at ih
   rw [decide_eq_false hl, Bool.false_or]
   rw [List.drop_eq_getElem_cons hlt, List.all_cons]
   generalize cs[j] = c at *
   obtain ⟨a, ix, ld⟩ := hcl.idx hx .i64
   have ef := rfindC pt (by omega) c
   by_cases h : idxS s.tb c < 0
   ·have dn := decide_eq_true h
    rw [decide_eq_false (show ¬ 0 ≤ idxS s.tb c by omega)]
    simp -implicitDefEqProofs (maxSteps := 5000000) only [go_sem, Nat.reduceShiftRight, Nat.reduceAnd, Nat.reduceBNe, Int.reduceEq, Nat.reduceAdd, Nat.reduceSub, Nat.reduceMul, Nat.reduceLeDiff, reduceIte, reduceCtorEq, Nat.reduceBEq, Nat.reduceEqDiff, wrap64, runC_loop, runC_range, callF_fn, callV_fn, callV_yld, yield_eq, yieldBody, yieldRaw, roundMid, roundEnd, rangeEnd, Bool.not_not, put_cons, put_nil, trim_same, at_zero, at_add, set_zero, set_add, store_one, write_zero, write_add, write_head, write_succ, splice_one, splice_more, List.drop_nil, List.take_nil, cell_int, cell_bool, fillS, splice_one, idxA, Ex.isNormal, List.set_nil, List.length_set, List.all_cons, List.all_nil, Bool.and_self, and_self, true_and, and_true, List.getElem?_nil, Int.reduceLT, Int.reduceLE, Int.reduceToNat, Int.toNat_zero, Int.toNat_one, Int.reduceAdd, Int.reduceSub, Int.reduceMul, Int.reduceNeg, Int.reduceBEq, Int.reduceBNe, Int.reduceGE, Int.reduceGT, Nat.reduceLT, trim_keep, under_fn, under_ptr, under_sl, Nat.lt_irrefl, not_lt_add, trim_tail, keepOk, ABlk.vals, Int.cast_ofNat_Int, decide_true, decide_false, List.all_cons, List.all_nil, Nat.zero_mul, Nat.mul_one, Nat.one_mul, wl, hd, e1, wv, dl, hq, ix, ld, ef, dn, seqR_ret, outs_normal]
    exact exF2 rfl ⟨rfl, .inr (by first | rfl | trivial)⟩
   ·have dn := decide_eq_false h
    rw [decide_eq_true (show 0 ≤ idxS s.tb c by omega), Bool.true_and]
    simp -implicitDefEqProofs (maxSteps := 5000000) only [go_sem, Nat.reduceShiftRight, Nat.reduceAnd, Nat.reduceBNe, Int.reduceEq, Nat.reduceAdd, Nat.reduceSub, Nat.reduceMul, Nat.reduceLeDiff, reduceIte, reduceCtorEq, Nat.reduceBEq, Nat.reduceEqDiff, wrap64, runC_loop, runC_range, callF_fn, callV_fn, callV_yld, yield_eq, yieldBody, yieldRaw, roundMid, roundEnd, rangeEnd, Bool.not_not, put_cons, put_nil, trim_same, at_zero, at_add, set_zero, set_add, store_one, write_zero, write_add, write_head, write_succ, splice_one, splice_more, List.drop_nil, List.take_nil, cell_int, cell_bool, fillS, splice_one, idxA, Ex.isNormal, List.set_nil, List.length_set, List.all_cons, List.all_nil, Bool.and_self, and_self, true_and, and_true, List.getElem?_nil, Int.reduceLT, Int.reduceLE, Int.reduceToNat, Int.toNat_zero, Int.toNat_one, Int.reduceAdd, Int.reduceSub, Int.reduceMul, Int.reduceNeg, Int.reduceBEq, Int.reduceBNe, Int.reduceGE, Int.reduceGT, Nat.reduceLT, trim_keep, under_fn, under_ptr, under_sl, Nat.lt_irrefl, not_lt_add, trim_tail, keepOk, ABlk.vals, Int.cast_ofNat_Int, decide_true, decide_false, List.all_cons, List.all_nil, Nat.zero_mul, Nat.mul_one, Nat.one_mul, wl, hd, e1, wv, dl, hq, ix, ld, ef, dn, e2]
    exact ih (j + 1) _ _ _ _ _ _ _ _ _ _ _ _ _ _ _ _ _ _ _ _ _ (by omega)
end
end Go.Proofs.Ythhodjcgcgkaaaa.G11
end
section
namespace Go.Proofs.Ythhodjcgcgkaaaa.G11
open Go Go.Proofs.Ythhodjcgcgkaaaa.Eng
theorem isC_row {H : AHeap} {v : AV} {L : List SnS} (g : IsC H v L) {i : Nat} {s : SnS} (h : L[i]? = some s) :
  ∃ b cs vc vt, idxAddrS 3 v (.int .i64 (i : Int)) = some (.ptr b (i * 3)) ∧ cellsOf H b = some cs ∧ cs[i * 3]? = some (.int .i64 s.id) ∧ (cs.drop (i * 3)).take 3 = [.int .i64 s.id, vc, vt] ∧ i * 3 + 3 ≤ cs.length ∧ BS H vc s.ch ∧ IsP H vt s.tb := by
 obtain ⟨b, cs, vc, vt, sb, ix, hc, h1, h2, h3, ht, hle, hb, hp⟩ := g.idx h
 exact ⟨b, cs, vc, vt, ix, hc, h1, ht, hle, hb, hp⟩
section
variable {H : AHeap} {v : AV} {L : List SnS} (g : IsC H v L) (fi : Fits L) (h8 : L.length ≤ 8) {bl : Int} (hbl : bl ≤ 9223372036854775807) (ar : Int)
include g fi h8 hbl
set_option maxHeartbeats 8000000 in
theorem rgooL4 (x3 x4 x5 x15 x16 x17 : AV) : ∀ (k i : Nat) (K : AHeap) (w : AV) (ats : List Int) (j9 j10 j11 j12 j13 j14 j18 j19 j20 j21 j22 j23 j24 j25 j26 j27 j28 j29 j30 j31 j32 j33 j34 j35 j36 j37 j38 j39 j40 j41 j42 j43 j44 j45 j46 j47 j48 j49 j50 j51 j52 j53 j54 j55 j56 j57 j58 j59 j60 j61 j62 j63 j64 j65 j66 j67 j68 j69 j70 j71 j72 j73 j74 j75 j76 j77 j78 j79 j80 j81 j82 j83 j84 j85 j86 j87 j88 j89 j90 j91 j92 j93 j94 j95 j96 j97 j98 j99 j100 j101 j102 j103 j104 j105 j106 j107 j108 j109 j110 j111 j112 j113 j114 j115 j116 j117 j118 j119 j120 j121 j122 j123 j124 j125 j126 j127 j128 j129 j130 j131 j132 j133 j134 j135 j136 j137 j138 j139 : AV), Adds H K → FS K H.length w ats → ats.length ≤ 1000 * i → i + k = L.length →
  Outs (LP1 l15x4 [v, .int .i64 bl, .int .i64 ar, x3, x4, x5, .bool false, w, .int .i64 (i : Int), j9, j10, j11, j12, j13, j14, x15, x16, x17, j18, j19, j20, j21, j22, j23, j24, j25, j26, j27, j28, j29, j30, j31, j32, j33, j34, j35, j36, j37, j38, j39, j40, j41, j42, j43, j44, j45, j46, j47, j48, j49, j50, j51, j52, j53, j54, j55, j56, j57, j58, j59, j60, j61, j62, j63, j64, j65, j66, j67, j68, j69, j70, j71, j72, j73, j74, j75, j76, j77, j78, j79, j80, j81, j82, j83, j84, j85, j86, j87, j88, j89, j90, j91, j92, j93, j94, j95, j96, j97, j98, j99, j100, j101, j102, j103, j104, j105, j106, j107, j108, j109, j110, j111, j112, j113, j114, j115, j116, j117, j118, j119, j120, j121, j122, j123, j124, j125, j126, j127, j128, j129, j130, j131, j132, j133, j134, j135, j136, j137, j138, j139] K) fun e t K' => Adds H K' ∧ ∃ fv : Nat → AV, t = [v, .int .i64 bl, .int .i64 ar, x3, x4, x5, (fv 6), (fv 7), (fv 8), (fv 9), (fv 10), (fv 11), (fv 12), (fv 13), (fv 14), x15, x16, x17, (fv 18), (fv 19), (fv 20), (fv 21), (fv 22), (fv 23), (fv 24), (fv 25), (fv 26), (fv 27), (fv 28), (fv 29), (fv 30), (fv 31), (fv 32), (fv 33), (fv 34), (fv 35), (fv 36), (fv 37), (fv 38), (fv 39), (fv 40), (fv 41), (fv 42), (fv 43), (fv 44), (fv 45), (fv 46), (fv 47), (fv 48), (fv 49), (fv 50), (fv 51), (fv 52), (fv 53), (fv 54), (fv 55), (fv 56), (fv 57), (fv 58), (fv 59), (fv 60), (fv 61), (fv 62), (fv 63), (fv 64), (fv 65), (fv 66), (fv 67), (fv 68), (fv 69), (fv 70), (fv 71), (fv 72), (fv 73), (fv 74), (fv 75), (fv 76), (fv 77), (fv 78), (fv 79), (fv 80), (fv 81), (fv 82), (fv 83), (fv 84), (fv 85), (fv 86), (fv 87), (fv 88), (fv 89), (fv 90), (fv 91), (fv 92), (fv 93), (fv 94), (fv 95), (fv 96), (fv 97), (fv 98), (fv 99), (fv 100), (fv 101), (fv 102), (fv 103), (fv 104), (fv 105), (fv 106), (fv 107), (fv 108), (fv 109), (fv 110), (fv 111), (fv 112), (fv 113), (fv 114), (fv 115), (fv 116), (fv 117), (fv 118), (fv 119), (fv 120), (fv 121), (fv 122), (fv 123), (fv 124), (fv 125), (fv 126), (fv 127), (fv 128), (fv 129), (fv 130), (fv 131), (fv 132), (fv 133), (fv 134), (fv 135), (fv 136), (fv 137), (fv 138), (fv 139)] ∧ fv 6 = .bool false ∧ ((e = .exit 0 ∧ rgoodF bl ar (L.drop i) (pvAt L i) ats = true) ∨ (e = .ret ∧ rgoodF bl ar (L.drop i) (pvAt L i) ats = false)) := by
 intro k
 obtain ⟨L0, hL0⟩ : ∃ L, L = LP1 l15x4 := ⟨_, rfl⟩
 have lo := loop_open hL0
 have wl := g.len
 rw [← hL0]
 induction k with
 | zero =>
  intro i K w ats j9 j10 j11 j12 j13 j14 j18 j19 j20 j21 j22 j23 j24 j25 j26 j27 j28 j29 j30 j31 j32 j33 j34 j35 j36 j37 j38 j39 j40 j41 j42 j43 j44 j45 j46 j47 j48 j49 j50 j51 j52 j53 j54 j55 j56 j57 j58 j59 j60 j61 j62 j63 j64 j65 j66 j67 j68 j69 j70 j71 j72 j73 j74 j75 j76 j77 j78 j79 j80 j81 j82 j83 j84 j85 j86 j87 j88 j89 j90 j91 j92 j93 j94 j95 j96 j97 j98 j99 j100 j101 j102 j103 j104 j105 j106 j107 j108 j109 j110 j111 j112 j113 j114 j115 j116 j117 j118 j119 j120 j121 j122 j123 j124 j125 j126 j127 j128 j129 j130 j131 j132 j133 j134 j135 j136 j137 j138 j139 aK fs al hi
  obtain rfl : i = L.length := by omega
  have hd : decide ((L.length : Int) < (L.length : Int)) = false := by simp
  rw [List.drop_length, lo]
  unfold l15x4
  simp -implicitDefEqProofs (maxSteps := 5000000) only [go_sem, Nat.reduceShiftRight, Nat.reduceAnd, Nat.reduceBNe, Int.reduceEq, Nat.reduceAdd, Nat.reduceSub, Nat.reduceMul, Nat.reduceLeDiff, reduceIte, reduceCtorEq, Nat.reduceBEq, Nat.reduceEqDiff, wrap64, runC_loop, runC_range, callF_fn, callV_fn, callV_yld, yield_eq, yieldBody, yieldRaw, roundMid, roundEnd, rangeEnd, Bool.not_not, put_cons, put_nil, trim_same, at_zero, at_add, set_zero, set_add, store_one, write_zero, write_add, write_head, write_succ, splice_one, splice_more, List.drop_nil, List.take_nil, cell_int, cell_bool, fillS, splice_one, idxA, Ex.isNormal, List.set_nil, List.length_set, List.all_cons, List.all_nil, Bool.and_self, and_self, true_and, and_true, List.getElem?_nil, Int.reduceLT, Int.reduceLE, Int.reduceToNat, Int.toNat_zero, Int.toNat_one, Int.reduceAdd, Int.reduceSub, Int.reduceMul, Int.reduceNeg, Int.reduceBEq, Int.reduceBNe, Int.reduceGE, Int.reduceGT, Nat.reduceLT, trim_keep, under_fn, under_ptr, under_sl, Nat.lt_irrefl, not_lt_add, trim_tail, keepOk, ABlk.vals, Int.cast_ofNat_Int, decide_true, decide_false, List.all_cons, List.all_nil, Nat.zero_mul, Nat.mul_one, Nat.one_mul, wl, hd, seqR_exit', outs_normal]
  exact ⟨aK, exF2 rfl ⟨rfl, .inl (by first | rfl | trivial)⟩⟩
 | succ k ih =>
  intro i K w ats j9 j10 j11 j12 j13 j14 j18 j19 j20 j21 j22 j23 j24 j25 j26 j27 j28 j29 j30 j31 j32 j33 j34 j35 j36 j37 j38 j39 j40 j41 j42 j43 j44 j45 j46 j47 j48 j49 j50 j51 j52 j53 j54 j55 j56 j57 j58 j59 j60 j61 j62 j63 j64 j65 j66 j67 j68 j69 j70 j71 j72 j73 j74 j75 j76 j77 j78 j79 j80 j81 j82 j83 j84 j85 j86 j87 j88 j89 j90 j91 j92 j93 j94 j95 j96 j97 j98 j99 j100 j101 j102 j103 j104 j105 j106 j107 j108 j109 j110 j111 j112 j113 j114 j115 j116 j117 j118 j119 j120 j121 j122 j123 j124 j125 j126 j127 j128 j129 j130 j131 j132 j133 j134 j135 j136 j137 j138 j139 aK fs al hi
  have hlt : i < L.length := by omega
  have hd : decide ((i : Int) < (L.length : Int)) = true := decide_eq_true (by omega)
  have e2 : IntKind.i64.wrap ((i : Int) + 1) = ((i + 1 : Nat) : Int) := by rw [wrap64 (by omega) (by omega)]; omega
  have hx := List.getElem?_eq_getElem hlt
  have ft := fits_get fi hx
  have hpv := pvAt_succ hx
  have hem : (L.drop (i + 1)).isEmpty = decide (L.length ≤ i + 1) := by
   by_cases h : L.length ≤ i + 1
   ·rw [decide_eq_true h, List.drop_eq_nil_of_le h]; rfl
   ·rw [decide_eq_false h]
    cases hq : L.drop (i + 1) with
    | nil => have := congrArg List.length hq; rw [List.length_drop] at this; simp at this; omega
    | cons _ _ => rfl
  rw [List.drop_eq_getElem_cons hlt]
  generalize L[i] = s at *
  obtain ⟨bb, cs, vc, vt, ix, hc0, h1, ht, hle, bc, pt⟩ := isC_row g hx
  have hc := aK.cells hc0
  have hcA := fun {X} (a : Adds K X) => a.cells hc
  obtain ⟨K1, hK1⟩ : ∃ K1, K1 = K ++ [ABlk.rw [.int .i64 s.id, vc, vt]] := ⟨_, rfl⟩
  have A1 : Adds K K1 := ⟨_, hK1⟩
  have a1 := aK.trans A1
  have hc1 := hcA A1
  have cc := bc.cell
  have ct := pt.cell
  have cq : cellsOf K1 K.length = some [.int .i64 s.id, vc, vt] := by rw [hK1]; unfold cellsOf; simp
  have bc1 := a1.bs bc
  have pt1 := pt.adds a1
  have eg := Bt.goodR bc1 (by have := ft.lc; omega) bl
  have et := rgoodC pt1 (by have := ft.lt; omega) bl ar
  have fs1 : FS K1 H.length w ats := fs.frT (Fr.adds A1 (fun _ => False)) fun _ _ h => h
  have hne : ∀ b, slb w = some b → b ≠ K.length := fun b hb h => by have := (FS.out fs b hb).2; omega
  have hK1 := hK1.symm
  have wt := pt.len
  rw [rgoodF, hem]
  have out : ∀ {x : Bool}, x = false → (Adds H K1) := fun _ => a1
  have w1 : IntKind.i64.wrap ((i : Int) - 1) = (i : Int) - 1 := wrap64 (by omega) (by omega)
  rw [lo]
  unfold l15x4
  by_cases c1 : s.id < 1
  ·have d1 := decide_eq_true c1
   rw [decide_eq_false (show ¬ 1 ≤ s.id by omega), Bool.false_and]
   simp -implicitDefEqProofs (maxSteps := 5000000) only [go_sem, Nat.reduceShiftRight, Nat.reduceAnd, Nat.reduceBNe, Int.reduceEq, Nat.reduceAdd, Nat.reduceSub, Nat.reduceMul, Nat.reduceLeDiff, reduceIte, reduceCtorEq, Nat.reduceBEq, Nat.reduceEqDiff, wrap64, runC_loop, runC_range, callF_fn, callV_fn, callV_yld, yield_eq, yieldBody, yieldRaw, roundMid, roundEnd, rangeEnd, Bool.not_not, put_cons, put_nil, trim_same, at_zero, at_add, set_zero, set_add, store_one, write_zero, write_add, write_head, write_succ, splice_one, splice_more, List.drop_nil, List.take_nil, cell_int, cell_bool, fillS, splice_one, idxA, Ex.isNormal, List.set_nil, List.length_set, List.all_cons, List.all_nil, Bool.and_self, and_self, true_and, and_true, List.getElem?_nil, Int.reduceLT, Int.reduceLE, Int.reduceToNat, Int.toNat_zero, Int.toNat_one, Int.reduceAdd, Int.reduceSub, Int.reduceMul, Int.reduceNeg, Int.reduceBEq, Int.reduceBNe, Int.reduceGE, Int.reduceGT, Nat.reduceLT, trim_keep, under_fn, under_ptr, under_sl, Nat.lt_irrefl, not_lt_add, trim_tail, keepOk, ABlk.vals, Int.cast_ofNat_Int, decide_true, decide_false, List.all_cons, List.all_nil, Nat.zero_mul, Nat.mul_one, Nat.one_mul, wl, hd, ix, hc, ht, hle, cellsA_agg, cc.2, ct.2, hK1, cq, d1, seqR_ret, outs_normal]
   exact ⟨a1, exF2 rfl ⟨rfl, .inr (by first | rfl | trivial)⟩⟩
  have d1 := decide_eq_false c1
  rw [decide_eq_true (show 1 ≤ s.id by omega), Bool.true_and]
  by_cases c2 : s.id > 1000000
  ·have d2 := decide_eq_true c2
   rw [decide_eq_false (show ¬ s.id ≤ 1000000 by omega), Bool.false_and]
   simp -implicitDefEqProofs (maxSteps := 5000000) only [go_sem, Nat.reduceShiftRight, Nat.reduceAnd, Nat.reduceBNe, Int.reduceEq, Nat.reduceAdd, Nat.reduceSub, Nat.reduceMul, Nat.reduceLeDiff, reduceIte, reduceCtorEq, Nat.reduceBEq, Nat.reduceEqDiff, wrap64, runC_loop, runC_range, callF_fn, callV_fn, callV_yld, yield_eq, yieldBody, yieldRaw, roundMid, roundEnd, rangeEnd, Bool.not_not, put_cons, put_nil, trim_same, at_zero, at_add, set_zero, set_add, store_one, write_zero, write_add, write_head, write_succ, splice_one, splice_more, List.drop_nil, List.take_nil, cell_int, cell_bool, fillS, splice_one, idxA, Ex.isNormal, List.set_nil, List.length_set, List.all_cons, List.all_nil, Bool.and_self, and_self, true_and, and_true, List.getElem?_nil, Int.reduceLT, Int.reduceLE, Int.reduceToNat, Int.toNat_zero, Int.toNat_one, Int.reduceAdd, Int.reduceSub, Int.reduceMul, Int.reduceNeg, Int.reduceBEq, Int.reduceBNe, Int.reduceGE, Int.reduceGT, Nat.reduceLT, trim_keep, under_fn, under_ptr, under_sl, Nat.lt_irrefl, not_lt_add, trim_tail, keepOk, ABlk.vals, Int.cast_ofNat_Int, decide_true, decide_false, List.all_cons, List.all_nil, Nat.zero_mul, Nat.mul_one, Nat.one_mul, wl, hd, ix, hc, ht, hle, cellsA_agg, cc.2, ct.2, hK1, cq, d1, d2, seqR_ret, outs_normal]
   exact ⟨a1, exF2 rfl ⟨rfl, .inr (by first | rfl | trivial)⟩⟩
  have d2 := decide_eq_false c2
  rw [decide_eq_true (show s.id ≤ 1000000 by omega), Bool.true_and]
  have pvc : (i = 0 ∧ pvOk (pvAt L i) s.id = true) ∨ (∃ n x b2 c2, i = n + 1 ∧ idxAddrS 3 v (.int .i64 (n : Int)) = some (.ptr b2 (n * 3)) ∧ cellsOf K1 b2 = some c2 ∧ c2[n * 3]? = some (.int .i64 x) ∧ pvOk (pvAt L i) s.id = decide (x < s.id)) := by
   cases i with
   | zero => exact .inl ⟨rfl, rfl⟩
   | succ n =>
    have hn : n < L.length := by omega
    have hy := List.getElem?_eq_getElem hn
    obtain ⟨b2, c2, _, _, ix2, hcy, r1, _⟩ := isC_row g hy
    exact .inr ⟨n, L[n].id, b2, c2, rfl, ix2, a1.cells hcy, r1, by rw [pvAt_succ hy]; rfl⟩
  rcases pvc with ⟨hi0, pv0⟩ | ⟨n, x, b2, c2', hin, ix2, hc2, r2, pv1⟩
  ·rw [pv0, Bool.true_and]
   have dz : decide ((i : Int) > 0) = false := decide_eq_false (by omega)
   rcases hg : Bt.goodS s.ch bl with _ | _ <;> rw [hg] at eg
   ·simp -implicitDefEqProofs (maxSteps := 5000000) only [go_sem, Nat.reduceShiftRight, Nat.reduceAnd, Nat.reduceBNe, Int.reduceEq, Nat.reduceAdd, Nat.reduceSub, Nat.reduceMul, Nat.reduceLeDiff, reduceIte, reduceCtorEq, Nat.reduceBEq, Nat.reduceEqDiff, wrap64, runC_loop, runC_range, callF_fn, callV_fn, callV_yld, yield_eq, yieldBody, yieldRaw, roundMid, roundEnd, rangeEnd, Bool.not_not, put_cons, put_nil, trim_same, at_zero, at_add, set_zero, set_add, store_one, write_zero, write_add, write_head, write_succ, splice_one, splice_more, List.drop_nil, List.take_nil, cell_int, cell_bool, fillS, splice_one, idxA, Ex.isNormal, List.set_nil, List.length_set, List.all_cons, List.all_nil, Bool.and_self, and_self, true_and, and_true, List.getElem?_nil, Int.reduceLT, Int.reduceLE, Int.reduceToNat, Int.toNat_zero, Int.toNat_one, Int.reduceAdd, Int.reduceSub, Int.reduceMul, Int.reduceNeg, Int.reduceBEq, Int.reduceBNe, Int.reduceGE, Int.reduceGT, Nat.reduceLT, trim_keep, under_fn, under_ptr, under_sl, Nat.lt_irrefl, not_lt_add, trim_tail, keepOk, ABlk.vals, Int.cast_ofNat_Int, decide_true, decide_false, List.all_cons, List.all_nil, Nat.zero_mul, Nat.mul_one, Nat.one_mul, wl, hd, ix, hc, ht, hle, cellsA_agg, cc.2, ct.2, hK1, cq, d1, d2, dz, eg, seqR_ret, outs_normal]
    exact ⟨a1, exF2 rfl ⟨rfl, .inr (by first | rfl | trivial)⟩⟩
   rcases hg2 : tgood s.tb bl ar with _ | _ <;> rw [hg2] at et
   ·simp -implicitDefEqProofs (maxSteps := 5000000) only [go_sem, Nat.reduceShiftRight, Nat.reduceAnd, Nat.reduceBNe, Int.reduceEq, Nat.reduceAdd, Nat.reduceSub, Nat.reduceMul, Nat.reduceLeDiff, reduceIte, reduceCtorEq, Nat.reduceBEq, Nat.reduceEqDiff, wrap64, runC_loop, runC_range, callF_fn, callV_fn, callV_yld, yield_eq, yieldBody, yieldRaw, roundMid, roundEnd, rangeEnd, Bool.not_not, put_cons, put_nil, trim_same, at_zero, at_add, set_zero, set_add, store_one, write_zero, write_add, write_head, write_succ, splice_one, splice_more, List.drop_nil, List.take_nil, cell_int, cell_bool, fillS, splice_one, idxA, Ex.isNormal, List.set_nil, List.length_set, List.all_cons, List.all_nil, Bool.and_self, and_self, true_and, and_true, List.getElem?_nil, Int.reduceLT, Int.reduceLE, Int.reduceToNat, Int.toNat_zero, Int.toNat_one, Int.reduceAdd, Int.reduceSub, Int.reduceMul, Int.reduceNeg, Int.reduceBEq, Int.reduceBNe, Int.reduceGE, Int.reduceGT, Nat.reduceLT, trim_keep, under_fn, under_ptr, under_sl, Nat.lt_irrefl, not_lt_add, trim_tail, keepOk, ABlk.vals, Int.cast_ofNat_Int, decide_true, decide_false, List.all_cons, List.all_nil, Nat.zero_mul, Nat.mul_one, Nat.one_mul, wl, hd, ix, hc, ht, hle, cellsA_agg, cc.2, ct.2, hK1, cq, d1, d2, dz, eg, et, seqR_ret, outs_normal]
    exact ⟨a1, exF2 rfl ⟨rfl, .inr (by first | rfl | trivial)⟩⟩
   have G := good_iff.1 hg2
   have l1 := rgooL1 fs1 (by omega) cq bc1 pt1 ft (fun p hp => by have := (G.rng p hp).1; omega) (k := s.tb.length) (i := 0)
   rw [show ((0 : Nat) : Int) = 0 from rfl, List.drop_zero] at l1
   rw [Bool.true_and, Bool.true_and]
   simp -implicitDefEqProofs (maxSteps := 5000000) only [go_sem, Nat.reduceShiftRight, Nat.reduceAnd, Nat.reduceBNe, Int.reduceEq, Nat.reduceAdd, Nat.reduceSub, Nat.reduceMul, Nat.reduceLeDiff, reduceIte, reduceCtorEq, Nat.reduceBEq, Nat.reduceEqDiff, wrap64, runC_loop, runC_range, callF_fn, callV_fn, callV_yld, yield_eq, yieldBody, yieldRaw, roundMid, roundEnd, rangeEnd, Bool.not_not, put_cons, put_nil, trim_same, at_zero, at_add, set_zero, set_add, store_one, write_zero, write_add, write_head, write_succ, splice_one, splice_more, List.drop_nil, List.take_nil, cell_int, cell_bool, fillS, splice_one, idxA, Ex.isNormal, List.set_nil, List.length_set, List.all_cons, List.all_nil, Bool.and_self, and_self, true_and, and_true, List.getElem?_nil, Int.reduceLT, Int.reduceLE, Int.reduceToNat, Int.toNat_zero, Int.toNat_one, Int.reduceAdd, Int.reduceSub, Int.reduceMul, Int.reduceNeg, Int.reduceBEq, Int.reduceBNe, Int.reduceGE, Int.reduceGT, Nat.reduceLT, trim_keep, under_fn, under_ptr, under_sl, Nat.lt_irrefl, not_lt_add, trim_tail, keepOk, ABlk.vals, Int.cast_ofNat_Int, decide_true, decide_false, List.all_cons, List.all_nil, Nat.zero_mul, Nat.mul_one, Nat.one_mul, runC_loop, wl, hd, ix, hc, ht, hle, cellsA_agg, cc.2, ct.2, hK1, cq, d1, d2, dz, eg, et]
   unfold LP1 at l1
   generalize (envL prog).loop (runC (envL prog) (l15x1 (envL prog))) = LL1 at l1 ⊢
   refine outs_ctx (fun r => seqR (seqR (blockR 1 (seqR (blockR 2 r) _)) _) _) (l1 _ _ _ _ _ _ _ _ _ _ _ _ _ _ _ _ _ _ _ _ _ _ _ _ _ _ _ _ _ _ _ _ _ _ _ _ _ _ _ _ _ _ _ _ _ _ _ _ _ _ _ _ _ _ _ _ _ _ _ _ _ _ _ _ _ _ _ _ _ _ _ _ _ _ _ _ _ _ _ _ _ _ _ _ _ _ _ _ _ _ _ _ _ _ _ _ _ _ _ _ _ _ _ _ _ _ _ _ _ _ _ _ _ _ _ _ _ _ _ _ _ _ _ _ _ _ _ _ _ _ _ _ _ _ _ _ (by omega)) ?_
   rintro e t K' ⟨rfl, fv, rfl, f6, ⟨rfl, ho⟩ | ⟨rfl, ho⟩⟩
   ·rw [ho, Bool.true_and]
    have l2 := rgooL2 (H := H) (q := K.length) (vc := vc) pt ft (k := s.tb.length) (i := 0) (K := K') (w := w) (ats := ats)
    rw [show ((0 : Nat) : Int) = 0 from rfl, List.drop_zero] at l2
    simp -implicitDefEqProofs (maxSteps := 5000000) only [go_sem, Nat.reduceShiftRight, Nat.reduceAnd, Nat.reduceBNe, Int.reduceEq, Nat.reduceAdd, Nat.reduceSub, Nat.reduceMul, Nat.reduceLeDiff, reduceIte, reduceCtorEq, Nat.reduceBEq, Nat.reduceEqDiff, wrap64, runC_loop, runC_range, callF_fn, callV_fn, callV_yld, yield_eq, yieldBody, yieldRaw, roundMid, roundEnd, rangeEnd, Bool.not_not, put_cons, put_nil, trim_same, at_zero, at_add, set_zero, set_add, store_one, write_zero, write_add, write_head, write_succ, splice_one, splice_more, List.drop_nil, List.take_nil, cell_int, cell_bool, fillS, splice_one, idxA, Ex.isNormal, List.set_nil, List.length_set, List.all_cons, List.all_nil, Bool.and_self, and_self, true_and, and_true, List.getElem?_nil, Int.reduceLT, Int.reduceLE, Int.reduceToNat, Int.toNat_zero, Int.toNat_one, Int.reduceAdd, Int.reduceSub, Int.reduceMul, Int.reduceNeg, Int.reduceBEq, Int.reduceBNe, Int.reduceGE, Int.reduceGT, Nat.reduceLT, trim_keep, under_fn, under_ptr, under_sl, Nat.lt_irrefl, not_lt_add, trim_tail, keepOk, ABlk.vals, Int.cast_ofNat_Int, decide_true, decide_false, List.all_cons, List.all_nil, Nat.zero_mul, Nat.mul_one, Nat.one_mul, runC_loop, f6]
    unfold LP1 at l2
    generalize (envL prog).loop (runC (envL prog) (l15x2 (envL prog))) = LL2 at l2 ⊢
    refine outs_ctx (fun r => seqR (seqR (blockR 1 (seqR (blockR 6 r) _)) _) _) (l2 _ _ _ _ _ _ _ _ _ _ _ _ _ _ _ _ _ _ _ _ _ _ _ _ _ _ _ _ _ _ _ _ _ _ _ _ _ _ _ _ _ _ _ _ _ _ _ _ _ _ _ _ _ _ _ _ _ _ _ _ _ _ _ _ _ _ _ _ _ _ _ _ _ _ _ _ _ _ _ _ _ _ _ _ _ _ _ _ _ _ _ _ _ _ _ _ _ _ _ _ _ _ _ _ _ _ _ _ _ _ _ _ _ _ _ _ _ _ _ _ _ _ _ _ _ _ _ _ _ _ _ _ _ _ _ _ _ a1 fs1 cq hne (by omega) (by omega)) ?_
    rintro e t K2 ⟨rfl, a2, cq2, fw, rfl, fs2⟩
    obtain ⟨cl, R, gr, ec⟩ := Bt.allR (a2.bs bc) (by have := ft.lc; omega)
    obtain ⟨K3, hK3⟩ : ∃ K3, K3 = K2 ++ R := ⟨_, rfl⟩
    have A3 : Adds K2 K3 := ⟨_, hK3⟩
    have isc : IS K3 cl (Bt.allS s.ch) := by rw [hK3]; exact Bt.Grown.is gr
    rw [← hK3] at ec
    have a3 := a2.trans A3
    have l3 := rgooL3 (n := L.length) (i0 := i) wl (by omega) hlt isc (by have := Bt.allS_len s.ch; have := ft.lc; omega) (A3.cells cq2) (pt.adds a3) ft (k := (Bt.allS s.ch).length) (j := 0)
    rw [show ((0 : Nat) : Int) = 0 from rfl, List.drop_zero] at l3
    simp -implicitDefEqProofs (maxSteps := 5000000) only [go_sem, Nat.reduceShiftRight, Nat.reduceAnd, Nat.reduceBNe, Int.reduceEq, Nat.reduceAdd, Nat.reduceSub, Nat.reduceMul, Nat.reduceLeDiff, reduceIte, reduceCtorEq, Nat.reduceBEq, Nat.reduceEqDiff, wrap64, runC_loop, runC_range, callF_fn, callV_fn, callV_yld, yield_eq, yieldBody, yieldRaw, roundMid, roundEnd, rangeEnd, Bool.not_not, put_cons, put_nil, trim_same, at_zero, at_add, set_zero, set_add, store_one, write_zero, write_add, write_head, write_succ, splice_one, splice_more, List.drop_nil, List.take_nil, cell_int, cell_bool, fillS, splice_one, idxA, Ex.isNormal, List.set_nil, List.length_set, List.all_cons, List.all_nil, Bool.and_self, and_self, true_and, and_true, List.getElem?_nil, Int.reduceLT, Int.reduceLE, Int.reduceToNat, Int.toNat_zero, Int.toNat_one, Int.reduceAdd, Int.reduceSub, Int.reduceMul, Int.reduceNeg, Int.reduceBEq, Int.reduceBNe, Int.reduceGE, Int.reduceGT, Nat.reduceLT, trim_keep, under_fn, under_ptr, under_sl, Nat.lt_irrefl, not_lt_add, trim_tail, keepOk, ABlk.vals, Int.cast_ofNat_Int, decide_true, decide_false, List.all_cons, List.all_nil, Nat.zero_mul, Nat.mul_one, Nat.one_mul, runC_loop, cq2, ec]
    unfold LP1 at l3
    generalize (envL prog).loop (runC (envL prog) (l15x3 (envL prog))) = LL3 at l3 ⊢
    refine outs_ctx (fun r => seqR (seqR (blockR 1 (blockR 8 r)) _) _) (l3 _ _ _ _ _ _ _ _ _ _ _ _ _ _ _ _ _ _ _ _ _ _ _ _ _ _ _ _ _ _ _ _ _ _ _ _ _ _ _ _ _ _ _ _ _ _ _ _ _ _ _ _ _ _ _ _ _ _ _ _ _ _ _ _ _ _ _ _ _ _ _ _ _ _ _ _ _ _ _ _ _ _ _ _ _ _ _ _ _ _ _ _ _ _ _ _ _ _ _ _ _ _ _ _ _ _ _ _ _ _ _ _ _ _ _ _ _ _ _ _ _ _ _ _ _ _ _ _ _ _ _ _ _ _ (by omega)) ?_
    rintro e t K4 ⟨rfl, fx, rfl, f6', ⟨rfl, ho2⟩ | ⟨rfl, ho2⟩⟩
    ·rw [ho2, Bool.true_and]
     have key := ih (i + 1) K4 (fw 7) (ats ++ s.tb.map (·.2))
     rw [hpv] at key
     simp -implicitDefEqProofs (maxSteps := 5000000) only [go_sem, Nat.reduceShiftRight, Nat.reduceAnd, Nat.reduceBNe, Int.reduceEq, Nat.reduceAdd, Nat.reduceSub, Nat.reduceMul, Nat.reduceLeDiff, reduceIte, reduceCtorEq, Nat.reduceBEq, Nat.reduceEqDiff, wrap64, runC_loop, runC_range, callF_fn, callV_fn, callV_yld, yield_eq, yieldBody, yieldRaw, roundMid, roundEnd, rangeEnd, Bool.not_not, put_cons, put_nil, trim_same, at_zero, at_add, set_zero, set_add, store_one, write_zero, write_add, write_head, write_succ, splice_one, splice_more, List.drop_nil, List.take_nil, cell_int, cell_bool, fillS, splice_one, idxA, Ex.isNormal, List.set_nil, List.length_set, List.all_cons, List.all_nil, Bool.and_self, and_self, true_and, and_true, List.getElem?_nil, Int.reduceLT, Int.reduceLE, Int.reduceToNat, Int.toNat_zero, Int.toNat_one, Int.reduceAdd, Int.reduceSub, Int.reduceMul, Int.reduceNeg, Int.reduceBEq, Int.reduceBNe, Int.reduceGE, Int.reduceGT, Nat.reduceLT, trim_keep, under_fn, under_ptr, under_sl, Nat.lt_irrefl, not_lt_add, trim_tail, keepOk, ABlk.vals, Int.cast_ofNat_Int, decide_true, decide_false, List.all_cons, List.all_nil, Nat.zero_mul, Nat.mul_one, Nat.one_mul, f6', e2]
     exact key _ _ _ _ _ _ _ _ _ _ _ _ _ _ _ _ _ _ _ _ _ _ _ _ _ _ _ _ _ _ _ _ _ _ _ _ _ _ _ _ _ _ _ _ _ _ _ _ _ _ _ _ _ _ _ _ _ _ _ _ _ _ _ _ _ _ _ _ _ _ _ _ _ _ _ _ _ _ _ _ _ _ _ _ _ _ _ _ _ _ _ _ _ _ _ _ _ _ _ _ _ _ _ _ _ _ _ _ _ _ _ _ _ _ _ _ _ _ _ _ _ _ _ _ _ _ _ _ a3 (fs2.frT (Fr.adds A3 (fun _ => False)) fun _ _ h => h) (by rw [List.length_append, List.length_map]; have := ft.lt; omega) (by omega)
    ·rw [ho2, Bool.false_and]
     simp -implicitDefEqProofs (maxSteps := 5000000) only [go_sem, Nat.reduceShiftRight, Nat.reduceAnd, Nat.reduceBNe, Int.reduceEq, Nat.reduceAdd, Nat.reduceSub, Nat.reduceMul, Nat.reduceLeDiff, reduceIte, reduceCtorEq, Nat.reduceBEq, Nat.reduceEqDiff, wrap64, runC_loop, runC_range, callF_fn, callV_fn, callV_yld, yield_eq, yieldBody, yieldRaw, roundMid, roundEnd, rangeEnd, Bool.not_not, put_cons, put_nil, trim_same, at_zero, at_add, set_zero, set_add, store_one, write_zero, write_add, write_head, write_succ, splice_one, splice_more, List.drop_nil, List.take_nil, cell_int, cell_bool, fillS, splice_one, idxA, Ex.isNormal, List.set_nil, List.length_set, List.all_cons, List.all_nil, Bool.and_self, and_self, true_and, and_true, List.getElem?_nil, Int.reduceLT, Int.reduceLE, Int.reduceToNat, Int.toNat_zero, Int.toNat_one, Int.reduceAdd, Int.reduceSub, Int.reduceMul, Int.reduceNeg, Int.reduceBEq, Int.reduceBNe, Int.reduceGE, Int.reduceGT, Nat.reduceLT, trim_keep, under_fn, under_ptr, under_sl, Nat.lt_irrefl, not_lt_add, trim_tail, keepOk, ABlk.vals, Int.cast_ofNat_Int, decide_true, decide_false, List.all_cons, List.all_nil, Nat.zero_mul, Nat.mul_one, Nat.one_mul, seqR_ret, outs_normal]
     exact ⟨a3, exF2 rfl ⟨f6', .inr (by first | rfl | trivial)⟩⟩
   ·rw [ho, Bool.false_and]
    simp -implicitDefEqProofs (maxSteps := 5000000) only [go_sem, Nat.reduceShiftRight, Nat.reduceAnd, Nat.reduceBNe, Int.reduceEq, Nat.reduceAdd, Nat.reduceSub, Nat.reduceMul, Nat.reduceLeDiff, reduceIte, reduceCtorEq, Nat.reduceBEq, Nat.reduceEqDiff, wrap64, runC_loop, runC_range, callF_fn, callV_fn, callV_yld, yield_eq, yieldBody, yieldRaw, roundMid, roundEnd, rangeEnd, Bool.not_not, put_cons, put_nil, trim_same, at_zero, at_add, set_zero, set_add, store_one, write_zero, write_add, write_head, write_succ, splice_one, splice_more, List.drop_nil, List.take_nil, cell_int, cell_bool, fillS, splice_one, idxA, Ex.isNormal, List.set_nil, List.length_set, List.all_cons, List.all_nil, Bool.and_self, and_self, true_and, and_true, List.getElem?_nil, Int.reduceLT, Int.reduceLE, Int.reduceToNat, Int.toNat_zero, Int.toNat_one, Int.reduceAdd, Int.reduceSub, Int.reduceMul, Int.reduceNeg, Int.reduceBEq, Int.reduceBNe, Int.reduceGE, Int.reduceGT, Nat.reduceLT, trim_keep, under_fn, under_ptr, under_sl, Nat.lt_irrefl, not_lt_add, trim_tail, keepOk, ABlk.vals, Int.cast_ofNat_Int, decide_true, decide_false, List.all_cons, List.all_nil, Nat.zero_mul, Nat.mul_one, Nat.one_mul, seqR_ret, outs_normal]
    exact ⟨a1, exF2 rfl ⟨f6, .inr (by first | rfl | trivial)⟩⟩
  ·have dz : decide ((i : Int) > 0) = true := decide_eq_true (by omega)
   have il2 : IntKind.i64.wrap ((i : Int) - 1) = (n : Int) := by rw [w1]; omega
   rw [pv1]
   by_cases hle2 : s.id ≤ x
   ·have dl := decide_eq_true hle2
    rw [decide_eq_false (show ¬ x < s.id by omega), Bool.false_and]
    simp -implicitDefEqProofs (maxSteps := 5000000) only [go_sem, Nat.reduceShiftRight, Nat.reduceAnd, Nat.reduceBNe, Int.reduceEq, Nat.reduceAdd, Nat.reduceSub, Nat.reduceMul, Nat.reduceLeDiff, reduceIte, reduceCtorEq, Nat.reduceBEq, Nat.reduceEqDiff, wrap64, runC_loop, runC_range, callF_fn, callV_fn, callV_yld, yield_eq, yieldBody, yieldRaw, roundMid, roundEnd, rangeEnd, Bool.not_not, put_cons, put_nil, trim_same, at_zero, at_add, set_zero, set_add, store_one, write_zero, write_add, write_head, write_succ, splice_one, splice_more, List.drop_nil, List.take_nil, cell_int, cell_bool, fillS, splice_one, idxA, Ex.isNormal, List.set_nil, List.length_set, List.all_cons, List.all_nil, Bool.and_self, and_self, true_and, and_true, List.getElem?_nil, Int.reduceLT, Int.reduceLE, Int.reduceToNat, Int.toNat_zero, Int.toNat_one, Int.reduceAdd, Int.reduceSub, Int.reduceMul, Int.reduceNeg, Int.reduceBEq, Int.reduceBNe, Int.reduceGE, Int.reduceGT, Nat.reduceLT, trim_keep, under_fn, under_ptr, under_sl, Nat.lt_irrefl, not_lt_add, trim_tail, keepOk, ABlk.vals, Int.cast_ofNat_Int, decide_true, decide_false, List.all_cons, List.all_nil, Nat.zero_mul, Nat.mul_one, Nat.one_mul, wl, hd, ix, hc, ht, hle, cellsA_agg, cc.2, ct.2, hK1, cq, d1, d2, dz, il2, ix2, hc2, r2, dl, seqR_ret, outs_normal]
    exact ⟨a1, exF2 rfl ⟨rfl, .inr (by first | rfl | trivial)⟩⟩
   have dl := decide_eq_false hle2
   rw [decide_eq_true (show x < s.id by omega), Bool.true_and]
   rcases hg : Bt.goodS s.ch bl with _ | _ <;> rw [hg] at eg
   ·simp -implicitDefEqProofs (maxSteps := 5000000) only [go_sem, Nat.reduceShiftRight, Nat.reduceAnd, Nat.reduceBNe, Int.reduceEq, Nat.reduceAdd, Nat.reduceSub, Nat.reduceMul, Nat.reduceLeDiff, reduceIte, reduceCtorEq, Nat.reduceBEq, Nat.reduceEqDiff, wrap64, runC_loop, runC_range, callF_fn, callV_fn, callV_yld, yield_eq, yieldBody, yieldRaw, roundMid, roundEnd, rangeEnd, Bool.not_not, put_cons, put_nil, trim_same, at_zero, at_add, set_zero, set_add, store_one, write_zero, write_add, write_head, write_succ, splice_one, splice_more, List.drop_nil, List.take_nil, cell_int, cell_bool, fillS, splice_one, idxA, Ex.isNormal, List.set_nil, List.length_set, List.all_cons, List.all_nil, Bool.and_self, and_self, true_and, and_true, List.getElem?_nil, Int.reduceLT, Int.reduceLE, Int.reduceToNat, Int.toNat_zero, Int.toNat_one, Int.reduceAdd, Int.reduceSub, Int.reduceMul, Int.reduceNeg, Int.reduceBEq, Int.reduceBNe, Int.reduceGE, Int.reduceGT, Nat.reduceLT, trim_keep, under_fn, under_ptr, under_sl, Nat.lt_irrefl, not_lt_add, trim_tail, keepOk, ABlk.vals, Int.cast_ofNat_Int, decide_true, decide_false, List.all_cons, List.all_nil, Nat.zero_mul, Nat.mul_one, Nat.one_mul, wl, hd, ix, hc, ht, hle, cellsA_agg, cc.2, ct.2, hK1, cq, d1, d2, dz, il2, ix2, hc2, r2, dl, eg, seqR_ret, outs_normal]
    exact ⟨a1, exF2 rfl ⟨rfl, .inr (by first | rfl | trivial)⟩⟩
   rcases hg2 : tgood s.tb bl ar with _ | _ <;> rw [hg2] at et
   ·simp -implicitDefEqProofs (maxSteps := 5000000) only [go_sem, Nat.reduceShiftRight, Nat.reduceAnd, Nat.reduceBNe, Int.reduceEq, Nat.reduceAdd, Nat.reduceSub, Nat.reduceMul, Nat.reduceLeDiff, reduceIte, reduceCtorEq, Nat.reduceBEq, Nat.reduceEqDiff, wrap64, runC_loop, runC_range, callF_fn, callV_fn, callV_yld, yield_eq, yieldBody, yieldRaw, roundMid, roundEnd, rangeEnd, Bool.not_not, put_cons, put_nil, trim_same, at_zero, at_add, set_zero, set_add, store_one, write_zero, write_add, write_head, write_succ, splice_one, splice_more, List.drop_nil, List.take_nil, cell_int, cell_bool, fillS, splice_one, idxA, Ex.isNormal, List.set_nil, List.length_set, List.all_cons, List.all_nil, Bool.and_self, and_self, true_and, and_true, List.getElem?_nil, Int.reduceLT, Int.reduceLE, Int.reduceToNat, Int.toNat_zero, Int.toNat_one, Int.reduceAdd, Int.reduceSub, Int.reduceMul, Int.reduceNeg, Int.reduceBEq, Int.reduceBNe, Int.reduceGE, Int.reduceGT, Nat.reduceLT, trim_keep, under_fn, under_ptr, under_sl, Nat.lt_irrefl, not_lt_add, trim_tail, keepOk, ABlk.vals, Int.cast_ofNat_Int, decide_true, decide_false, List.all_cons, List.all_nil, Nat.zero_mul, Nat.mul_one, Nat.one_mul, wl, hd, ix, hc, ht, hle, cellsA_agg, cc.2, ct.2, hK1, cq, d1, d2, dz, il2, ix2, hc2, r2, dl, eg, et, seqR_ret, outs_normal]
    exact ⟨a1, exF2 rfl ⟨rfl, .inr (by first | rfl | trivial)⟩⟩
   have G := good_iff.1 hg2
   have l1 := rgooL1 fs1 (by omega) cq bc1 pt1 ft (fun p hp => by have := (G.rng p hp).1; omega) (k := s.tb.length) (i := 0)
   rw [show ((0 : Nat) : Int) = 0 from rfl, List.drop_zero] at l1
   rw [Bool.true_and, Bool.true_and]
   simp -implicitDefEqProofs (maxSteps := 5000000) only [go_sem, Nat.reduceShiftRight, Nat.reduceAnd, Nat.reduceBNe, Int.reduceEq, Nat.reduceAdd, Nat.reduceSub, Nat.reduceMul, Nat.reduceLeDiff, reduceIte, reduceCtorEq, Nat.reduceBEq, Nat.reduceEqDiff, wrap64, runC_loop, runC_range, callF_fn, callV_fn, callV_yld, yield_eq, yieldBody, yieldRaw, roundMid, roundEnd, rangeEnd, Bool.not_not, put_cons, put_nil, trim_same, at_zero, at_add, set_zero, set_add, store_one, write_zero, write_add, write_head, write_succ, splice_one, splice_more, List.drop_nil, List.take_nil, cell_int, cell_bool, fillS, splice_one, idxA, Ex.isNormal, List.set_nil, List.length_set, List.all_cons, List.all_nil, Bool.and_self, and_self, true_and, and_true, List.getElem?_nil, Int.reduceLT, Int.reduceLE, Int.reduceToNat, Int.toNat_zero, Int.toNat_one, Int.reduceAdd, Int.reduceSub, Int.reduceMul, Int.reduceNeg, Int.reduceBEq, Int.reduceBNe, Int.reduceGE, Int.reduceGT, Nat.reduceLT, trim_keep, under_fn, under_ptr, under_sl, Nat.lt_irrefl, not_lt_add, trim_tail, keepOk, ABlk.vals, Int.cast_ofNat_Int, decide_true, decide_false, List.all_cons, List.all_nil, Nat.zero_mul, Nat.mul_one, Nat.one_mul, runC_loop, wl, hd, ix, hc, ht, hle, cellsA_agg, cc.2, ct.2, hK1, cq, d1, d2, dz, il2, ix2, hc2, r2, dl, eg, et]
   unfold LP1 at l1
   generalize (envL prog).loop (runC (envL prog) (l15x1 (envL prog))) = LL1 at l1 ⊢
   refine outs_ctx (fun r => seqR (seqR (blockR 1 (seqR (blockR 2 r) _)) _) _) (l1 _ _ _ _ _ _ _ _ _ _ _ _ _ _ _ _ _ _ _ _ _ _ _ _ _ _ _ _ _ _ _ _ _ _ _ _ _ _ _ _ _ _ _ _ _ _ _ _ _ _ _ _ _ _ _ _ _ _ _ _ _ _ _ _ _ _ _ _ _ _ _ _ _ _ _ _ _ _ _ _ _ _ _ _ _ _ _ _ _ _ _ _ _ _ _ _ _ _ _ _ _ _ _ _ _ _ _ _ _ _ _ _ _ _ _ _ _ _ _ _ _ _ _ _ _ _ _ _ _ _ _ _ _ _ _ _ (by omega)) ?_
   rintro e t K' ⟨rfl, fv, rfl, f6, ⟨rfl, ho⟩ | ⟨rfl, ho⟩⟩
   ·rw [ho, Bool.true_and]
    have l2 := rgooL2 (H := H) (q := K.length) (vc := vc) pt ft (k := s.tb.length) (i := 0) (K := K') (w := w) (ats := ats)
    rw [show ((0 : Nat) : Int) = 0 from rfl, List.drop_zero] at l2
    simp -implicitDefEqProofs (maxSteps := 5000000) only [go_sem, Nat.reduceShiftRight, Nat.reduceAnd, Nat.reduceBNe, Int.reduceEq, Nat.reduceAdd, Nat.reduceSub, Nat.reduceMul, Nat.reduceLeDiff, reduceIte, reduceCtorEq, Nat.reduceBEq, Nat.reduceEqDiff, wrap64, runC_loop, runC_range, callF_fn, callV_fn, callV_yld, yield_eq, yieldBody, yieldRaw, roundMid, roundEnd, rangeEnd, Bool.not_not, put_cons, put_nil, trim_same, at_zero, at_add, set_zero, set_add, store_one, write_zero, write_add, write_head, write_succ, splice_one, splice_more, List.drop_nil, List.take_nil, cell_int, cell_bool, fillS, splice_one, idxA, Ex.isNormal, List.set_nil, List.length_set, List.all_cons, List.all_nil, Bool.and_self, and_self, true_and, and_true, List.getElem?_nil, Int.reduceLT, Int.reduceLE, Int.reduceToNat, Int.toNat_zero, Int.toNat_one, Int.reduceAdd, Int.reduceSub, Int.reduceMul, Int.reduceNeg, Int.reduceBEq, Int.reduceBNe, Int.reduceGE, Int.reduceGT, Nat.reduceLT, trim_keep, under_fn, under_ptr, under_sl, Nat.lt_irrefl, not_lt_add, trim_tail, keepOk, ABlk.vals, Int.cast_ofNat_Int, decide_true, decide_false, List.all_cons, List.all_nil, Nat.zero_mul, Nat.mul_one, Nat.one_mul, runC_loop, f6]
    unfold LP1 at l2
    generalize (envL prog).loop (runC (envL prog) (l15x2 (envL prog))) = LL2 at l2 ⊢
    refine outs_ctx (fun r => seqR (seqR (blockR 1 (seqR (blockR 6 r) _)) _) _) (l2 _ _ _ _ _ _ _ _ _ _ _ _ _ _ _ _ _ _ _ _ _ _ _ _ _ _ _ _ _ _ _ _ _ _ _ _ _ _ _ _ _ _ _ _ _ _ _ _ _ _ _ _ _ _ _ _ _ _ _ _ _ _ _ _ _ _ _ _ _ _ _ _ _ _ _ _ _ _ _ _ _ _ _ _ _ _ _ _ _ _ _ _ _ _ _ _ _ _ _ _ _ _ _ _ _ _ _ _ _ _ _ _ _ _ _ _ _ _ _ _ _ _ _ _ _ _ _ _ _ _ _ _ _ _ _ _ _ a1 fs1 cq hne (by omega) (by omega)) ?_
    rintro e t K2 ⟨rfl, a2, cq2, fw, rfl, fs2⟩
    obtain ⟨cl, R, gr, ec⟩ := Bt.allR (a2.bs bc) (by have := ft.lc; omega)
    obtain ⟨K3, hK3⟩ : ∃ K3, K3 = K2 ++ R := ⟨_, rfl⟩
    have A3 : Adds K2 K3 := ⟨_, hK3⟩
    have isc : IS K3 cl (Bt.allS s.ch) := by rw [hK3]; exact Bt.Grown.is gr
    rw [← hK3] at ec
    have a3 := a2.trans A3
    have l3 := rgooL3 (n := L.length) (i0 := i) wl (by omega) hlt isc (by have := Bt.allS_len s.ch; have := ft.lc; omega) (A3.cells cq2) (pt.adds a3) ft (k := (Bt.allS s.ch).length) (j := 0)
    rw [show ((0 : Nat) : Int) = 0 from rfl, List.drop_zero] at l3
    simp -implicitDefEqProofs (maxSteps := 5000000) only [go_sem, Nat.reduceShiftRight, Nat.reduceAnd, Nat.reduceBNe, Int.reduceEq, Nat.reduceAdd, Nat.reduceSub, Nat.reduceMul, Nat.reduceLeDiff, reduceIte, reduceCtorEq, Nat.reduceBEq, Nat.reduceEqDiff, wrap64, runC_loop, runC_range, callF_fn, callV_fn, callV_yld, yield_eq, yieldBody, yieldRaw, roundMid, roundEnd, rangeEnd, Bool.not_not, put_cons, put_nil, trim_same, at_zero, at_add, set_zero, set_add, store_one, write_zero, write_add, write_head, write_succ, splice_one, splice_more, List.drop_nil, List.take_nil, cell_int, cell_bool, fillS, splice_one, idxA, Ex.isNormal, List.set_nil, List.length_set, List.all_cons, List.all_nil, Bool.and_self, and_self, true_and, and_true, List.getElem?_nil, Int.reduceLT, Int.reduceLE, Int.reduceToNat, Int.toNat_zero, Int.toNat_one, Int.reduceAdd, Int.reduceSub, Int.reduceMul, Int.reduceNeg, Int.reduceBEq, Int.reduceBNe, Int.reduceGE, Int.reduceGT, Nat.reduceLT, trim_keep, under_fn, under_ptr, under_sl, Nat.lt_irrefl, not_lt_add, trim_tail, keepOk, ABlk.vals, Int.cast_ofNat_Int, decide_true, decide_false, List.all_cons, List.all_nil, Nat.zero_mul, Nat.mul_one, Nat.one_mul, runC_loop, cq2, ec]
    unfold LP1 at l3
    generalize (envL prog).loop (runC (envL prog) (l15x3 (envL prog))) = LL3 at l3 ⊢
    refine outs_ctx (fun r => seqR (seqR (blockR 1 (blockR 8 r)) _) _) (l3 _ _ _ _ _ _ _ _ _ _ _ _ _ _ _ _ _ _ _ _ _ _ _ _ _ _ _ _ _ _ _ _ _ _ _ _ _ _ _ _ _ _ _ _ _ _ _ _ _ _ _ _ _ _ _ _ _ _ _ _ _ _ _ _ _ _ _ _ _ _ _ _ _ _ _ _ _ _ _ _ _ _ _ _ _ _ _ _ _ _ _ _ _ _ _ _ _ _ _ _ _ _ _ _ _ _ _ _ _ _ _ _ _ _ _ _ _ _ _ _ _ _ _ _ _ _ _ _ _ _ _ _ _ _ (by omega)) ?_
    rintro e t K4 ⟨rfl, fx, rfl, f6', ⟨rfl, ho2⟩ | ⟨rfl, ho2⟩⟩
    ·rw [ho2, Bool.true_and]
     have key := ih (i + 1) K4 (fw 7) (ats ++ s.tb.map (·.2))
     rw [hpv] at key
     simp -implicitDefEqProofs (maxSteps := 5000000) only [go_sem, Nat.reduceShiftRight, Nat.reduceAnd, Nat.reduceBNe, Int.reduceEq, Nat.reduceAdd, Nat.reduceSub, Nat.reduceMul, Nat.reduceLeDiff, reduceIte, reduceCtorEq, Nat.reduceBEq, Nat.reduceEqDiff, wrap64, runC_loop, runC_range, callF_fn, callV_fn, callV_yld, yield_eq, yieldBody, yieldRaw, roundMid, roundEnd, rangeEnd, Bool.not_not, put_cons, put_nil, trim_same, at_zero, at_add, set_zero, set_add, store_one, write_zero, write_add, write_head, write_succ, splice_one, splice_more, List.drop_nil, List.take_nil, cell_int, cell_bool, fillS, splice_one, idxA, Ex.isNormal, List.set_nil, List.length_set, List.all_cons, List.all_nil, Bool.and_self, and_self, true_and, and_true, List.getElem?_nil, Int.reduceLT, Int.reduceLE, Int.reduceToNat, Int.toNat_zero, Int.toNat_one, Int.reduceAdd, Int.reduceSub, Int.reduceMul, Int.reduceNeg, Int.reduceBEq, Int.reduceBNe, Int.reduceGE, Int.reduceGT, Nat.reduceLT, trim_keep, under_fn, under_ptr, under_sl, Nat.lt_irrefl, not_lt_add, trim_tail, keepOk, ABlk.vals, Int.cast_ofNat_Int, decide_true, decide_false, List.all_cons, List.all_nil, Nat.zero_mul, Nat.mul_one, Nat.one_mul, f6', e2]
     exact key _ _ _ _ _ _ _ _ _ _ _ _ _ _ _ _ _ _ _ _ _ _ _ _ _ _ _ _ _ _ _ _ _ _ _ _ _ _ _ _ _ _ _ _ _ _ _ _ _ _ _ _ _ _ _ _ _ _ _ _ _ _ _ _ _ _ _ _ _ _ _ _ _ _ _ _ _ _ _ _ _ _ _ _ _ _ _ _ _ _ _ _ _ _ _ _ _ _ _ _ _ _ _ _ _ _ _ _ _ _ _ _ _ _ _ _ _ _ _ _ _ _ _ _ _ _ _ _ a3 (fs2.frT (Fr.adds A3 (fun _ => False)) fun _ _ h => h) (by rw [List.length_append, List.length_map]; have := ft.lt; omega) (by omega)
    ·rw [ho2, Bool.false_and]
     simp -implicitDefEqProofs (maxSteps := 5000000) only [go_sem, Nat.reduceShiftRight, Nat.reduceAnd, Nat.reduceBNe, Int.reduceEq, Nat.reduceAdd, Nat.reduceSub, Nat.reduceMul, Nat.reduceLeDiff, reduceIte, reduceCtorEq, Nat.reduceBEq, Nat.reduceEqDiff, wrap64, runC_loop, runC_range, callF_fn, callV_fn, callV_yld, yield_eq, yieldBody, yieldRaw, roundMid, roundEnd, rangeEnd, Bool.not_not, put_cons, put_nil, trim_same, at_zero, at_add, set_zero, set_add, store_one, write_zero, write_add, write_head, write_succ, splice_one, splice_more, List.drop_nil, List.take_nil, cell_int, cell_bool, fillS, splice_one, idxA, Ex.isNormal, List.set_nil, List.length_set, List.all_cons, List.all_nil, Bool.and_self, and_self, true_and, and_true, List.getElem?_nil, Int.reduceLT, Int.reduceLE, Int.reduceToNat, Int.toNat_zero, Int.toNat_one, Int.reduceAdd, Int.reduceSub, Int.reduceMul, Int.reduceNeg, Int.reduceBEq, Int.reduceBNe, Int.reduceGE, Int.reduceGT, Nat.reduceLT, trim_keep, under_fn, under_ptr, under_sl, Nat.lt_irrefl, not_lt_add, trim_tail, keepOk, ABlk.vals, Int.cast_ofNat_Int, decide_true, decide_false, List.all_cons, List.all_nil, Nat.zero_mul, Nat.mul_one, Nat.one_mul, seqR_ret, outs_normal]
     exact ⟨a3, exF2 rfl ⟨f6', .inr (by first | rfl | trivial)⟩⟩
   ·rw [ho, Bool.false_and]
    simp -implicitDefEqProofs (maxSteps := 5000000) only [go_sem, Nat.reduceShiftRight, Nat.reduceAnd, Nat.reduceBNe, Int.reduceEq, Nat.reduceAdd, Nat.reduceSub, Nat.reduceMul, Nat.reduceLeDiff, reduceIte, reduceCtorEq, Nat.reduceBEq, Nat.reduceEqDiff, wrap64, runC_loop, runC_range, callF_fn, callV_fn, callV_yld, yield_eq, yieldBody, yieldRaw, roundMid, roundEnd, rangeEnd, Bool.not_not, put_cons, put_nil, trim_same, at_zero, at_add, set_zero, set_add, store_one, write_zero, write_add, write_head, write_succ, splice_one, splice_more, List.drop_nil, List.take_nil, cell_int, cell_bool, fillS, splice_one, idxA, Ex.isNormal, List.set_nil, List.length_set, List.all_cons, List.all_nil, Bool.and_self, and_self, true_and, and_true, List.getElem?_nil, Int.reduceLT, Int.reduceLE, Int.reduceToNat, Int.toNat_zero, Int.toNat_one, Int.reduceAdd, Int.reduceSub, Int.reduceMul, Int.reduceNeg, Int.reduceBEq, Int.reduceBNe, Int.reduceGE, Int.reduceGT, Nat.reduceLT, trim_keep, under_fn, under_ptr, under_sl, Nat.lt_irrefl, not_lt_add, trim_tail, keepOk, ABlk.vals, Int.cast_ofNat_Int, decide_true, decide_false, List.all_cons, List.all_nil, Nat.zero_mul, Nat.mul_one, Nat.one_mul, seqR_ret, outs_normal]
    exact ⟨a1, exF2 rfl ⟨f6, .inr (by first | rfl | trivial)⟩⟩
theorem rcgoodC : (envL prog).call 15 [v, .int .i64 bl, .int .i64 ar] H = some (.bool (rgoodF bl ar L none []), H) := by
 have wl := g.len
 have d8 : decide ((L.length : Int) > 8) = false := decide_eq_false (by omega)
 have l0 := rgooL4 g fi h8 hbl ar (k := L.length) (i := 0) (K := H) (w := .nilSl) (ats := [])
 rw [show ((0 : Nat) : Int) = 0 from rfl, List.drop_zero, show pvAt L 0 = none from rfl] at l0
 have key : Outs (runC (envL prog) (b15 (envL prog)) ([v, .int .i64 bl, .int .i64 ar] ++ List.replicate (140 - [v, AV.int .i64 bl, .int .i64 ar].length) .undef) H) fun e' t K => Adds H K ∧ fin [.tmp 6] (some (e', t, K)) = some (.bool (rgoodF bl ar L none []), K) := by
  unfold b15
  generalize hQ : (fun (e' : Ex) (t : T) (K : AHeap) => Adds H K ∧ fin [.tmp 6] (some (e', t, K)) = some (AV.bool (rgoodF bl ar L none []), K)) = Q
  simp -implicitDefEqProofs (maxSteps := 5000000) only [go_sem, Nat.reduceShiftRight, Nat.reduceAnd, Nat.reduceBNe, Int.reduceEq, Nat.reduceAdd, Nat.reduceSub, Nat.reduceMul, Nat.reduceLeDiff, reduceIte, reduceCtorEq, Nat.reduceBEq, Nat.reduceEqDiff, wrap64, runC_loop, runC_range, callF_fn, callV_fn, callV_yld, yield_eq, yieldBody, yieldRaw, roundMid, roundEnd, rangeEnd, Bool.not_not, put_cons, put_nil, trim_same, at_zero, at_add, set_zero, set_add, store_one, write_zero, write_add, write_head, write_succ, splice_one, splice_more, List.drop_nil, List.take_nil, cell_int, cell_bool, fillS, splice_one, idxA, Ex.isNormal, List.set_nil, List.length_set, List.all_cons, List.all_nil, Bool.and_self, and_self, true_and, and_true, List.getElem?_nil, Int.reduceLT, Int.reduceLE, Int.reduceToNat, Int.toNat_zero, Int.toNat_one, Int.reduceAdd, Int.reduceSub, Int.reduceMul, Int.reduceNeg, Int.reduceBEq, Int.reduceBNe, Int.reduceGE, Int.reduceGT, Nat.reduceLT, trim_keep, under_fn, under_ptr, under_sl, Nat.lt_irrefl, not_lt_add, trim_tail, keepOk, ABlk.vals, Int.cast_ofNat_Int, decide_true, decide_false, List.all_cons, List.all_nil, Nat.zero_mul, Nat.mul_one, Nat.one_mul, runC_loop, wl, d8]
  unfold LP1 at l0
  generalize (envL prog).loop (runC (envL prog) (l15x4 (envL prog))) = L0 at l0 ⊢
  refine outs_ctx (fun r => seqR (blockR 0 r) _) (l0 _ _ _ _ _ _ _ _ _ _ _ _ _ _ _ _ _ _ _ _ _ _ _ _ _ _ _ _ _ _ _ _ _ _ _ _ _ _ _ _ _ _ _ _ _ _ _ _ _ _ _ _ _ _ _ _ _ _ _ _ _ _ _ _ _ _ _ _ _ _ _ _ _ _ _ _ _ _ _ _ _ _ _ _ _ _ _ _ _ _ _ _ _ _ _ _ _ _ _ _ _ _ _ _ _ _ _ _ _ _ _ _ _ _ _ _ _ _ _ _ _ _ _ _ _ _ _ _ _ _ _ _ _ _ (Adds.refl H) (.inl ⟨rfl, rfl⟩) (by simp) (by omega)) ?_
  rintro e t K ⟨aK, fv, rfl, f6, ⟨rfl, ho⟩ | ⟨rfl, ho⟩⟩
  ·simp -implicitDefEqProofs (maxSteps := 5000000) only [go_sem, Nat.reduceShiftRight, Nat.reduceAnd, Nat.reduceBNe, Int.reduceEq, Nat.reduceAdd, Nat.reduceSub, Nat.reduceMul, Nat.reduceLeDiff, reduceIte, reduceCtorEq, Nat.reduceBEq, Nat.reduceEqDiff, outs_normal]
   subst hQ
   rw [ho]
   refine ⟨aK, ?_⟩
   simp -implicitDefEqProofs (maxSteps := 5000000) only [go_sem, Nat.reduceShiftRight, Nat.reduceAnd, Nat.reduceBNe, Int.reduceEq, Nat.reduceAdd, Nat.reduceSub, Nat.reduceMul, Nat.reduceLeDiff, reduceIte, reduceCtorEq, Nat.reduceBEq, Nat.reduceEqDiff]
  ·simp -implicitDefEqProofs (maxSteps := 5000000) only [go_sem, Nat.reduceShiftRight, Nat.reduceAnd, Nat.reduceBNe, Int.reduceEq, Nat.reduceAdd, Nat.reduceSub, Nat.reduceMul, Nat.reduceLeDiff, reduceIte, reduceCtorEq, Nat.reduceBEq, Nat.reduceEqDiff, outs_normal]
   subst hQ
   rw [ho]
   refine ⟨aK, ?_⟩
   simp -implicitDefEqProofs (maxSteps := 5000000) only [go_sem, Nat.reduceShiftRight, Nat.reduceAnd, Nat.reduceBNe, Int.reduceEq, Nat.reduceAdd, Nat.reduceSub, Nat.reduceMul, Nat.reduceLeDiff, reduceIte, reduceCtorEq, Nat.reduceBEq, Nat.reduceEqDiff, f6]
 obtain ⟨e', t, K, hr, aK, hf⟩ := key
 rw [c15, hr, hf]
 exact aK.trimS rfl
end
theorem rcgood {H : AHeap} {v : AV} {L : List SnS} (g : IsC H v L) (fi : Fits L) {bl : Int} (hbl : bl ≤ 9223372036854775807) (ar : Int) : (envL prog).call 15 [v, .int .i64 bl, .int .i64 ar] H = some (.bool (cgood L bl ar), H) := by
 by_cases h8 : L.length ≤ 8
 ·rw [rcgoodC g fi h8 hbl ar, rgood_eq bl ar L none [] fun s hs => (fi.2 s hs).u8]
  unfold cgood; rw [decide_eq_true h8]; rfl
 ·have wl := g.len
  have d8 : decide ((L.length : Int) > 8) = true := decide_eq_true (by omega)
  have hs : cgood L bl ar = false := by unfold cgood; rw [decide_eq_false h8]; rfl
  rw [hs, c15]
  unfold b15
  simp -implicitDefEqProofs (maxSteps := 5000000) only [go_sem, Nat.reduceShiftRight, Nat.reduceAnd, Nat.reduceBNe, Int.reduceEq, Nat.reduceAdd, Nat.reduceSub, Nat.reduceMul, Nat.reduceLeDiff, reduceIte, reduceCtorEq, Nat.reduceBEq, Nat.reduceEqDiff, wrap64, runC_loop, runC_range, callF_fn, callV_fn, callV_yld, yield_eq, yieldBody, yieldRaw, roundMid, roundEnd, rangeEnd, Bool.not_not, put_cons, put_nil, trim_same, at_zero, at_add, set_zero, set_add, store_one, write_zero, write_add, write_head, write_succ, splice_one, splice_more, List.drop_nil, List.take_nil, cell_int, cell_bool, fillS, splice_one, idxA, Ex.isNormal, List.set_nil, List.length_set, List.all_cons, List.all_nil, Bool.and_self, and_self, true_and, and_true, List.getElem?_nil, Int.reduceLT, Int.reduceLE, Int.reduceToNat, Int.toNat_zero, Int.toNat_one, Int.reduceAdd, Int.reduceSub, Int.reduceMul, Int.reduceNeg, Int.reduceBEq, Int.reduceBNe, Int.reduceGE, Int.reduceGT, Nat.reduceLT, trim_keep, under_fn, under_ptr, under_sl, Nat.lt_irrefl, not_lt_add, trim_tail, keepOk, ABlk.vals, Int.cast_ofNat_Int, decide_true, decide_false, List.all_cons, List.all_nil, Nat.zero_mul, Nat.mul_one, Nat.one_mul, wl, d8]
end Go.Proofs.Ythhodjcgcgkaaaa.G11
end
section
namespace Go.Proofs.Ythhodjcgcgkaaaa.G11
open Go Go.Proofs.Ythhodjcgcgkaaaa.Eng
def L3 : List SnS := [⟨1, [6], [(1, 0), (2, 1)]⟩, ⟨4, [12], [(2, 2), (3, 3)]⟩, ⟨5, [16], []⟩]
def K3 : AHeap := [.rw [.int .u8 6], .rw [.int .i64 1, .int .i64 0, .int .i64 2, .int .i64 1], .rw [.int .u8 12], .rw [.int .i64 2, .int .i64 2, .int .i64 3, .int .i64 3], .rw [.int .u8 16], .rw [.int .i64 1, .sl 0 0 1 1 1 true, .sl 1 0 2 2 2 true, .int .i64 4, .sl 2 0 1 1 1 true, .sl 3 0 2 2 2 true, .int .i64 5, .sl 4 0 1 1 1 true, .nilSl]]
set_option maxHeartbeats 4000000 in
theorem threeC : (envL prog).call 31 [] [] = some (.sl 5 0 3 3 3 true, K3) := by
 rw [c31]
 unfold b31
 simp -implicitDefEqProofs (maxSteps := 5000000) only [go_sem, Nat.reduceShiftRight, Nat.reduceAnd, Nat.reduceBNe, Int.reduceEq, Nat.reduceAdd, Nat.reduceSub, Nat.reduceMul, Nat.reduceLeDiff, reduceIte, reduceCtorEq, Nat.reduceBEq, Nat.reduceEqDiff, wrap64, runC_loop, runC_range, callF_fn, callV_fn, callV_yld, yield_eq, yieldBody, yieldRaw, roundMid, roundEnd, rangeEnd, Bool.not_not, put_cons, put_nil, trim_same, at_zero, at_add, set_zero, set_add, store_one, write_zero, write_add, write_head, write_succ, splice_one, splice_more, List.drop_nil, List.take_nil, cell_int, cell_bool, fillS, splice_one, idxA, Ex.isNormal, List.set_nil, List.length_set, List.all_cons, List.all_nil, Bool.and_self, and_self, true_and, and_true, List.getElem?_nil, Int.reduceLT, Int.reduceLE, Int.reduceToNat, Int.toNat_zero, Int.toNat_one, Int.reduceAdd, Int.reduceSub, Int.reduceMul, Int.reduceNeg, Int.reduceBEq, Int.reduceBNe, Int.reduceGE, Int.reduceGT, Nat.reduceLT, trim_keep, under_fn, under_ptr, under_sl, Nat.lt_irrefl, not_lt_add, trim_tail, keepOk, ABlk.vals, Int.cast_ofNat_Int, decide_true, decide_false, List.all_cons, List.all_nil, Nat.zero_mul, Nat.mul_one, Nat.one_mul, cellsA_agg]
 rfl
theorem isC3 : IsC K3 (.sl 5 0 3 3 3 true) L3 := by
 refine .inr ⟨5, 3, true, [[.int .i64 1, .sl 0 0 1 1 1 true, .sl 1 0 2 2 2 true], [.int .i64 4, .sl 2 0 1 1 1 true, .sl 3 0 2 2 2 true], [.int .i64 5, .sl 4 0 1 1 1 true, .nilSl]], [], rfl, by decide, rfl, rfl, fun i r s h1 h2 => ?_⟩
 match i with
 | 0 =>
  simp only [L3, List.getElem?_cons_zero, Option.some.injEq] at h1 h2
  subst h1; subst h2
  exact ⟨_, _, rfl, BS.block (H := K3) (b := 0) (zs := [6]) (l := 1) (e := true) rfl, .inr ⟨1, 2, true, rfl, by decide, rfl⟩⟩
 | 1 =>
  simp only [L3, List.getElem?_cons_succ, List.getElem?_cons_zero, Option.some.injEq] at h1 h2
  subst h1; subst h2
  exact ⟨_, _, rfl, BS.block (H := K3) (b := 2) (zs := [12]) (l := 1) (e := true) rfl, .inr ⟨3, 2, true, rfl, by decide, rfl⟩⟩
 | 2 =>
  simp only [L3, List.getElem?_cons_succ, List.getElem?_cons_zero, Option.some.injEq] at h1 h2
  subst h1; subst h2
  exact ⟨_, _, rfl, BS.block (H := K3) (b := 4) (zs := [16]) (l := 1) (e := true) rfl, .inl ⟨rfl, rfl⟩⟩
 | n + 3 => simp [L3] at h2
theorem fits3 : Fits L3 := ⟨by decide, fun s hs => by
 simp only [L3, List.mem_cons, List.mem_nil_iff, or_false] at hs
 rcases hs with rfl | rfl | rfl <;> exact ⟨by unfold IsU8; decide, by decide, by decide⟩⟩
noncomputable def XD : Over := X3.up prog 22
theorem xd_ok : XD.Ok prog := up_ok goodP x3_ok _
theorem xd_call (f : Nat) (args : List AV) (h : AHeap) (ed : (f == 22) = false) (em : (f == 44) = false) (e0 : (f == 61) = false) (e1 : (f == 69) = false) (e2 : (f == 70) = false) : (envX prog XD).call f args h = (envL prog).call f args h := by
 unfold XD Over.up; rw [x_miss _ _ ed, x3_call _ _ _ em e0 e1 e2]
theorem xd_drop {args : List AV} {h : AHeap} {r : AV × AHeap} (e : callBody prog (envX prog X3) 22 args h = some r) : (envX prog XD).call 22 args h = some r := x_hit e
set_option maxHeartbeats 8000000 in
theorem wakesC : ∃ h1, callBody prog (envX prog XD) 10 [] [] = some (.bool true, h1) := by
 have e0 := threeC
 obtain ⟨v1, K1, e1, a1, g1⟩ := dropC isC3 fits3 1
 have e1 := xd_drop e1
 rw [show dropS L3 1 = [⟨1, [14], [(1, 0), (2, 1), (3, 3)]⟩, ⟨5, [16], []⟩] by decide +kernel] at g1
 have c3 := isC3.adds a1
 obtain ⟨v2, K2, e2, a2, g2⟩ := cutC c3 fits3 1
 rw [show cutS L3 1 = [⟨1, [6], [(1, 0), (2, 1)]⟩, ⟨4, [0], []⟩] by decide +kernel] at g2
 have c3 := c3.adds a2
 have g1 := g1.adds a2
 have e3 := holderC c3 fits3 3 0
 have e4 := holderC c3 fits3 4 0
 rw [show holdS L3 0 3 = (3, true) by decide +kernel] at e3
 rw [show holdS L3 0 4 = (0, false) by decide +kernel] at e4
 have e5 := cgoodC c3 fits3 (bl := 8) (by decide) 4
 rw [show cgood L3 8 4 = true by decide +kernel] at e5
 have e6 := cindexC c3 fits3 5
 have e7 := cindexC c3 fits3 2
 rw [show cidF 5 0 L3 = 2 by decide +kernel] at e6
 rw [show cidF 2 0 L3 = -1 by decide +kernel] at e7
 obtain ⟨v3, K4, e8, a3, g3⟩ := changedC c3 fits3 2 0
 rw [show chgS L3 0 2 = [14] by decide +kernel] at g3
 have A4 : Adds K4 (K4 ++ [ABlk.rw [.int .u8 14]]) := ⟨_, rfl⟩
 have e9 := Bt.bytesC (A4.bs g3) (w := .sl K4.length 0 1 1 1 true) (ys := [14]) (BS.block (H := K4 ++ [ABlk.rw [.int .u8 14]]) (b := K4.length) (zs := [14]) (l := 1) (e := true) (by simp; rfl)) (by unfold IsU8; decide) (by unfold IsU8; decide)
 rw [show decide (([14] : List Int) = [14]) = true by decide] at e9
 have l1 := g1.len
 have l2 := g2.len
 obtain ⟨b1, cs1, vc1, vt1, _, ix1, hc1, _, q1, q2, _, _, bc1, pt1⟩ := g1.idx (i := 0) (s := ⟨1, [14], [(1, 0), (2, 1), (3, 3)]⟩) rfl
 obtain ⟨b2, cs2, vc2, vt2, _, ix2, hc2, _, r1, r2, _, _, bc2, pt2⟩ := g2.idx (i := 1) (s := ⟨4, [0], []⟩) rfl
 have m1 := pt1.len
 have m2 := pt2.len
 obtain ⟨p1, jx1, ld1⟩ := bc1.idx (i := 0) (z := 14) rfl .i64
 obtain ⟨p2, jx2, ld2⟩ := bc2.idx (i := 0) (z := 0) rfl .i64
 rw [show (((0 : Nat)) : Int) = 0 from rfl] at ix1 jx1 jx2
 rw [show (((1 : Nat)) : Int) = 1 from rfl] at ix2
 simp only [List.length_cons, List.length_nil] at l1 l2 m1 m2
 simp only [Nat.reduceAdd, Nat.reduceMul, Nat.zero_add, Nat.zero_mul, Nat.one_mul, show ((3 : Nat) : Int) = 3 from rfl, show ((2 : Nat) : Int) = 2 from rfl, show ((0 : Nat) : Int) = 0 from rfl] at l1 l2 m1 m2 ix1 ix2 q1 q2 r1 r2
 rw [d10]
 have key : Outs (runC (envX prog XD) (b10 (envX prog XD)) ([] ++ List.replicate (96 - ([] : List AV).length) .undef) []) fun e t h1 => fin [.tmp 0] (some (e, t, h1)) = some (AV.bool true, h1) := by
  unfold b10
  generalize hQ : (fun (e : Ex) (t : T) (h1 : AHeap) => fin [.tmp 0] (some (e, t, h1)) = some (AV.bool true, h1)) = Q
  simp -implicitDefEqProofs (maxSteps := 5000000) only [go_sem, Nat.reduceShiftRight, Nat.reduceAnd, Nat.reduceBNe, Int.reduceEq, Nat.reduceAdd, Nat.reduceSub, Nat.reduceMul, Nat.reduceLeDiff, reduceIte, reduceCtorEq, Nat.reduceBEq, Nat.reduceEqDiff, wrap64, runC_loop, runC_range, callF_fn, callV_fn, callV_yld, yield_eq, yieldBody, yieldRaw, roundMid, roundEnd, rangeEnd, Bool.not_not, put_cons, put_nil, trim_same, at_zero, at_add, set_zero, set_add, store_one, write_zero, write_add, write_head, write_succ, splice_one, splice_more, List.drop_nil, List.take_nil, cell_int, cell_bool, fillS, splice_one, idxA, Ex.isNormal, List.set_nil, List.length_set, List.all_cons, List.all_nil, Bool.and_self, and_self, true_and, and_true, List.getElem?_nil, Int.reduceLT, Int.reduceLE, Int.reduceToNat, Int.toNat_zero, Int.toNat_one, Int.reduceAdd, Int.reduceSub, Int.reduceMul, Int.reduceNeg, Int.reduceBEq, Int.reduceBNe, Int.reduceGE, Int.reduceGT, Nat.reduceLT, trim_keep, under_fn, under_ptr, under_sl, Nat.lt_irrefl, not_lt_add, trim_tail, keepOk, ABlk.vals, Int.cast_ofNat_Int, decide_true, decide_false, List.all_cons, List.all_nil, Nat.zero_mul, Nat.mul_one, Nat.one_mul, xd_call, e0, e1, e2, e3, e4, e5, e6, e7, e8, l1, l2, ix1, hc1, q1, q2, m1, jx1, ld1, ix2, hc2, r1, r2, m2, jx2, ld2, e9, outs_normal]
  subst hQ
  simp -implicitDefEqProofs (maxSteps := 5000000) only [go_sem, Nat.reduceShiftRight, Nat.reduceAnd, Nat.reduceBNe, Int.reduceEq, Nat.reduceAdd, Nat.reduceSub, Nat.reduceMul, Nat.reduceLeDiff, reduceIte, reduceCtorEq, Nat.reduceBEq, Nat.reduceEqDiff]
 unfold b10 at key ⊢
 exact of_outs key
end Go.Proofs.Ythhodjcgcgkaaaa.G11
end
section
namespace Go.Proofs.Ythhodjcgcgkaaaa.G11
open Go Go.Proofs.Ythhodjcgcgkaaaa.Eng
noncomputable def X4 : Over := XD.with 10 wakeR
theorem x4_ok : X4.Ok prog := with_ok xd_ok (wake_ok goodP xd_ok wakesC.choose_spec)
theorem x4_call (f : Nat) (args : List AV) (h : AHeap) (ew : (f == 10) = false) (ed : (f == 22) = false) (em : (f == 44) = false) (e0 : (f == 61) = false) (e1 : (f == 69) = false) (e2 : (f == 70) = false) : (envX prog X4).call f args h = (envL prog).call f args h := by
 unfold X4; rw [x_miss _ _ ew, xd_call _ _ _ ed em e0 e1 e2]
theorem x4_wakes (h : AHeap) : (envX prog X4).call 10 [] h = some (.bool true, h) := x_hit rfl
noncomputable abbrev LZ (l : Env → CT) := (envL prog).loop (runC (envX prog X4) (l (envX prog X4)))
structure Fair (L : List SnS) : Prop where
 n : L.length ≤ 12
 u8 : ∀ s ∈ L, IsU8 s.ch
 lc : ∀ s ∈ L, s.ch.length ≤ 40
 lt : ∀ s ∈ L, s.tb.length ≤ 80
theorem fairS_fair {L : List SnS} (h : fairS L = true) (hu : ∀ s ∈ L, IsU8 s.ch) : Fair L := by
 unfold fairS at h
 rw [Bool.and_eq_true, List.all_eq_true, decide_eq_true_eq] at h
 have q := fun s hs => by
  have := h.1 s hs
  rw [Bool.and_eq_true, decide_eq_true_eq, decide_eq_true_eq] at this
  exact this
 exact ⟨h.2, hu, fun s hs => (q s hs).1, fun s hs => (q s hs).2⟩
theorem Fair.fits {L : List SnS} (f : Fair L) : Fits L := ⟨by have := f.n; omega, fun s hs => ⟨f.u8 s hs, by have := f.lc s hs; omega, by have := f.lt s hs; omega⟩⟩
theorem tmerge_len (a : List PrS) : ∀ (b k : List PrS) (f : List Int), (tmerge a b k f).1.length ≤ k.length + b.length
 | [], k, f => by simp [tmerge]
 | p :: b, k, f => by
  rw [tmerge]
  split
  ·have := tmerge_len a b k (f ++ [p.2]); simp only [List.length_cons]; omega
  ·have := tmerge_len a b (tput k p.1 p.2) f
   have := tput_len k p.1 p.2
   simp only [List.length_cons]; omega
theorem join_fit {s u : SnS} (h1 : IsU8 s.ch) (h2 : IsU8 u.ch) (l1 : s.ch.length ≤ 40) (l2 : u.ch.length ≤ 40) (t1 : s.tb.length ≤ 80) (t2 : u.tb.length ≤ 80) : (joinS s u).Fit :=
 ⟨Bt.orS_u8 h1 h2, by show (Bt.orS s.ch u.ch).length ≤ 1000; rw [Bt.orS_len]; omega, by have := tmerge_len s.tb u.tb s.tb []; show (tmerge s.tb u.tb s.tb []).1.length ≤ 1000; omega⟩
theorem dropN_mem {L : List SnS} : ∀ {k : Nat} {x : SnS}, x ∈ dropN L k → x ∈ L ∨ ∃ s ∈ L, ∃ u ∈ L, x = joinS s u
 | 0, x, h => .inl (List.mem_of_mem_drop h)
 | k + 1, x, h => by
  simp only [dropN] at h
  split at h
  ·rename_i s u hs hu
   rcases List.mem_append.1 h with h | h
   ·exact .inl (List.mem_of_mem_take h)
   ·rcases List.mem_cons.1 h with h | h
    ·exact .inr ⟨s, List.mem_of_getElem? hs, u, List.mem_of_getElem? hu, h⟩
    ·exact .inl (List.mem_of_mem_drop h)
  ·exact .inl h
theorem dropN_len {L : List SnS} : ∀ k : Nat, (dropN L k).length ≤ L.length
 | 0 => by unfold dropN; rw [List.length_drop]; omega
 | k + 1 => by
  simp only [dropN]
  split
  ·rename_i s u hs hu
   have := (List.getElem?_eq_some_iff.1 hu).1
   rw [List.length_append, List.length_take, List.length_cons, List.length_drop]; omega
  ·exact Nat.le_refl _
theorem Fair.drop {L : List SnS} (f : Fair L) (i : Int) : Fits (dropS L i) := by
 unfold dropS
 split
 ·exact f.fits
 ·refine ⟨by have := dropN_len (L := L) i.toNat; have := f.n; omega, fun x hx => ?_⟩
  rcases dropN_mem hx with h | ⟨s, hs, u, hu, rfl⟩
  ·exact f.fits.2 x h
  ·exact join_fit (f.u8 s hs) (f.u8 u hu) (f.lc s hs) (f.lc u hu) (f.lt s hs) (f.lt u hu)
theorem Fair.cut {L : List SnS} (f : Fair L) (i : Int) : Fits (cutS L i) := by
 unfold cutS
 split
 ·exact f.fits
 ·split
  ·rename_i s hs
   refine ⟨by rw [List.length_append, List.length_take, List.length_singleton]; have := f.n; omega, fun x hx => ?_⟩
   rcases List.mem_append.1 hx with h | h
   ·exact f.fits.2 x (List.mem_of_mem_take h)
   ·rw [List.mem_singleton.1 h]
    exact ⟨Bt.rep_u8 _, by show (List.replicate s.ch.length (0 : Int)).length ≤ 1000; rw [List.length_replicate]; have := f.lc s (List.mem_of_getElem? hs); omega, by simp⟩
  ·exact f.fits
theorem chgF_u8 (j : Int) : ∀ (L : List SnS) (k : Int) (acc : List Int), (∀ s ∈ L, IsU8 s.ch) → IsU8 acc → IsU8 (chgF j L k acc)
 | [], _, _, _, h => h
 | s :: L, k, acc, hu, h => by
  rw [chgF]
  split
  ·exact h
  ·exact chgF_u8 j L (k + 1) _ (fun s hs => hu s (by simp [hs])) (Bt.orS_u8 h (hu s (by simp)))
theorem chgS_u8 {L : List SnS} (hu : ∀ s ∈ L, IsU8 s.ch) (i j : Int) : IsU8 (chgS L i j) := chgF_u8 j _ _ _ (fun s hs => hu s (List.mem_of_mem_drop hs)) (fun z h => by cases h)
end Go.Proofs.Ythhodjcgcgkaaaa.G11
end
section
namespace Go.Proofs.Ythhodjcgcgkaaaa.G11
open Go Go.Proofs.Ythhodjcgcgkaaaa.Eng
section
variable {H : AHeap} {v : AV} {L : List SnS} (g : IsC H v L) (fi : Fits L)
include g fi
end
theorem tmod_nat {n m : Int} (h : 0 ≤ n) (hm : 0 < m) : 0 ≤ n.tmod m ∧ n.tmod m < m := by
 rw [Int.tmod_eq_emod_of_nonneg h]
 exact ⟨Int.emod_nonneg _ (by omega), Int.emod_lt_of_pos _ hm⟩
end Go.Proofs.Ythhodjcgcgkaaaa.G11
end
section
namespace Go.Proofs.Ythhodjcgcgkaaaa.G11
open Go Go.Proofs.Ythhodjcgcgkaaaa.Eng
structure OneC (bl ar : Int) (s : SnS) : Prop where
 u8 : IsU8 s.ch
 id : 1 ≤ s.id ∧ s.id ≤ 1000000
 ch : Bt.goodS s.ch bl = true
 tb : GoodL bl ar s.tb
 sub : ∀ p ∈ s.tb, Bt.hasS s.ch p.1 = true
def Full (s : SnS) : Prop := ∀ c, Bt.hasS s.ch c = true → 0 ≤ idxS s.tb c
def Apart (s u : SnS) : Prop := ∀ p ∈ s.tb, ∀ q ∈ u.tb, p.2 ≠ q.2
structure GoodC (bl ar : Int) (L : List SnS) : Prop where
 one : ∀ s ∈ L, OneC bl ar s
 up : (L.map (·.id)).Pairwise (· < ·)
 ap : L.Pairwise Apart
 full : ∀ s ∈ L.dropLast, Full s
theorem full_all {s : SnS} : (Bt.allS s.ch).all (fun c => decide (0 ≤ idxS s.tb c)) = true ↔ Full s := by
 rw [List.all_eq_true]
 constructor
 ·intro h c hc; exact of_decide_eq_true (h c (mem_allS.2 hc))
 ·intro h c hc; exact decide_eq_true (h c (mem_allS.1 hc))
theorem cgoodF_iff {bl ar : Int} : ∀ (L : List SnS) (pv : Option Int) (ats : List Int), (∀ s ∈ L, IsU8 s.ch) → (cgoodF bl ar L pv ats = true ↔ GoodC bl ar L ∧ (∀ q, pv = some q → ∀ s ∈ L, q < s.id) ∧ ∀ s ∈ L, ∀ p ∈ s.tb, p.2 ∉ ats)
 | [], pv, ats, _ => by
  constructor
  ·intro _; exact ⟨⟨fun s h => (by cases h), by simp, by simp, fun s h => (by cases h)⟩, fun q _ s h => (by cases h), fun s h => (by cases h)⟩
  ·intro _; rfl
 | s :: L, pv, ats, hu => by
  have ih := cgoodF_iff (bl := bl) (ar := ar) L (some s.id) (ats ++ s.tb.map (·.2)) fun s hs => hu s (by simp [hs])
  rw [← rgood_eq bl ar _ _ _ hu, rgoodF, rgood_eq bl ar L _ _ fun s hs => hu s (by simp [hs])]
  simp only [Bool.and_eq_true, decide_eq_true_eq, good_iff]
  rw [ih]
  have hpv : pvOk pv s.id = true ↔ ∀ q, pv = some q → q < s.id := by
   unfold pvOk
   cases pv with
   | none => simp
   | some q => simp
  have htb : s.tb.all (fun p => Bt.hasS s.ch p.1 && !ats.contains p.2) = true ↔ (∀ p ∈ s.tb, Bt.hasS s.ch p.1 = true) ∧ ∀ p ∈ s.tb, p.2 ∉ ats := by
   rw [List.all_eq_true]
   constructor
   ·intro h
    refine ⟨fun p hp => ?_, fun p hp => ?_⟩
    ·have := h p hp; rw [Bool.and_eq_true] at this; exact this.1
    ·have := h p hp; rw [Bool.and_eq_true, Bool.not_eq_true', ← Bool.not_eq_true, List.contains_iff_mem] at this; exact this.2
   ·rintro ⟨h1, h2⟩ p hp
    rw [Bool.and_eq_true, Bool.not_eq_true', ← Bool.not_eq_true, List.contains_iff_mem]
    exact ⟨h1 p hp, h2 p hp⟩
  rw [hpv, htb]
  have hfu : (L.isEmpty || (Bt.allS s.ch).all fun c => decide (0 ≤ idxS s.tb c)) = true ↔ (L ≠ [] → Full s) := by
   rw [Bool.or_eq_true, full_all, List.isEmpty_iff]
   constructor
   ·rintro (h | h) h'
    ·exact absurd h h'
    ·exact h
   ·intro h
    by_cases e : L = []
    ·exact .inl e
    ·exact .inr (h e)
  rw [hfu]
  constructor
  ·rintro ⟨h1, h2, h3, h4, h5, ⟨h6, h7⟩, h8, g, h9, h10⟩
   refine ⟨⟨fun x hx => ?_, ?_, ?_, fun x hx => ?_⟩, fun q hq x hx => ?_, fun x hx p hp => ?_⟩
   ·rcases List.mem_cons.1 hx with rfl | hx
    ·exact ⟨hu _ (by simp), ⟨h1, h2⟩, h4, h5, h6⟩
    ·exact g.one x hx
   ·rw [List.map_cons, List.pairwise_cons]
    exact ⟨fun a ha => by obtain ⟨u, hu, rfl⟩ := List.mem_map.1 ha; exact h9 _ rfl u hu, g.up⟩
   ·rw [List.pairwise_cons]
    exact ⟨fun u hu p hp q hq e => h10 u hu q hq (by rw [← e]; exact List.mem_append_right _ (List.mem_map.2 ⟨p, hp, rfl⟩)), g.ap⟩
   ·cases L with
    | nil => simp at hx
    | cons u L =>
     rw [List.dropLast_cons_of_ne_nil (by simp)] at hx
     rcases List.mem_cons.1 hx with rfl | hx
     ·exact h8 (by simp)
     ·exact g.full x hx
   ·rcases List.mem_cons.1 hx with rfl | hx
    ·exact h3 q hq
    ·have := h3 q hq; have := h9 _ rfl x hx; omega
   ·rcases List.mem_cons.1 hx with rfl | hx
    ·exact h7 p hp
    ·exact fun h => h10 x hx p hp (List.mem_append_left _ h)
  ·rintro ⟨g, h1, h2⟩
   have o := g.one s (by simp)
   have up := g.up
   rw [List.map_cons, List.pairwise_cons] at up
   have ap := g.ap
   rw [List.pairwise_cons] at ap
   refine ⟨o.id.1, o.id.2, fun q hq => h1 q hq s (by simp), o.ch, o.tb, ⟨o.sub, h2 s (by simp)⟩, fun hn => g.full s (by rw [List.dropLast_cons_of_ne_nil hn]; simp), ⟨fun x hx => g.one x (by simp [hx]), up.2, ap.2, fun x hx => ?_⟩, fun q hq x hx => ?_, fun x hx p hp h => ?_⟩
   ·cases L with
    | nil => simp at hx
    | cons u L => exact g.full x (by rw [List.dropLast_cons_of_ne_nil (by simp)]; simp [hx])
   ·injection hq with hq; subst hq
    exact up.1 _ (List.mem_map.2 ⟨x, hx, rfl⟩)
   ·rcases List.mem_append.1 h with h | h
    ·exact h2 x (by simp [hx]) p hp h
    ·obtain ⟨q, hq, e⟩ := List.mem_map.1 h
     exact ap.1 x hx q hq p hp e
theorem cgood_iff {bl ar : Int} {L : List SnS} (hu : ∀ s ∈ L, IsU8 s.ch) : cgood L bl ar = true ↔ L.length ≤ 8 ∧ GoodC bl ar L := by
 unfold cgood
 rw [Bool.and_eq_true, decide_eq_true_eq, cgoodF_iff L none [] hu]
 constructor
 ·rintro ⟨h, g, _⟩; exact ⟨h, g⟩
 ·rintro ⟨h, g⟩; exact ⟨h, g, fun q hq => (by cases hq), fun s _ p _ hm => (by cases hm)⟩
theorem rep_has (n : Nat) (c : Int) : Bt.hasS (List.replicate n 0) c = false := by
 by_cases h0 : c < 0
 ·exact Bt.hasS_neg _ h0
 ·obtain ⟨j, rfl⟩ : ∃ j : Nat, c = j := ⟨c.toNat, by omega⟩
  rw [Bt.hasS_nat]
  have : Bt.byteAt (List.replicate n 0) (j / 8) = 0 := by
   unfold Bt.byteAt
   rw [List.getElem?_replicate]
   split <;> rfl
  rw [this]
  exact (Bt.bit_test ⟨0, by omega⟩ ⟨j % 8, by omega⟩).trans (by simp)
end Go.Proofs.Ythhodjcgcgkaaaa.G11
end
section
namespace Go.Proofs.Ythhodjcgcgkaaaa.G11
open Go Go.Proofs.Ythhodjcgcgkaaaa.Eng
end Go.Proofs.Ythhodjcgcgkaaaa.G11
end
section
namespace Go.Proofs.Ythhodjcgcgkaaaa.G11
open Go Go.Proofs.Ythhodjcgcgkaaaa.Eng
theorem chgF_has (j c : Int) : ∀ (L : List SnS) (k : Int) (acc : List Int), (∀ s ∈ L, IsU8 s.ch) → IsU8 acc → (Bt.hasS (chgF j L k acc) c = true ↔ Bt.hasS acc c = true ∨ ∃ (t : Nat) (s : SnS), L[t]? = some s ∧ k + (t : Int) < j ∧ Bt.hasS s.ch c = true)
 | [], k, acc, _, _ => by simp [chgF]
 | s :: L, k, acc, hu, ha => by
  rw [chgF]
  split
  ·rename_i h
   constructor
   ·exact .inl
   ·rintro (h1 | ⟨t, u, _, h2, _⟩)
    ·exact h1
    ·omega
  ·rename_i h
   rw [chgF_has j c L (k + 1) _ (fun s hs => hu s (by simp [hs])) (Bt.orS_u8 ha (hu s (by simp))), Bt.has_or ha (hu s (by simp)), Bool.or_eq_true]
   constructor
   ·rintro ((h1 | h1) | ⟨t, u, h1, h2, h3⟩)
    ·exact .inl h1
    ·exact .inr ⟨0, s, rfl, by omega, h1⟩
    ·exact .inr ⟨t + 1, u, by simpa using h1, by omega, h3⟩
   ·rintro (h1 | ⟨t, u, h1, h2, h3⟩)
    ·exact .inl (.inl h1)
    ·cases t with
     | zero => simp only [List.getElem?_cons_zero, Option.some.injEq] at h1; subst h1; exact .inl (.inr h3)
     | succ t => exact .inr ⟨t, u, by simpa using h1, by omega, h3⟩
theorem has_nil (c : Int) : Bt.hasS [] c = false := rep_has 0 c
theorem chg_has {L : List SnS} (hu : ∀ s ∈ L, IsU8 s.ch) (i j : Nat) (c : Int) : Bt.hasS (chgS L i j) c = true ↔ ∃ (t : Nat) (s : SnS), L[t]? = some s ∧ i ≤ t ∧ t < j ∧ Bt.hasS s.ch c = true := by
 unfold chgS
 rw [show max (i : Int) 0 = (i : Int) by omega, Int.toNat_natCast, chgF_has j c _ _ _ (fun s hs => hu s (List.mem_of_mem_drop hs)) (fun z h => by cases h), has_nil]
 constructor
 ·rintro (h | ⟨t, s, h1, h2, h3⟩)
  ·cases h
  ·rw [List.getElem?_drop] at h1; exact ⟨i + t, s, h1, by omega, by omega, h3⟩
 ·rintro ⟨t, s, h1, h2, h3, h4⟩
  exact .inr ⟨t - i, s, by rw [List.getElem?_drop, show i + (t - i) = t by omega]; exact h1, by omega, h4⟩
theorem allS_ext {xs ys : List Int} (h : ∀ c, Bt.hasS xs c = true ↔ Bt.hasS ys c = true) : Bt.allS xs = Bt.allS ys := by
 have h1 := sub_len (Bt.allU_sorted xs (8 * xs.length)) (Bt.allU_sorted ys (8 * ys.length)) fun x hx => mem_allS.2 ((h x).1 (mem_allS.1 hx))
 have h2 := sub_len (Bt.allU_sorted ys (8 * ys.length)) (Bt.allU_sorted xs (8 * xs.length)) fun x hx => mem_allS.2 ((h x).2 (mem_allS.1 hx))
 exact h1.2 (by omega)
theorem chg_all {L : List SnS} (hu : ∀ s ∈ L, IsU8 s.ch) {i j k : Nat} (h1 : i ≤ j) (h2 : j ≤ k) : Bt.allS (Bt.orS (chgS L i j) (chgS L j k)) = Bt.allS (chgS L i k) := by
 refine allS_ext fun c => ?_
 rw [Bt.has_or (chgS_u8 hu _ _) (chgS_u8 hu _ _), Bool.or_eq_true, chg_has hu, chg_has hu, chg_has hu]
 constructor
 ·rintro (⟨t, s, q1, q2, q3, q4⟩ | ⟨t, s, q1, q2, q3, q4⟩)
  ·exact ⟨t, s, q1, q2, by omega, q4⟩
  ·exact ⟨t, s, q1, by omega, q3, q4⟩
 ·rintro ⟨t, s, q1, q2, q3, q4⟩
  by_cases h : t < j
  ·exact .inl ⟨t, s, q1, q2, h, q4⟩
  ·exact .inr ⟨t, s, q1, by omega, q3, q4⟩
theorem hold_some {b : Int} : ∀ {L : List SnS} {t : Nat} {s : SnS}, L[t]? = some s → 0 ≤ idxS s.tb b → (holdF b L).2 = true
 | [], t, s, h, _ => by simp at h
 | u :: L, t, s, h, hb => by
  rw [holdF]
  split
  ·rfl
  ·rename_i hn
   cases t with
   | zero => simp only [List.getElem?_cons_zero, Option.some.injEq] at h; subst h; exact absurd hb hn
   | succ t => exact hold_some (L := L) (t := t) (by simpa using h) hb
theorem chg_held {bl ar : Int} {L : List SnS} (G : GoodC bl ar L) {i k : Nat} (hk : k < L.length) {c : Int} (hc : c ∈ Bt.allS (chgS L i k)) : (holdS L (i : Int) c).2 = true := by
 obtain ⟨t, s, h1, h2, h3, h4⟩ := (chg_has (fun s hs => (G.one s hs).u8) i k c).1 (mem_allS.1 hc)
 have hf : Full s := G.full s (by
  have : L.dropLast[t]? = some s := by rw [List.getElem?_dropLast, if_pos (by omega)]; exact h1
  exact List.mem_of_getElem? this)
 unfold holdS
 rw [if_neg (by omega), Int.toNat_natCast]
 exact hold_some (t := t - i) (s := s) (by rw [List.getElem?_drop, show i + (t - i) = t by omega]; exact h1) (hf c h4)
section
variable {H : AHeap} {v : AV} {L : List SnS} (g : IsC H v L) (fi : Fits L) {i : Nat} {cl : AV} {cs : List Int} (hcl : IS H cl cs) (cn : cs.length ≤ 100000) (hh : ∀ c ∈ cs, (holdS L (i : Int) c).2 = true)
include g fi hcl cn hh
set_option maxHeartbeats 4000000 in
theorem chchL0 (x1 x2 x3 x6 x7 x8 x13 x14 x15 x16 x17 x18 x19 x20 x21 x22 x23 x24 x25 x26 x27 x28 x29 x30 x31 x32 x33 x34 x35 x36 x37 x38 x39 x40 x41 x42 x43 x44 x45 x46 x47 x48 x49 x50 x51 x52 x53 x54 x55 x56 x57 x58 x59 x60 x61 x62 x63 x64 x65 x66 x67 x68 x69 x70 x71 x72 x73 x74 x75 x76 x77 x78 x97 x98 x99 x100 x101 x102 x103 x104 x105 x106 x107 x108 x109 x110 x111 x112 x113 x114 x115 x116 x117 x118 x119 x120 x121 x122 x123 x124 x125 x126 x127 x128 x129 x130 x131 x132 x133 x134 x135 x136 x137 x138 x139 x140 : AV) : ∀ (k m : Nat) (j4 j11 j12 j79 j80 j81 j82 j83 j84 j85 j86 j87 j88 j89 j90 j91 j92 j93 j94 j95 j96 : AV), m + k = cs.length →
  Outs (LZ l8x0 [v, x1, x2, x3, j4, .int .i64 (i : Int), x6, x7, x8, cl, .int .i64 (m : Int), j11, j12, x13, x14, x15, x16, x17, x18, x19, x20, x21, x22, x23, x24, x25, x26, x27, x28, x29, x30, x31, x32, x33, x34, x35, x36, x37, x38, x39, x40, x41, x42, x43, x44, x45, x46, x47, x48, x49, x50, x51, x52, x53, x54, x55, x56, x57, x58, x59, x60, x61, x62, x63, x64, x65, x66, x67, x68, x69, x70, x71, x72, x73, x74, x75, x76, x77, x78, j79, j80, j81, j82, j83, j84, j85, j86, j87, j88, j89, j90, j91, j92, j93, j94, j95, j96, x97, x98, x99, x100, x101, x102, x103, x104, x105, x106, x107, x108, x109, x110, x111, x112, x113, x114, x115, x116, x117, x118, x119, x120, x121, x122, x123, x124, x125, x126, x127, x128, x129, x130, x131, x132, x133, x134, x135, x136, x137, x138, x139, x140] H) fun e t K => e = .exit 0 ∧ K = H ∧ ∃ fv : Nat → AV, t = [v, x1, x2, x3, (fv 4), .int .i64 (i : Int), x6, x7, x8, cl, (fv 10), (fv 11), (fv 12), x13, x14, x15, x16, x17, x18, x19, x20, x21, x22, x23, x24, x25, x26, x27, x28, x29, x30, x31, x32, x33, x34, x35, x36, x37, x38, x39, x40, x41, x42, x43, x44, x45, x46, x47, x48, x49, x50, x51, x52, x53, x54, x55, x56, x57, x58, x59, x60, x61, x62, x63, x64, x65, x66, x67, x68, x69, x70, x71, x72, x73, x74, x75, x76, x77, x78, (fv 79), (fv 80), (fv 81), (fv 82), (fv 83), (fv 84), (fv 85), (fv 86), (fv 87), (fv 88), (fv 89), (fv 90), (fv 91), (fv 92), (fv 93), (fv 94), (fv 95), (fv 96), x97, x98, x99, x100, x101, x102, x103, x104, x105, x106, x107, x108, x109, x110, x111, x112, x113, x114, x115, x116, x117, x118, x119, x120, x121, x122, x123, x124, x125, x126, x127, x128, x129, x130, x131, x132, x133, x134, x135, x136, x137, x138, x139, x140] := by
 intro k
 obtain ⟨L0, hL0⟩ : ∃ L, L = LZ l8x0 := ⟨_, rfl⟩
 have lo := loop_open hL0
 have wl := hcl.len
 rw [← hL0]
 induction k with
 | zero =>
  intro m j4 j11 j12 j79 j80 j81 j82 j83 j84 j85 j86 j87 j88 j89 j90 j91 j92 j93 j94 j95 j96 hm
  obtain rfl : m = cs.length := by omega
  have hd : decide ((cs.length : Int) < (cs.length : Int)) = false := by simp
  rw [lo]
  unfold l8x0
  simp -implicitDefEqProofs (maxSteps := 5000000) only [go_sem, Nat.reduceShiftRight, Nat.reduceAnd, Nat.reduceBNe, Int.reduceEq, Nat.reduceAdd, Nat.reduceSub, Nat.reduceMul, Nat.reduceLeDiff, reduceIte, reduceCtorEq, Nat.reduceBEq, Nat.reduceEqDiff, wrap64, runC_loop, runC_range, callF_fn, callV_fn, callV_yld, yield_eq, yieldBody, yieldRaw, roundMid, roundEnd, rangeEnd, Bool.not_not, put_cons, put_nil, trim_same, at_zero, at_add, set_zero, set_add, store_one, write_zero, write_add, write_head, write_succ, splice_one, splice_more, List.drop_nil, List.take_nil, cell_int, cell_bool, fillS, splice_one, idxA, Ex.isNormal, List.set_nil, List.length_set, List.all_cons, List.all_nil, Bool.and_self, and_self, true_and, and_true, List.getElem?_nil, Int.reduceLT, Int.reduceLE, Int.reduceToNat, Int.toNat_zero, Int.toNat_one, Int.reduceAdd, Int.reduceSub, Int.reduceMul, Int.reduceNeg, Int.reduceBEq, Int.reduceBNe, Int.reduceGE, Int.reduceGT, Nat.reduceLT, trim_keep, under_fn, under_ptr, under_sl, Nat.lt_irrefl, not_lt_add, trim_tail, keepOk, ABlk.vals, Int.cast_ofNat_Int, decide_true, decide_false, List.all_cons, List.all_nil, Nat.zero_mul, Nat.mul_one, Nat.one_mul, wl, hd, seqR_exit', outs_normal]
  exact exF rfl
 | succ k ih =>
  intro m j4 j11 j12 j79 j80 j81 j82 j83 j84 j85 j86 j87 j88 j89 j90 j91 j92 j93 j94 j95 j96 hm
  have hlt : m < cs.length := by omega
  have hd : decide ((m : Int) < (cs.length : Int)) = true := decide_eq_true (by omega)
  have e2 : IntKind.i64.wrap ((m : Int) + 1) = ((m + 1 : Nat) : Int) := by rw [wrap64 (by omega) (by omega)]; omega
  have hx := List.getElem?_eq_getElem hlt
  have hc := hh _ (List.getElem_mem hlt)
  generalize cs[m] = c at *
  obtain ⟨a, ix, ld⟩ := hcl.idx hx .i64
  have eh := holderC g fi c (i : Int)
  rw [hc] at eh
  rw [lo]
  unfold l8x0
  simp -implicitDefEqProofs (maxSteps := 5000000) only [go_sem, Nat.reduceShiftRight, Nat.reduceAnd, Nat.reduceBNe, Int.reduceEq, Nat.reduceAdd, Nat.reduceSub, Nat.reduceMul, Nat.reduceLeDiff, reduceIte, reduceCtorEq, Nat.reduceBEq, Nat.reduceEqDiff, wrap64, runC_loop, runC_range, callF_fn, callV_fn, callV_yld, yield_eq, yieldBody, yieldRaw, roundMid, roundEnd, rangeEnd, Bool.not_not, put_cons, put_nil, trim_same, at_zero, at_add, set_zero, set_add, store_one, write_zero, write_add, write_head, write_succ, splice_one, splice_more, List.drop_nil, List.take_nil, cell_int, cell_bool, fillS, splice_one, idxA, Ex.isNormal, List.set_nil, List.length_set, List.all_cons, List.all_nil, Bool.and_self, and_self, true_and, and_true, List.getElem?_nil, Int.reduceLT, Int.reduceLE, Int.reduceToNat, Int.toNat_zero, Int.toNat_one, Int.reduceAdd, Int.reduceSub, Int.reduceMul, Int.reduceNeg, Int.reduceBEq, Int.reduceBNe, Int.reduceGE, Int.reduceGT, Nat.reduceLT, trim_keep, under_fn, under_ptr, under_sl, Nat.lt_irrefl, not_lt_add, trim_tail, keepOk, ABlk.vals, Int.cast_ofNat_Int, decide_true, decide_false, List.all_cons, List.all_nil, Nat.zero_mul, Nat.mul_one, Nat.one_mul, x4_call, wl, hd, ix, ld, eh, e2]
  exact ih (m + 1) _ _ _ _ _ _ _ _ _ _ _ _ _ _ _ _ _ _ _ _ _ (by omega)
end
section
variable {H : AHeap} {v : AV} {L : List SnS} (g : IsC H v L) (fi : Fits L) {i : Nat} {s : SnS} (hs : L[i]? = some s) (up : asc s.tb)
include g fi hs up
set_option maxHeartbeats 4000000 in
theorem chchL1 (x1 x2 x3 x6 x7 x8 x9 x10 x11 x12 x16 x17 x18 x19 x20 x21 x22 x23 x24 x25 x26 x27 x28 x29 x30 x31 x32 x33 x34 x35 x36 x37 x38 x39 x40 x41 x42 x43 x44 x45 x46 x47 x48 x49 x50 x51 x52 x53 x54 x55 x56 x57 x58 x59 x60 x61 x62 x63 x64 x65 x66 x67 x68 x69 x70 x71 x72 x73 x74 x75 x76 x77 x78 x79 x80 x81 x82 x83 x84 x85 x86 x87 x88 x89 x90 x91 x92 x93 x94 x95 x96 x140 : AV) : ∀ (k m : Nat) (j4 j14 j15 j97 j98 j99 j100 j101 j102 j103 j104 j105 j106 j107 j108 j109 j110 j111 j112 j113 j114 j115 j116 j117 j118 j119 j120 j121 j122 j123 j124 j125 j126 j127 j128 j129 j130 j131 j132 j133 j134 j135 j136 j137 j138 j139 : AV), m + k = s.tb.length →
  Outs (LZ l8x1 [v, x1, x2, x3, j4, .int .i64 (i : Int), x6, x7, x8, x9, x10, x11, x12, .int .i64 (m : Int), j14, j15, x16, x17, x18, x19, x20, x21, x22, x23, x24, x25, x26, x27, x28, x29, x30, x31, x32, x33, x34, x35, x36, x37, x38, x39, x40, x41, x42, x43, x44, x45, x46, x47, x48, x49, x50, x51, x52, x53, x54, x55, x56, x57, x58, x59, x60, x61, x62, x63, x64, x65, x66, x67, x68, x69, x70, x71, x72, x73, x74, x75, x76, x77, x78, x79, x80, x81, x82, x83, x84, x85, x86, x87, x88, x89, x90, x91, x92, x93, x94, x95, x96, j97, j98, j99, j100, j101, j102, j103, j104, j105, j106, j107, j108, j109, j110, j111, j112, j113, j114, j115, j116, j117, j118, j119, j120, j121, j122, j123, j124, j125, j126, j127, j128, j129, j130, j131, j132, j133, j134, j135, j136, j137, j138, j139, x140] H) fun e t K => e = .exit 2 ∧ K = H ∧ ∃ fv : Nat → AV, t = [v, x1, x2, x3, (fv 4), .int .i64 (i : Int), x6, x7, x8, x9, x10, x11, x12, (fv 13), (fv 14), (fv 15), x16, x17, x18, x19, x20, x21, x22, x23, x24, x25, x26, x27, x28, x29, x30, x31, x32, x33, x34, x35, x36, x37, x38, x39, x40, x41, x42, x43, x44, x45, x46, x47, x48, x49, x50, x51, x52, x53, x54, x55, x56, x57, x58, x59, x60, x61, x62, x63, x64, x65, x66, x67, x68, x69, x70, x71, x72, x73, x74, x75, x76, x77, x78, x79, x80, x81, x82, x83, x84, x85, x86, x87, x88, x89, x90, x91, x92, x93, x94, x95, x96, (fv 97), (fv 98), (fv 99), (fv 100), (fv 101), (fv 102), (fv 103), (fv 104), (fv 105), (fv 106), (fv 107), (fv 108), (fv 109), (fv 110), (fv 111), (fv 112), (fv 113), (fv 114), (fv 115), (fv 116), (fv 117), (fv 118), (fv 119), (fv 120), (fv 121), (fv 122), (fv 123), (fv 124), (fv 125), (fv 126), (fv 127), (fv 128), (fv 129), (fv 130), (fv 131), (fv 132), (fv 133), (fv 134), (fv 135), (fv 136), (fv 137), (fv 138), (fv 139), x140] := by
 intro k
 obtain ⟨L0, hL0⟩ : ∃ L, L = LZ l8x1 := ⟨_, rfl⟩
 have lo := loop_open hL0
 have ft := fits_get fi hs
 have lt1 := ft.lt
 obtain ⟨bb, cs, vc, vt, sb, ix, hc, h1, h2, h3, ht, hle, hbs, hip⟩ := g.idx hs
 have wl := hip.len
 rw [← hL0]
 induction k with
 | zero =>
  intro m j4 j14 j15 j97 j98 j99 j100 j101 j102 j103 j104 j105 j106 j107 j108 j109 j110 j111 j112 j113 j114 j115 j116 j117 j118 j119 j120 j121 j122 j123 j124 j125 j126 j127 j128 j129 j130 j131 j132 j133 j134 j135 j136 j137 j138 j139 hm
  obtain rfl : m = s.tb.length := by omega
  have hd : decide ((s.tb.length : Int) < (s.tb.length : Int)) = false := by simp
  rw [lo]
  unfold l8x1
  simp -implicitDefEqProofs (maxSteps := 5000000) only [go_sem, Nat.reduceShiftRight, Nat.reduceAnd, Nat.reduceBNe, Int.reduceEq, Nat.reduceAdd, Nat.reduceSub, Nat.reduceMul, Nat.reduceLeDiff, reduceIte, reduceCtorEq, Nat.reduceBEq, Nat.reduceEqDiff, wrap64, runC_loop, runC_range, callF_fn, callV_fn, callV_yld, yield_eq, yieldBody, yieldRaw, roundMid, roundEnd, rangeEnd, Bool.not_not, put_cons, put_nil, trim_same, at_zero, at_add, set_zero, set_add, store_one, write_zero, write_add, write_head, write_succ, splice_one, splice_more, List.drop_nil, List.take_nil, cell_int, cell_bool, fillS, splice_one, idxA, Ex.isNormal, List.set_nil, List.length_set, List.all_cons, List.all_nil, Bool.and_self, and_self, true_and, and_true, List.getElem?_nil, Int.reduceLT, Int.reduceLE, Int.reduceToNat, Int.toNat_zero, Int.toNat_one, Int.reduceAdd, Int.reduceSub, Int.reduceMul, Int.reduceNeg, Int.reduceBEq, Int.reduceBNe, Int.reduceGE, Int.reduceGT, Nat.reduceLT, trim_keep, under_fn, under_ptr, under_sl, Nat.lt_irrefl, not_lt_add, trim_tail, keepOk, ABlk.vals, Int.cast_ofNat_Int, decide_true, decide_false, List.all_cons, List.all_nil, Nat.zero_mul, Nat.mul_one, Nat.one_mul, ix, hc, h3, wl, hd, seqR_exit', outs_normal]
  exact exF rfl
 | succ k ih =>
  intro m j4 j14 j15 j97 j98 j99 j100 j101 j102 j103 j104 j105 j106 j107 j108 j109 j110 j111 j112 j113 j114 j115 j116 j117 j118 j119 j120 j121 j122 j123 j124 j125 j126 j127 j128 j129 j130 j131 j132 j133 j134 j135 j136 j137 j138 j139 hm
  have hlt : m < s.tb.length := by omega
  have hd : decide ((m : Int) < (s.tb.length : Int)) = true := decide_eq_true (by omega)
  have e2 : IntKind.i64.wrap ((m : Int) + 1) = ((m + 1 : Nat) : Int) := by rw [wrap64 (by omega) (by omega)]; omega
  have hx := List.getElem?_eq_getElem hlt
  have fm := fnd_mem up (List.getElem_mem hlt)
  generalize s.tb[m] = p at *
  obtain ⟨b2, c2, _, ix2, hc2, r1, r2, _, _⟩ := hip.idx hx
  have ef := findF hip (by omega) p.1
  rw [decide_eq_true fm.1, fm.2] at ef
  have nn : (p.2 != p.2) = false := by simp
  rw [lo]
  unfold l8x1
  simp -implicitDefEqProofs (maxSteps := 5000000) only [go_sem, Nat.reduceShiftRight, Nat.reduceAnd, Nat.reduceBNe, Int.reduceEq, Nat.reduceAdd, Nat.reduceSub, Nat.reduceMul, Nat.reduceLeDiff, reduceIte, reduceCtorEq, Nat.reduceBEq, Nat.reduceEqDiff, wrap64, runC_loop, runC_range, callF_fn, callV_fn, callV_yld, yield_eq, yieldBody, yieldRaw, roundMid, roundEnd, rangeEnd, Bool.not_not, put_cons, put_nil, trim_same, at_zero, at_add, set_zero, set_add, store_one, write_zero, write_add, write_head, write_succ, splice_one, splice_more, List.drop_nil, List.take_nil, cell_int, cell_bool, fillS, splice_one, idxA, Ex.isNormal, List.set_nil, List.length_set, List.all_cons, List.all_nil, Bool.and_self, and_self, true_and, and_true, List.getElem?_nil, Int.reduceLT, Int.reduceLE, Int.reduceToNat, Int.toNat_zero, Int.toNat_one, Int.reduceAdd, Int.reduceSub, Int.reduceMul, Int.reduceNeg, Int.reduceBEq, Int.reduceBNe, Int.reduceGE, Int.reduceGT, Nat.reduceLT, trim_keep, under_fn, under_ptr, under_sl, Nat.lt_irrefl, not_lt_add, trim_tail, keepOk, ABlk.vals, Int.cast_ofNat_Int, decide_true, decide_false, List.all_cons, List.all_nil, Nat.zero_mul, Nat.mul_one, Nat.one_mul, x4_call, ix, hc, h3, wl, hd, ix2, hc2, r1, r2, ef, nn, e2]
  exact ih (m + 1) _ _ _ _ _ _ _ _ _ _ _ _ _ _ _ _ _ _ _ _ _ _ _ _ _ _ _ _ _ _ _ _ _ _ _ _ _ _ _ _ _ _ _ _ _ _ (by omega)
end
set_option maxHeartbeats 32000000 in
theorem chainChanges (v : AV) (n0 n1 n2 : Int) (k0 : 0 ≤ n0 ∧ n0 ≤ 255) (k1 : 0 ≤ n1 ∧ n1 ≤ 255) (k2 : 0 ≤ n2 ∧ n2 ≤ 255) (h : AHeap) (d : DatC h (.sl [.int .i64, .sl [.int .u8], .sl [.int .i64, .int .i64]]) v) : ∃ h', callBody prog (envX prog X4) 8 [v, .agg [.int .u8 n0, .int .u8 n1, .int .u8 n2]] h = some (.bool true, h') := by
 obtain ⟨L, gl, ln, hL⟩ := snaps_dat d
 rw [d8]
 refine of_outs ?_
 unfold b8
 generalize hQ : (fun (e : Ex) (t : T) (h1 : AHeap) => fin [.tmp 4] (some (e, t, h1)) = some (AV.bool true, h1)) = Q
 obtain ⟨h0, e0⟩ : ∃ h0, h0 = h ++ [ABlk.rw [.int .u8 n0, .int .u8 n1, .int .u8 n2]] := ⟨_, rfl⟩
 have a0 : Adds h h0 := ⟨_, e0⟩
 have c0 : cellsOf h0 h.length = some [.int .u8 n0, .int .u8 n1, .int .u8 n2] := by rw [e0]; unfold cellsOf; simp
 have e0 := e0.symm
 have g0 := gl.adds a0
 have wl := g0.len
 have ef := fairC g0 ⟨ln, fun s hs => ⟨(hL s hs).2.2.1, (hL s hs).2.2.2.1⟩⟩
 rcases hf : fairS L with _ | _ <;> rw [hf] at ef
 ·simp -implicitDefEqProofs (maxSteps := 5000000) only [go_sem, Nat.reduceShiftRight, Nat.reduceAnd, Nat.reduceBNe, Int.reduceEq, Nat.reduceAdd, Nat.reduceSub, Nat.reduceMul, Nat.reduceLeDiff, reduceIte, reduceCtorEq, Nat.reduceBEq, Nat.reduceEqDiff, wrap64, runC_loop, runC_range, callF_fn, callV_fn, callV_yld, yield_eq, yieldBody, yieldRaw, roundMid, roundEnd, rangeEnd, Bool.not_not, put_cons, put_nil, trim_same, at_zero, at_add, set_zero, set_add, store_one, write_zero, write_add, write_head, write_succ, splice_one, splice_more, List.drop_nil, List.take_nil, cell_int, cell_bool, fillS, splice_one, idxA, Ex.isNormal, List.set_nil, List.length_set, List.all_cons, List.all_nil, Bool.and_self, and_self, true_and, and_true, List.getElem?_nil, Int.reduceLT, Int.reduceLE, Int.reduceToNat, Int.toNat_zero, Int.toNat_one, Int.reduceAdd, Int.reduceSub, Int.reduceMul, Int.reduceNeg, Int.reduceBEq, Int.reduceBNe, Int.reduceGE, Int.reduceGT, Nat.reduceLT, trim_keep, under_fn, under_ptr, under_sl, Nat.lt_irrefl, not_lt_add, trim_tail, keepOk, ABlk.vals, Int.cast_ofNat_Int, decide_true, decide_false, List.all_cons, List.all_nil, Nat.zero_mul, Nat.mul_one, Nat.one_mul, e0, x4_call, ef, x4_wakes, outs_normal]
  subst hQ
  simp -implicitDefEqProofs (maxSteps := 5000000) only [go_sem, Nat.reduceShiftRight, Nat.reduceAnd, Nat.reduceBNe, Int.reduceEq, Nat.reduceAdd, Nat.reduceSub, Nat.reduceMul, Nat.reduceLeDiff, reduceIte, reduceCtorEq, Nat.reduceBEq, Nat.reduceEqDiff]
 have f := fairS_fair hf fun s hs => (hL s hs).2.1
 have fi := f.fits
 have f12 := f.n
 have er := rcgood g0 fi (bl := 10) (by decide) 200
 rcases hg : cgood L 10 200 with _ | _ <;> rw [hg] at er
 ·simp -implicitDefEqProofs (maxSteps := 5000000) only [go_sem, Nat.reduceShiftRight, Nat.reduceAnd, Nat.reduceBNe, Int.reduceEq, Nat.reduceAdd, Nat.reduceSub, Nat.reduceMul, Nat.reduceLeDiff, reduceIte, reduceCtorEq, Nat.reduceBEq, Nat.reduceEqDiff, wrap64, runC_loop, runC_range, callF_fn, callV_fn, callV_yld, yield_eq, yieldBody, yieldRaw, roundMid, roundEnd, rangeEnd, Bool.not_not, put_cons, put_nil, trim_same, at_zero, at_add, set_zero, set_add, store_one, write_zero, write_add, write_head, write_succ, splice_one, splice_more, List.drop_nil, List.take_nil, cell_int, cell_bool, fillS, splice_one, idxA, Ex.isNormal, List.set_nil, List.length_set, List.all_cons, List.all_nil, Bool.and_self, and_self, true_and, and_true, List.getElem?_nil, Int.reduceLT, Int.reduceLE, Int.reduceToNat, Int.toNat_zero, Int.toNat_one, Int.reduceAdd, Int.reduceSub, Int.reduceMul, Int.reduceNeg, Int.reduceBEq, Int.reduceBNe, Int.reduceGE, Int.reduceGT, Nat.reduceLT, trim_keep, under_fn, under_ptr, under_sl, Nat.lt_irrefl, not_lt_add, trim_tail, keepOk, ABlk.vals, Int.cast_ofNat_Int, decide_true, decide_false, List.all_cons, List.all_nil, Nat.zero_mul, Nat.mul_one, Nat.one_mul, e0, x4_call, ef, er, x4_wakes, outs_normal]
  subst hQ
  simp -implicitDefEqProofs (maxSteps := 5000000) only [go_sem, Nat.reduceShiftRight, Nat.reduceAnd, Nat.reduceBNe, Int.reduceEq, Nat.reduceAdd, Nat.reduceSub, Nat.reduceMul, Nat.reduceLeDiff, reduceIte, reduceCtorEq, Nat.reduceBEq, Nat.reduceEqDiff]
 obtain ⟨l8, G⟩ := (cgood_iff f.u8).1 hg
 by_cases hz : L.length = 0
 ·have z1 : ((L.length : Int) == 0) = true := by simp [hz]
  simp -implicitDefEqProofs (maxSteps := 5000000) only [go_sem, Nat.reduceShiftRight, Nat.reduceAnd, Nat.reduceBNe, Int.reduceEq, Nat.reduceAdd, Nat.reduceSub, Nat.reduceMul, Nat.reduceLeDiff, reduceIte, reduceCtorEq, Nat.reduceBEq, Nat.reduceEqDiff, wrap64, runC_loop, runC_range, callF_fn, callV_fn, callV_yld, yield_eq, yieldBody, yieldRaw, roundMid, roundEnd, rangeEnd, Bool.not_not, put_cons, put_nil, trim_same, at_zero, at_add, set_zero, set_add, store_one, write_zero, write_add, write_head, write_succ, splice_one, splice_more, List.drop_nil, List.take_nil, cell_int, cell_bool, fillS, splice_one, idxA, Ex.isNormal, List.set_nil, List.length_set, List.all_cons, List.all_nil, Bool.and_self, and_self, true_and, and_true, List.getElem?_nil, Int.reduceLT, Int.reduceLE, Int.reduceToNat, Int.toNat_zero, Int.toNat_one, Int.reduceAdd, Int.reduceSub, Int.reduceMul, Int.reduceNeg, Int.reduceBEq, Int.reduceBNe, Int.reduceGE, Int.reduceGT, Nat.reduceLT, trim_keep, under_fn, under_ptr, under_sl, Nat.lt_irrefl, not_lt_add, trim_tail, keepOk, ABlk.vals, Int.cast_ofNat_Int, decide_true, decide_false, List.all_cons, List.all_nil, Nat.zero_mul, Nat.mul_one, Nat.one_mul, e0, x4_call, ef, er, wl, z1, x4_wakes, outs_normal]
  subst hQ
  simp -implicitDefEqProofs (maxSteps := 5000000) only [go_sem, Nat.reduceShiftRight, Nat.reduceAnd, Nat.reduceBNe, Int.reduceEq, Nat.reduceAdd, Nat.reduceSub, Nat.reduceMul, Nat.reduceLeDiff, reduceIte, reduceCtorEq, Nat.reduceBEq, Nat.reduceEqDiff]
 have z1 : ((L.length : Int) == 0) = false := by rw [beq_eq_false_iff_ne]; omega
 have w0 : IntKind.i64.wrap n0 = n0 := wrap64 (by omega) (by omega)
 have w1 : IntKind.i64.wrap n1 = n1 := wrap64 (by omega) (by omega)
 have w2 : IntKind.i64.wrap n2 = n2 := wrap64 (by omega) (by omega)
 have r0 := int_rem .none .i64 n0 (L.length : Int) (by omega)
 have m0 := tmod_nat k0.1 (show 0 < (L.length : Int) by omega)
 obtain ⟨i, hi⟩ : ∃ i : Nat, n0.tmod (L.length : Int) = i := ⟨_, (Int.toNat_of_nonneg m0.1).symm⟩
 rw [hi] at r0 m0
 have il : i < L.length := by omega
 have s1 : IntKind.i64.wrap ((L.length : Int) - (i : Int)) = ((L.length - i : Nat) : Int) := by rw [wrap64 (by omega) (by omega)]; omega
 have r1 := int_rem .none .i64 n1 ((L.length - i : Nat) : Int) (by omega)
 have m1 := tmod_nat k1.1 (show 0 < ((L.length - i : Nat) : Int) by omega)
 obtain ⟨j', hj'⟩ : ∃ i' : Nat, n1.tmod ((L.length - i : Nat) : Int) = i' := ⟨_, (Int.toNat_of_nonneg m1.1).symm⟩
 rw [hj'] at r1 m1
 obtain ⟨j, hj⟩ : ∃ j, i + j' = j := ⟨_, rfl⟩
 have jl : j < L.length := by omega
 have s2 : IntKind.i64.wrap ((i : Int) + (j' : Int)) = (j : Int) := by rw [wrap64 (by omega) (by omega)]; omega
 have s3 : IntKind.i64.wrap ((L.length : Int) - (j : Int)) = ((L.length - j : Nat) : Int) := by rw [wrap64 (by omega) (by omega)]; omega
 have r2 := int_rem .none .i64 n2 ((L.length - j : Nat) : Int) (by omega)
 have m2 := tmod_nat k2.1 (show 0 < ((L.length - j : Nat) : Int) by omega)
 obtain ⟨k', hk'⟩ : ∃ i' : Nat, n2.tmod ((L.length - j : Nat) : Int) = i' := ⟨_, (Int.toNat_of_nonneg m2.1).symm⟩
 rw [hk'] at r2 m2
 obtain ⟨k, hk⟩ : ∃ k, j + k' = k := ⟨_, rfl⟩
 have kl : k < L.length := by omega
 have s4 : IntKind.i64.wrap ((j : Int) + (k' : Int)) = (k : Int) := by rw [wrap64 (by omega) (by omega)]; omega
 have len : ∀ a b : Nat, (chgS L a b).length ≤ 1000 := fun a b => by
  have : ∀ (M : List SnS) (k : Int) (acc : List Int), (∀ s ∈ M, s.ch.length ≤ 40) → acc.length ≤ 1000 → (chgF (b : Int) M k acc).length ≤ 1000 := by
   intro M
   induction M with
   | nil => intro k acc _ h; exact h
   | cons s M ih =>
    intro k acc hm h
    rw [chgF]
    split
    ·exact h
    ·exact ih _ _ (fun s hs => hm s (by simp [hs])) (orS_le h (by have := hm s (by simp); omega))
  unfold chgS
  exact this _ _ _ (fun s hs => f.lc s (List.mem_of_mem_drop hs)) (by simp)
 obtain ⟨x1, K1, e1, A1, b1⟩ := changedC g0 fi (j : Int) (i : Int)
 have g1 := g0.adds A1
 obtain ⟨x2, K2, e2, A2, b2⟩ := changedC g1 fi (k : Int) (j : Int)
 have g2 := g1.adds A2
 obtain ⟨x3, K3, A3, b3, e3⟩ := Bt.orA (A2.bs b1) b2 (by have := len i j; omega) (by have := len j k; omega)
 have g3 := g2.adds A3
 obtain ⟨x4, K4, A4, b4, e4⟩ := Bt.allA b3 (by rw [Bt.orS_len]; have := len i j; have := len j k; omega)
 rw [chg_all f.u8 (show i ≤ j by omega) (show j ≤ k by omega)] at b4
 have g4 := g3.adds A4
 obtain ⟨x5, K5, e5, A5, b5⟩ := changedC g4 fi (k : Int) (i : Int)
 have g5 := g4.adds A5
 obtain ⟨x6, K6, A6, b6, e6⟩ := Bt.allA b5 (by have := len i k; omega)
 have g6 := g5.adds A6
 have al := Bt.allS_len (chgS L i k)
 have lik := len i k
 have e7 := Bt.intsC ((A5.trans A6).is b4) b6 (by omega)
 obtain ⟨x7, K7, e8, A7, b7⟩ := rchangedC g6 fi (i : Int) (k : Int)
 have g7 := g6.adds A7
 obtain ⟨x8, K8, A8, b8, e9⟩ := Bt.allRA b7 (by omega)
 have g8 := g7.adds A8
 have hx := List.getElem?_eq_getElem il
 have l0 := chchL0 g8 fi (i := i) b8 (by omega) (fun c hc => chg_held G kl hc) (k := (Bt.allS (chgS L i k)).length) (m := 0)
 have l1 := chchL1 g8 fi hx (G.one _ (List.getElem_mem il)).tb.up (k := L[i].tb.length) (m := 0)
 rw [show ((0 : Nat) : Int) = 0 from rfl] at l0 l1
 simp -implicitDefEqProofs (maxSteps := 5000000) only [go_sem, Nat.reduceShiftRight, Nat.reduceAnd, Nat.reduceBNe, Int.reduceEq, Nat.reduceAdd, Nat.reduceSub, Nat.reduceMul, Nat.reduceLeDiff, reduceIte, reduceCtorEq, Nat.reduceBEq, Nat.reduceEqDiff, wrap64, runC_loop, runC_range, callF_fn, callV_fn, callV_yld, yield_eq, yieldBody, yieldRaw, roundMid, roundEnd, rangeEnd, Bool.not_not, put_cons, put_nil, trim_same, at_zero, at_add, set_zero, set_add, store_one, write_zero, write_add, write_head, write_succ, splice_one, splice_more, List.drop_nil, List.take_nil, cell_int, cell_bool, fillS, splice_one, idxA, Ex.isNormal, List.set_nil, List.length_set, List.all_cons, List.all_nil, Bool.and_self, and_self, true_and, and_true, List.getElem?_nil, Int.reduceLT, Int.reduceLE, Int.reduceToNat, Int.toNat_zero, Int.toNat_one, Int.reduceAdd, Int.reduceSub, Int.reduceMul, Int.reduceNeg, Int.reduceBEq, Int.reduceBNe, Int.reduceGE, Int.reduceGT, Nat.reduceLT, trim_keep, under_fn, under_ptr, under_sl, Nat.lt_irrefl, not_lt_add, trim_tail, keepOk, ABlk.vals, Int.cast_ofNat_Int, decide_true, decide_false, List.all_cons, List.all_nil, Nat.zero_mul, Nat.mul_one, Nat.one_mul, idx_arr, runC_loop, x_loop, e0, x4_call, ef, er, wl, z1, c0, w0, w1, w2, r0, hi, s1, r1, hj', s2, s3, r2, hk', s4, e1, e2, e3, e4, e5, e6, e7, e8, e9]
 unfold LZ at l0 l1
 generalize (envL prog).loop (runC (envX prog X4) (l8x0 (envX prog X4))) = LL at l0 ⊢
 refine outs_ctx (fun r => seqR (blockR 0 r) _) (l0 _ _ _ _ _ _ _ _ _ _ _ _ _ _ _ _ _ _ _ _ _ _ _ _ _ _ _ _ _ _ _ _ _ _ _ _ _ _ _ _ _ _ _ _ _ _ _ _ _ _ _ _ _ _ _ _ _ _ _ _ _ _ _ _ _ _ _ _ _ _ _ _ _ _ _ _ _ _ _ _ _ _ _ _ _ _ _ _ _ _ _ _ _ _ _ _ _ _ _ _ _ _ _ _ _ _ _ _ _ _ _ _ _ _ _ _ _ _ _ _ _ _ _ _ _ _ _ _ _ _ _ _ _ _ _ _ _ (by omega)) ?_
 rintro e t H6 ⟨rfl, rfl, fv, rfl⟩
 simp -implicitDefEqProofs (maxSteps := 5000000) only [go_sem, Nat.reduceShiftRight, Nat.reduceAnd, Nat.reduceBNe, Int.reduceEq, Nat.reduceAdd, Nat.reduceSub, Nat.reduceMul, Nat.reduceLeDiff, reduceIte, reduceCtorEq, Nat.reduceBEq, Nat.reduceEqDiff, wrap64, runC_loop, runC_range, callF_fn, callV_fn, callV_yld, yield_eq, yieldBody, yieldRaw, roundMid, roundEnd, rangeEnd, Bool.not_not, put_cons, put_nil, trim_same, at_zero, at_add, set_zero, set_add, store_one, write_zero, write_add, write_head, write_succ, splice_one, splice_more, List.drop_nil, List.take_nil, cell_int, cell_bool, fillS, splice_one, idxA, Ex.isNormal, List.set_nil, List.length_set, List.all_cons, List.all_nil, Bool.and_self, and_self, true_and, and_true, List.getElem?_nil, Int.reduceLT, Int.reduceLE, Int.reduceToNat, Int.toNat_zero, Int.toNat_one, Int.reduceAdd, Int.reduceSub, Int.reduceMul, Int.reduceNeg, Int.reduceBEq, Int.reduceBNe, Int.reduceGE, Int.reduceGT, Nat.reduceLT, trim_keep, under_fn, under_ptr, under_sl, Nat.lt_irrefl, not_lt_add, trim_tail, keepOk, ABlk.vals, Int.cast_ofNat_Int, decide_true, decide_false, List.all_cons, List.all_nil, Nat.zero_mul, Nat.mul_one, Nat.one_mul, runC_loop, x_loop]
 generalize (envL prog).loop (runC (envX prog X4) (l8x1 (envX prog X4))) = LL at l1 ⊢
 refine outs_ctx (fun r => seqR (blockR 2 r) _) (l1 _ _ _ _ _ _ _ _ _ _ _ _ _ _ _ _ _ _ _ _ _ _ _ _ _ _ _ _ _ _ _ _ _ _ _ _ _ _ _ _ _ _ _ _ _ _ _ _ _ _ _ _ _ _ _ _ _ _ _ _ _ _ _ _ _ _ _ _ _ _ _ _ _ _ _ _ _ _ _ _ _ _ _ _ _ _ _ _ _ _ _ _ _ _ _ _ _ _ _ _ _ _ _ _ _ _ _ _ _ _ _ _ _ _ _ _ _ _ _ _ _ _ _ _ _ _ _ _ _ _ _ _ _ _ _ _ _ _ (by omega)) ?_
 rintro e t H7 ⟨rfl, rfl, fw, rfl⟩
 simp -implicitDefEqProofs (maxSteps := 5000000) only [go_sem, Nat.reduceShiftRight, Nat.reduceAnd, Nat.reduceBNe, Int.reduceEq, Nat.reduceAdd, Nat.reduceSub, Nat.reduceMul, Nat.reduceLeDiff, reduceIte, reduceCtorEq, Nat.reduceBEq, Nat.reduceEqDiff, wrap64, runC_loop, runC_range, callF_fn, callV_fn, callV_yld, yield_eq, yieldBody, yieldRaw, roundMid, roundEnd, rangeEnd, Bool.not_not, put_cons, put_nil, trim_same, at_zero, at_add, set_zero, set_add, store_one, write_zero, write_add, write_head, write_succ, splice_one, splice_more, List.drop_nil, List.take_nil, cell_int, cell_bool, fillS, splice_one, idxA, Ex.isNormal, List.set_nil, List.length_set, List.all_cons, List.all_nil, Bool.and_self, and_self, true_and, and_true, List.getElem?_nil, Int.reduceLT, Int.reduceLE, Int.reduceToNat, Int.toNat_zero, Int.toNat_one, Int.reduceAdd, Int.reduceSub, Int.reduceMul, Int.reduceNeg, Int.reduceBEq, Int.reduceBNe, Int.reduceGE, Int.reduceGT, Nat.reduceLT, trim_keep, under_fn, under_ptr, under_sl, Nat.lt_irrefl, not_lt_add, trim_tail, keepOk, ABlk.vals, Int.cast_ofNat_Int, decide_true, decide_false, List.all_cons, List.all_nil, Nat.zero_mul, Nat.mul_one, Nat.one_mul, x4_wakes, outs_normal]
 subst hQ
 simp -implicitDefEqProofs (maxSteps := 5000000) only [go_sem, Nat.reduceShiftRight, Nat.reduceAnd, Nat.reduceBNe, Int.reduceEq, Nat.reduceAdd, Nat.reduceSub, Nat.reduceMul, Nat.reduceLeDiff, reduceIte, reduceCtorEq, Nat.reduceBEq, Nat.reduceEqDiff]
end Go.Proofs.Ythhodjcgcgkaaaa.G11
end
