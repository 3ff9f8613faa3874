/- What the functions that RigPlays reaches answer, for every argument. No condition but those in each statement. -/
import Derived.Test.YthjkfincekckhaaN
import Derived.Test.YthjkfincekckhaaE5
set_option linter.unusedSimpArgs false
set_option linter.unusedVariables false
set_option linter.unusedSectionVars false
set_option maxRecDepth 10000
namespace Go.Proofs.Ythjkfincekckhaa.G04
open Go Go.Proofs.Ythjkfincekckhaa.Eng
theorem rep_zero (v : AV) : rep 0 v = [] := rfl
theorem splice_set (cs : List AV) (off : Nat) (v : AV) : splice cs off [v] = cs.set off v := rfl

theorem fillL (v : Int) (h : AHeap) (A : List AV) (x1 x2 x12 : AV) : ∀ (k i : Nat) (j5 j6 j7 j8 j9 j10 j11 : AV), i + k = 64 →
    ∃ k5 k6 k7 k8 k9 k10 k11 : AV, (envL prog).loop (runC (envL prog) (l13x0 (envL prog))) [.int .u8 v, x1, x2, .ptr (h.length + 1) 0, .int .i64 (i : Int), j5, j6, j7, j8, j9, j10, j11, x12] (h ++ [.rw A, .rw (rep i (.int .u8 v) ++ rep k (.int .u8 0))]) =
      some (.exit 0, [.int .u8 v, x1, x2, .ptr (h.length + 1) 0, .int .i64 64, k5, k6, k7, k8, k9, k10, k11, x12], h ++ [.rw A, .rw (rep 64 (.int .u8 v))]) := by
  intro k
  induction k with
  | zero =>
    intro i j5 j6 j7 j8 j9 j10 j11 hi
    obtain rfl : i = 64 := by omega
    have hd : decide (((64 : Nat) : Int) < 64) = false := rfl
    rw [loop_run]
    unfold l13x0
    simp -implicitDefEqProofs (maxSteps := 5000000) only [go_sem, Nat.reduceShiftRight, Nat.reduceAnd, Nat.reduceBNe, Int.reduceEq, Nat.reduceAdd, Nat.reduceSub, Nat.reduceMul, Nat.reduceLeDiff, reduceIte, reduceCtorEq, Nat.reduceBEq, Nat.reduceEqDiff, go_sem, hd, seqR_exit', rep_zero]
    exact ⟨_, _, _, _, _, _, _, rfl⟩
  | succ k ih =>
    intro i j5 j6 j7 j8 j9 j10 j11 hi
    have hd : decide ((i : Int) < 64) = true := by simp; omega
    have h0 : (0 ≤ (i : Int)) = True := by simp
    have h1 : ((i : Int) < 64) = True := by simp; omega
    have h2 : IntKind.i64.wrap ((i : Int) + 1) = ((i + 1 : Nat) : Int) := by rw [wrap64 (by omega) (by omega)]; omega
    have h3 : (i + 1 ≤ i + (k + 1)) = True := by simp
    obtain ⟨k5, k6, k7, k8, k9, k10, k11, e⟩ := ih (i + 1) (.int .i64 i) (.bool true) (.int .i64 i) (.int .i64 ((i + 1 : Nat) : Int)) (.int .i64 i) (.int .u8 v) (.ptr (h.length + 1) i) (by omega)
    refine ⟨k5, k6, k7, k8, k9, k10, k11, ?_⟩
    rw [← e, loop_run]
    conv => lhs; arg 1; unfold l13x0
    simp -implicitDefEqProofs (maxSteps := 5000000) only [go_sem, Nat.reduceShiftRight, Nat.reduceAnd, Nat.reduceBNe, Int.reduceEq, Nat.reduceAdd, Nat.reduceSub, Nat.reduceMul, Nat.reduceLeDiff, reduceIte, reduceCtorEq, Nat.reduceBEq, Nat.reduceEqDiff, go_sem, hd, idxAddrA, h0, h1, h2, h3, Int.toNat_natCast, Int.cast_ofNat_Int, Nat.mul_one, write_add, write_succ, write_head, store_one, splice_set, rep_fill, true_and, cell_int, List.all_cons, List.all_nil, Bool.and_self, and_self]

theorem fillC (v : Int) (h : AHeap) : (envL prog).call 13 [.int .u8 v] h = some (.agg (rep 64 (.int .u8 v)), h) := by
  rw [c13]
  unfold b13
  have L : ∀ (j5 j6 j7 j8 j9 j10 j11 : AV), ∃ k5 k6 k7 k8 k9 k10 k11 : AV, (envL prog).loop (runC (envL prog) (l13x0 (envL prog))) [.int .u8 v, .undef, .ptr h.length 0, .ptr (h.length + 1) 0, .int .i64 0, j5, j6, j7, j8, j9, j10, j11, .undef] (h ++ [.rw (rep 64 (.int .u8 0)), .rw (rep 64 (.int .u8 0))]) =
      some (.exit 0, [.int .u8 v, .undef, .ptr h.length 0, .ptr (h.length + 1) 0, .int .i64 64, k5, k6, k7, k8, k9, k10, k11, .undef], h ++ [.rw (rep 64 (.int .u8 0)), .rw (rep 64 (.int .u8 v))]) := fun j5 j6 j7 j8 j9 j10 j11 =>
    fillL v h (rep 64 (.int .u8 0)) .undef (.ptr h.length 0) .undef 64 0 j5 j6 j7 j8 j9 j10 j11 rfl
  obtain ⟨k5, k6, k7, k8, k9, k10, k11, e⟩ := L .undef .undef .undef .undef .undef .undef .undef
  simp -implicitDefEqProofs (maxSteps := 5000000) only [go_sem, Nat.reduceShiftRight, Nat.reduceAnd, Nat.reduceBNe, Int.reduceEq, Nat.reduceAdd, Nat.reduceSub, Nat.reduceMul, Nat.reduceLeDiff, reduceIte, reduceCtorEq, Nat.reduceBEq, Nat.reduceEqDiff, go_sem, runC_loop, e, write_zero, write_add, write_succ, write_head, store_one, cell_int, and_self, ne_eq, Nat.reduceEqDiff, not_false_eq_true]
end Go.Proofs.Ythjkfincekckhaa.G04

