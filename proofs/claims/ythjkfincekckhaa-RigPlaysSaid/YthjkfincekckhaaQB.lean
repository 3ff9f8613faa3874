/- What the functions that RigPlays reaches answer, for every argument. No condition but those in each statement. -/
import Derived.Test.YthjkfincekckhaaR8
import Derived.Test.YthjkfincekckhaaX5
set_option linter.unusedSimpArgs false
set_option linter.unusedVariables false
set_option linter.unusedSectionVars false
set_option maxRecDepth 10000
namespace Go.Proofs.Ythjkfincekckhaa.G04
open Go Go.Proofs.Ythjkfincekckhaa.Eng
set_option maxHeartbeats 4000000 in
theorem rigNewBad {n0 n1 : Int} (hb : ¬ ((1 ≤ n0 ∧ n0 ≤ 4096) ∧ (1 ≤ n1 ∧ n1 ≤ 4096))) (H : AHeap) : (envL prog).call 10 [.int .i64 n0, .int .i64 n1] H = some (.tup [.nilPtr, .int .i64 1], H) := by
  have w1 : IntKind.i64.wrap 1 = 1 := by decide
  have n00 : ((0 : Int) != 0) = false := rfl
  have n10 : ((1 : Int) != 0) = true := rfl
  by_cases h0 : 1 ≤ n0 ∧ n0 ≤ 4096
  · obtain ⟨m, rfl⟩ : ∃ m : Nat, n0 = m := ⟨n0.toNat, by omega⟩
    have c0 := fun B => diskNewC (n := m) (by omega) (by omega) (H ++ B)
    have c1 := fun B => diskNewBad (n := n1) (by omega) (H ++ B)
    rw [c10]
    unfold b10
    simp -implicitDefEqProofs (maxSteps := 5000000) only [go_sem, Nat.reduceShiftRight, Nat.reduceAnd, Nat.reduceBNe, Int.reduceEq, Nat.reduceAdd, Nat.reduceSub, Nat.reduceMul, Nat.reduceLeDiff, reduceIte, reduceCtorEq, Nat.reduceBEq, Nat.reduceEqDiff, loop_run, runC_loop, idxA, idx_arr, Int.reduceLT, Int.reduceLE, Int.reduceToNat, Int.toNat_zero, Int.toNat_one, Nat.reduceLT, Nat.zero_mul, Nat.mul_one, Nat.one_mul, Int.reduceAdd, Int.cast_ofNat_Int, seqR_exit', store_one, write_zero, write_add, write_head, List.all_cons, List.all_nil, Bool.and_self, l10x0, c0, c1, w1, n00, n10]
  · have c0 := fun B => diskNewBad (n := n0) (by omega) (H ++ B)
    rw [c10]
    unfold b10
    simp -implicitDefEqProofs (maxSteps := 5000000) only [go_sem, Nat.reduceShiftRight, Nat.reduceAnd, Nat.reduceBNe, Int.reduceEq, Nat.reduceAdd, Nat.reduceSub, Nat.reduceMul, Nat.reduceLeDiff, reduceIte, reduceCtorEq, Nat.reduceBEq, Nat.reduceEqDiff, loop_run, runC_loop, idxA, idx_arr, Int.reduceLT, Int.reduceLE, Int.reduceToNat, Int.toNat_zero, Int.toNat_one, Nat.reduceLT, Nat.zero_mul, Nat.mul_one, Nat.one_mul, Int.reduceAdd, Int.cast_ofNat_Int, seqR_exit', store_one, write_zero, write_add, write_head, List.all_cons, List.all_nil, Bool.and_self, l10x0, c0, w1, n00, n10]
set_option maxHeartbeats 4000000 in
theorem rqNewBad {n0 n1 : Int} (hb : ¬ ((1 ≤ n0 ∧ n0 ≤ 4096) ∧ (1 ≤ n1 ∧ n1 ≤ 4096))) (H : AHeap) : (envL prog).call 11 [.int .i64 n0, .int .i64 n1] H = some (.tup [.nilPtr, .int .i64 1], H) := by
  have n00 : ((0 : Int) != 0) = false := rfl
  have n10 : ((1 : Int) != 0) = true := rfl
  by_cases h0 : 1 ≤ n0 ∧ n0 ≤ 4096
  · obtain ⟨m, rfl⟩ : ∃ m : Nat, n0 = m := ⟨n0.toNat, by omega⟩
    have c0 := refNewC (n := m) (by omega) (by omega) H
    have c1 := fun B => refNewBad (n := n1) (by omega) (H ++ B)
    rw [c11]
    unfold b11
    simp -implicitDefEqProofs (maxSteps := 5000000) only [go_sem, Nat.reduceShiftRight, Nat.reduceAnd, Nat.reduceBNe, Int.reduceEq, Nat.reduceAdd, Nat.reduceSub, Nat.reduceMul, Nat.reduceLeDiff, reduceIte, reduceCtorEq, Nat.reduceBEq, Nat.reduceEqDiff, c0, c1, n00, n10, splice_more]
  · have c0 := refNewBad (n := n0) (by omega) H
    by_cases h1 : 1 ≤ n1 ∧ n1 ≤ 4096
    · obtain ⟨m, rfl⟩ : ∃ m : Nat, n1 = m := ⟨n1.toNat, by omega⟩
      have c1 := fun B => refNewC (n := m) (by omega) (by omega) (H ++ B)
      have c2 := refNewC (n := m) (by omega) (by omega) H
      rw [c11]
      unfold b11
      simp -implicitDefEqProofs (maxSteps := 5000000) only [go_sem, Nat.reduceShiftRight, Nat.reduceAnd, Nat.reduceBNe, Int.reduceEq, Nat.reduceAdd, Nat.reduceSub, Nat.reduceMul, Nat.reduceLeDiff, reduceIte, reduceCtorEq, Nat.reduceBEq, Nat.reduceEqDiff, c0, c1, c2, n00, n10, splice_more]
    · have c1 := fun B => refNewBad (n := n1) (by omega) (H ++ B)
      have c2 := refNewBad (n := n1) (by omega) H
      rw [c11]
      unfold b11
      simp -implicitDefEqProofs (maxSteps := 5000000) only [go_sem, Nat.reduceShiftRight, Nat.reduceAnd, Nat.reduceBNe, Int.reduceEq, Nat.reduceAdd, Nat.reduceSub, Nat.reduceMul, Nat.reduceLeDiff, reduceIte, reduceCtorEq, Nat.reduceBEq, Nat.reduceEqDiff, c0, c1, c2, n00, n10, splice_more]
end Go.Proofs.Ythjkfincekckhaa.G04

