/- What the functions that RigPlays reaches answer, for every argument. No condition but those in each statement. -/
import Derived.Test.YthjkfincekckhaaN
import Derived.Test.YthjkfincekckhaaE5
set_option linter.unusedSimpArgs false
set_option linter.unusedVariables false
set_option linter.unusedSectionVars false
set_option maxRecDepth 10000
namespace Go.Proofs.Ythjkfincekckhaa.G04
open Go Go.Proofs.Ythjkfincekckhaa.Eng
theorem modC (a n : Int) (ha : -9000000000000000000 ≤ a ∧ a ≤ 9223372036854775807 ∨ IntKind.i64.has a) (h1 : 1 ≤ n) (h2 : n ≤ 1000000) (H : AHeap) : (envL prog).call 25 [.int .i64 a, .int .i64 n] H = some (.int .i64 (a % n), H) := by
  have hd : decide (n < 1) = false := decide_eq_false (by omega)
  have r1 := int_rem .none .i64 a n (by omega)
  have r2 := int_rem .none .i64 (a.tmod n + n) n (by omega)
  have b1 := Int.tmod_lt_of_pos a (show 0 < n by omega)
  have b2 : -n < a.tmod n := by have := Int.lt_tmod_of_pos a (show 0 < n by omega); omega
  have w : IntKind.i64.wrap (a.tmod n + n) = a.tmod n + n := wrap64 (by omega) (by omega)
  have e : (a.tmod n + n).tmod n = a % n := by
    rw [Int.tmod_eq_emod_of_nonneg (by omega), Int.add_emod_right]
    by_cases h : 0 ≤ a
    · rw [Int.tmod_eq_emod_of_nonneg h, Int.emod_emod_of_dvd _ (Int.dvd_refl n)]
    · rw [Int.tmod_def, Int.sub_mul_emod_self_left]
  rw [c25]
  unfold b25
  simp -implicitDefEqProofs (maxSteps := 5000000) only [go_sem, Nat.reduceShiftRight, Nat.reduceAnd, Nat.reduceBNe, Int.reduceEq, Nat.reduceAdd, Nat.reduceSub, Nat.reduceMul, Nat.reduceLeDiff, reduceIte, reduceCtorEq, Nat.reduceBEq, Nat.reduceEqDiff, go_sem, hd, r1, r2, w, e]

end Go.Proofs.Ythjkfincekckhaa.G04

