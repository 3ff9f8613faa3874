/- What the functions that RigPlays reaches answer, for every argument. No condition but those in each statement. -/
import Derived.Test.YthjkfincekckhaaR6
set_option linter.unusedSimpArgs false
set_option linter.unusedVariables false
set_option linter.unusedSectionVars false
set_option maxRecDepth 10000
namespace Go.Proofs.Ythjkfincekckhaa.G04
open Go Go.Proofs.Ythjkfincekckhaa.Eng
def zrow : List AV := u8s (List.replicate 64 0) ++ [.nilSl]
def zdisk (n : Nat) : List AV := (List.replicate n zrow).flatten
def zL (n : Nat) : List (AV × Sec) := List.replicate n (.nilSl, zsec)
theorem zdisk_eq (n : Nat) : zdisk n = ((zL n).map secR).flatten := by unfold zdisk zL; rw [List.map_replicate]; rfl
theorem DK.new {H : AHeap} {p d n c : Nat} (h1 : cellsOf H p = some [.sl d 0 65 n n true]) (h2 : H[d]? = some (.rw (zdisk n))) (np : p ≠ d) (hn : n ≤ 4096) (hc : c ≤ 1000000000) : DK H p d c (zL n) := by
  refine ⟨by rw [h1]; simp [zL], by rw [h2, zdisk_eq], np, by simp [zL]; exact hn, ⟨hc, fun x hx => ?_, fun x hx => ?_, fun x hx => ?_, fun x hx b hb => ?_, fun i j x y hi hj hne b hb => ?_⟩⟩
  all_goals try (have e := (List.mem_replicate.1 hx).2; subst e)
  · exact .inl ⟨rfl, rfl⟩
  · exact zsec_ok
  · exact Nat.zero_le _
  · cases hb
  · have e := (List.mem_replicate.1 (List.mem_of_getElem? hi)).2
    subst e; cases hb
theorem fpD_zL {p d n b : Nat} (h : fpD p d (zL n) b) : b = p ∨ b = d := by
  rcases h with h | h | ⟨x, hx, hb⟩
  · exact .inl h
  · exact .inr h
  · have e := (List.mem_replicate.1 hx).2
    subst e; cases hb
set_option maxHeartbeats 1000000 in
theorem diskNewC {n : Nat} (h1 : 1 ≤ n) (h2 : n ≤ 4096) (H : AHeap) : (envL prog).call 26 [.int .i64 (n : Int)] H = some (.tup [.ptr (H.length + 1) 0, .int .i64 0], H ++ [.rw (zdisk n), .rw [.sl H.length 0 65 n n true]]) := by
  have d1 : decide ((n : Int) < 1) = false := decide_eq_false (by omega)
  have d2 : decide ((n : Int) > 4096) = false := decide_eq_false (by omega)
  have mk : ∀ G : AHeap, makeSliceV (ty 65 true 88 (rep 64 (.int .u8 0) ++ [.nilSl])) (.int .i64 (n : Int)) (.int .i64 (n : Int)) G = some (.sl G.length 0 65 n n true, G ++ [.rw (zdisk n)]) := fun G => by
    rw [make_rows 65 88 n true _ (by omega) (by omega) (by unfold roomy; omega), rep_u8s]; rfl
  rw [c26]
  unfold b26
  simp -implicitDefEqProofs (maxSteps := 5000000) only [go_sem, Nat.reduceShiftRight, Nat.reduceAnd, Nat.reduceBNe, Int.reduceEq, Nat.reduceAdd, Nat.reduceSub, Nat.reduceMul, Nat.reduceLeDiff, reduceIte, reduceCtorEq, Nat.reduceBEq, Nat.reduceEqDiff, d1, d2, mk]
  exact trim_keep (by simp [AV.under, underAll])
theorem diskNewBad {n : Int} (h : n < 1 ∨ n > 4096) (H : AHeap) : (envL prog).call 26 [.int .i64 n] H = some (.tup [.nilPtr, .int .i64 1], H) := by
  rw [c26]
  unfold b26
  by_cases h1 : n < 1
  · have d1 := decide_eq_true h1
    simp -implicitDefEqProofs (maxSteps := 5000000) only [go_sem, Nat.reduceShiftRight, Nat.reduceAnd, Nat.reduceBNe, Int.reduceEq, Nat.reduceAdd, Nat.reduceSub, Nat.reduceMul, Nat.reduceLeDiff, reduceIte, reduceCtorEq, Nat.reduceBEq, Nat.reduceEqDiff, d1]
  · have d1 := decide_eq_false h1
    have d2 : decide (n > 4096) = true := decide_eq_true (by omega)
    simp -implicitDefEqProofs (maxSteps := 5000000) only [go_sem, Nat.reduceShiftRight, Nat.reduceAnd, Nat.reduceBNe, Int.reduceEq, Nat.reduceAdd, Nat.reduceSub, Nat.reduceMul, Nat.reduceLeDiff, reduceIte, reduceCtorEq, Nat.reduceBEq, Nat.reduceEqDiff, d1, d2]
def newRg (n0 n1 : Nat) : RgS := ⟨List.replicate n0 zsec, List.replicate n1 zsec, -1, false, 0⟩
set_option maxHeartbeats 2000000 in
theorem rigNewC {n0 n1 : Nat} (a1 : 1 ≤ n0) (a2 : n0 ≤ 4096) (b1 : 1 ≤ n1) (b2 : n1 ≤ 4096) (H : AHeap) : ∃ H', RG H' H.length (H.length + 2) (H.length + 1) (H.length + 4) (H.length + 3) 0 (zL n0) (zL n1) (newRg n0 n1) ∧ Adds H H' ∧ (envL prog).call 10 [.int .i64 (n0 : Int), .int .i64 (n1 : Int)] H = some (.tup [.ptr H.length 0, .int .i64 0], H') := by
  have c0 := fun B => diskNewC a1 a2 (H ++ B)
  have c1 := fun B => diskNewC b1 b2 (H ++ B)
  have w1 : IntKind.i64.wrap 1 = 1 := by decide
  have w2 : IntKind.i64.wrap 2 = 2 := by decide
  have n00 : ((0 : Int) != 0) = false := rfl
  refine ⟨H ++ [.rw [.ptr (H.length + 2) 0, .ptr (H.length + 4) 0, .int .i64 (-1), .bool false, .int .i64 0], .rw (zdisk n0), .rw [.sl (H.length + 1) 0 65 n0 n0 true], .rw (zdisk n1), .rw [.sl (H.length + 3) 0 65 n1 n1 true]], ?_, ⟨_, rfl⟩, ?_⟩
  · refine ⟨by simp [rgCells, newRg], DK.new (by unfold cellsOf; simp) (by simp) (by omega) a2 (by omega), DK.new (by unfold cellsOf; simp) (by simp) (by omega) b2 (by omega), by simp [zL, newRg], by simp [zL, newRg], fun b hb hb2 => ?_, fun hb => ?_, fun hb => ?_⟩
    · have := fpD_zL hb
      have := fpD_zL hb2
      omega
    · have := fpD_zL hb; omega
    · have := fpD_zL hb; omega
  · rw [c10]
    unfold b10
    simp -implicitDefEqProofs (maxSteps := 5000000) only [go_sem, Nat.reduceShiftRight, Nat.reduceAnd, Nat.reduceBNe, Int.reduceEq, Nat.reduceAdd, Nat.reduceSub, Nat.reduceMul, Nat.reduceLeDiff, reduceIte, reduceCtorEq, Nat.reduceBEq, Nat.reduceEqDiff, loop_run, runC_loop, idxA, idx_arr, Int.reduceLT, Int.reduceLE, Int.reduceToNat, Int.toNat_zero, Int.toNat_one, Nat.reduceLT, Nat.zero_mul, Nat.mul_one, Nat.one_mul, Int.reduceAdd, Int.cast_ofNat_Int, seqR_exit', store_one, write_zero, write_add, write_head, List.all_cons, List.all_nil, Bool.and_self, l10x0, c0, c1, w1, w2, n00]
    exact trim_keep (by simp [AV.under, underAll])
end Go.Proofs.Ythjkfincekckhaa.G04

