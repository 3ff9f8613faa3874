/- What the functions that RigPlays reaches answer, for every argument. No condition but those in each statement. -/
import Derived.Test.YthjkfincekckhaaR3
set_option linter.unusedSimpArgs false
set_option linter.unusedVariables false
set_option linter.unusedSectionVars false
set_option maxRecDepth 10000
namespace Go.Proofs.Ythjkfincekckhaa.G04
open Go Go.Proofs.Ythjkfincekckhaa.Eng
section
variable {H : AHeap} {p p0 d0 p1 d1 c : Nat} {L0 L1 : List (AV × Sec)} {r : RgS} (m : RG H p p0 d0 p1 d1 c L0 L1 r)
include m
set_option maxHeartbeats 4000000 in
theorem rigReadC (dev i : Int) : (envL prog).call 15 [.ptr p 0, .int .i64 dev, .int .i64 i] H = some (.tup [.agg (u8s (r.read dev i).1), .int .i64 (r.read dev i).2], H) := by
  have hcc := fun B => rig_cells m B
  unfold rgCells at hcc
  have z0 : splice (rep 64 (.int .u8 0)) 0 (rep 64 (.int .u8 0)) = rep 64 (.int .u8 0) := splice_rep _ 64 _ (by omega) (rep_len _ _)
  have zc := rep_cell 64 (.int .u8 0) rfl
  have zt := rep_take 64 (.int .u8 0)
  have zu := rep_under 64 H.length (.int .u8 0) rfl
  have ez : u8s zeros64 = rep 64 (.int .u8 0) := (rep_u8s 64 0).symm
  have rd := fun B => rigDev (m.adds B) dev
  rw [c15]
  unfold b15
  have dl := diskLenN
  by_cases hi : i < 0
  · have d1 := decide_eq_true hi
    have er : r.read dev i = (zeros64, 1) := by unfold RgS.read; rw [if_neg (by omega)]
    rw [er, ez]
    rcases rd [.rw (rep 64 (.int .u8 0))] with ⟨q, d, L, e, k, hl, _⟩ | ⟨e, hl, _⟩
    · simp -implicitDefEqProofs (maxSteps := 5000000) only [go_sem, Nat.reduceShiftRight, Nat.reduceAnd, Nat.reduceBNe, Int.reduceEq, Nat.reduceAdd, Nat.reduceSub, Nat.reduceMul, Nat.reduceLeDiff, reduceIte, reduceCtorEq, Nat.reduceBEq, Nat.reduceEqDiff, e, d1, store_one, write_zero, z0, zc, zt, zu, rep_len]
    · simp -implicitDefEqProofs (maxSteps := 5000000) only [go_sem, Nat.reduceShiftRight, Nat.reduceAnd, Nat.reduceBNe, Int.reduceEq, Nat.reduceAdd, Nat.reduceSub, Nat.reduceMul, Nat.reduceLeDiff, reduceIte, reduceCtorEq, Nat.reduceBEq, Nat.reduceEqDiff, e, d1, store_one, write_zero, z0, zc, zt, zu, rep_len]
  have d1 := decide_eq_false hi
  rcases rd [.rw (rep 64 (.int .u8 0))] with ⟨q, d, L, e, k, hl, _⟩ | ⟨e, hl, _⟩
  · have c1 := diskLenC k
    have hll : (r.dk dev).length = L.length := by rw [← hl, List.length_map]
    by_cases hx : i < L.length
    · obtain ⟨n, rfl⟩ : ∃ n : Nat, i = n := ⟨i.toNat, by omega⟩
      have hn : n < L.length := by omega
      have d2 : decide ((n : Int) ≥ (L.length : Int)) = false := decide_eq_false (by omega)
      cases hd : r.down with
      | true =>
        have er : r.read dev (n : Int) = (zeros64, 14) := by unfold RgS.read; rw [if_pos (by omega), hd]; rfl
        rw [er, ez]
        rw [hd] at hcc
        simp -implicitDefEqProofs (maxSteps := 5000000) only [go_sem, Nat.reduceShiftRight, Nat.reduceAnd, Nat.reduceBNe, Int.reduceEq, Nat.reduceAdd, Nat.reduceSub, Nat.reduceMul, Nat.reduceLeDiff, reduceIte, reduceCtorEq, Nat.reduceBEq, Nat.reduceEqDiff, e, c1, d1, d2, hcc, store_one, write_zero, z0, zc, zt, zu, rep_len]
      | false =>
        obtain ⟨x, hx1, hx2⟩ := get_sec hl (n := n) (by omega)
        have er : r.read dev (n : Int) = (x.2.last, 0) := by unfold RgS.read; rw [if_pos (by omega), hd, Int.toNat_natCast, hx2]; rfl
        rw [er]
        rw [hd] at hcc
        have c2 := diskReadC k hx1
        have l64 := (k.vs.at hx1).2.1.last.1
        have w64 : (u8s x.2.last).length = 64 := by rw [u8s_len]; exact l64
        have uc := u8s_cell x.2.last
        have sp := splice_u8 (.int .u8 0) l64 (by omega)
        have tk := u8s_take l64
        have ul := u8s_all x.2.last H.length
        simp -implicitDefEqProofs (maxSteps := 5000000) only [go_sem, Nat.reduceShiftRight, Nat.reduceAnd, Nat.reduceBNe, Int.reduceEq, Nat.reduceAdd, Nat.reduceSub, Nat.reduceMul, Nat.reduceLeDiff, reduceIte, reduceCtorEq, Nat.reduceBEq, Nat.reduceEqDiff, e, c1, c2, d1, d2, hcc, store_one, write_zero, w64, uc, sp, tk, ul, rep_len]
    · have d2 : decide (i ≥ (L.length : Int)) = true := decide_eq_true (by omega)
      have er : r.read dev i = (zeros64, 1) := by unfold RgS.read; rw [if_neg (by omega)]
      rw [er, ez]
      simp -implicitDefEqProofs (maxSteps := 5000000) only [go_sem, Nat.reduceShiftRight, Nat.reduceAnd, Nat.reduceBNe, Int.reduceEq, Nat.reduceAdd, Nat.reduceSub, Nat.reduceMul, Nat.reduceLeDiff, reduceIte, reduceCtorEq, Nat.reduceBEq, Nat.reduceEqDiff, e, c1, d1, d2, store_one, write_zero, z0, zc, zt, zu, rep_len]
  · have d2 : decide (i ≥ 0) = true := decide_eq_true (by omega)
    have er : r.read dev i = (zeros64, 1) := by unfold RgS.read; rw [if_neg (by rw [hl]; simp)]
    rw [er, ez]
    simp -implicitDefEqProofs (maxSteps := 5000000) only [go_sem, Nat.reduceShiftRight, Nat.reduceAnd, Nat.reduceBNe, Int.reduceEq, Nat.reduceAdd, Nat.reduceSub, Nat.reduceMul, Nat.reduceLeDiff, reduceIte, reduceCtorEq, Nat.reduceBEq, Nat.reduceEqDiff, e, dl, d1, d2, store_one, write_zero, z0, zc, zt, zu, rep_len]
end
end Go.Proofs.Ythjkfincekckhaa.G04

