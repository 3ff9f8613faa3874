/- What the functions that WaysPlays reaches answer, for every argument. No condition but those in each statement. -/
import Derived.Test.YtodoakeifdiidaaW1
set_option linter.unusedSimpArgs false
set_option linter.unusedVariables false
set_option maxRecDepth 10000
namespace Go.Proofs.Ytodoakeifdiidaa.G13
open Go Go.Proofs.Ytodoakeifdiidaa.Eng
theorem eq_outs {h h2 h3 : AHeap} {rs : List RV} {r : Res} {v : AV} (o : Outs r fun e t h1 => fin rs (some (e, t, h1)) = some (v, h2)) (tr : trim h (some (v, h2)) = some (v, h3)) : trim h (fin rs r) = some (v, h3) := by
  obtain ⟨e, t, h1, rfl, q⟩ := o
  rw [q]; exact tr
noncomputable abbrev LQ (l : Env → CT) := (envL prog).loop (runC (envL prog) (l (envL prog)))

/-- The first slot with a block, from w on, m slots. -/
def findW (S : List Slot) (base : Nat) (blk : Int) : Nat → Nat → Option Nat
  | 0, _ => none
  | m + 1, w => if (sl S (base + w)).b = blk then some (base + w) else findW S base blk m (w + 1)
theorem findW_lt {S : List Slot} {base : Nat} {blk : Int} : ∀ {m w i : Nat}, findW S base blk m w = some i → base + w ≤ i ∧ i < base + w + m ∧ (sl S i).b = blk
  | 0, _, _, h => by simp [findW] at h
  | m + 1, w, i, h => by
    simp only [findW] at h
    split at h
    · injection h with h; subst h; exact ⟨by omega, by omega, by assumption⟩
    · have := findW_lt h; omega

section
variable {H : AHeap} {p bs bh : Nat} {e : Bool} {sets ways : Nat} {S : List Slot} {hs : List Nat} (m : PM H p bs bh e sets ways S hs)
include m
theorem PM.in {s w : Nat} (h1 : s < sets) (h2 : w < ways) : s * ways + w < S.length ∧ s * ways + w ≤ 32 ∧ s ≤ 7 := by
  have hmul : (s + 1) * ways ≤ sets * ways := Nat.mul_le_mul_right ways h1
  rw [Nat.add_mul, Nat.one_mul] at hmul
  have hcap : sets * ways ≤ 8 * 4 := Nat.mul_le_mul m.s8 m.w4
  have := m.len
  have := m.s8
  omega
theorem PM.base {s : Nat} (h1 : s < sets) : s * ways + ways ≤ S.length ∧ S.length ≤ 32 := by
  have hmul : (s + 1) * ways ≤ sets * ways := Nat.mul_le_mul_right ways h1
  rw [Nat.add_mul, Nat.one_mul] at hmul
  have hcap : sets * ways ≤ 8 * 4 := Nat.mul_le_mul m.s8 m.w4
  have := m.len
  omega
theorem PM.small : S.length ≤ 32 := by
  have hcap : sets * ways ≤ 8 * 4 := Nat.mul_le_mul m.s8 m.w4
  have := m.len
  omega
set_option maxHeartbeats 2000000 in
theorem findL (s : Nat) (hs' : s < sets) (blk : Int) (x2 x3 x7 x10 x11 x12 x13 x14 x15 x16 x17 x18 x19 x20 : AV) : ∀ (k w : Nat) (j8 j9 j23 j24 j25 j26 j27 j28 j29 j30 j31 j32 j33 j34 j35 j36 j37 j38 j39 j40 j41 j42 j43 j44 : AV), w + k = ways →
    Outs (LQ l12x0 [.ptr p 0, .int .i64 blk, x2, x3, .int .i64 0, .bool false, .int .i64 (s : Int), x7, j8, j9, x10, x11, x12, x13, x14, x15, x16, x17, x18, x19, x20, .int .i64 (ways : Int), .int .i64 (w : Int), j23, j24, j25, j26, j27, j28, j29, j30, j31, j32, j33, j34, j35, j36, j37, j38, j39, j40, j41, j42, j43, j44] H) fun e t H' => H' = H ∧ match findW S (s * ways) blk k w with
      | none => e = .exit 0 ∧ ∃ k8 k9 k22 k23 k24 k25 k26 k27 k28 k29 k30 k31 k32 k33 k34 k35 k36 k37 k38 k39 k40 k41 k42 k43 k44 : AV, t = [.ptr p 0, .int .i64 blk, x2, x3, .int .i64 0, .bool false, .int .i64 (s : Int), x7, k8, k9, x10, x11, x12, x13, x14, x15, x16, x17, x18, x19, x20, .int .i64 (ways : Int), k22, k23, k24, k25, k26, k27, k28, k29, k30, k31, k32, k33, k34, k35, k36, k37, k38, k39, k40, k41, k42, k43, k44]
      | some i => e = .ret ∧ ∃ k8 k9 k22 k23 k24 k25 k26 k27 k28 k29 k30 k31 k32 k33 k34 k35 k36 k37 k38 k39 k40 k41 k42 k43 k44 : AV, t = [.ptr p 0, .int .i64 blk, x2, x3, .int .i64 (i : Int), .bool true, .int .i64 (s : Int), x7, k8, k9, x10, x11, x12, x13, x14, x15, x16, x17, x18, x19, x20, .int .i64 (ways : Int), k22, k23, k24, k25, k26, k27, k28, k29, k30, k31, k32, k33, k34, k35, k36, k37, k38, k39, k40, k41, k42, k43, k44] := by
  intro k
  obtain ⟨L, hL⟩ : ∃ L, L = LQ l12x0 := ⟨_, rfl⟩
  have lo := loop_open hL
  have hm := m.map
  rw [← hL]
  induction k with
  | zero =>
    intro w j8 j9 j23 j24 j25 j26 j27 j28 j29 j30 j31 j32 j33 j34 j35 j36 j37 j38 j39 j40 j41 j42 j43 j44 hi
    obtain rfl : w = ways := by omega
    have hd : decide ((w : Int) < (w : Int)) = false := by simp
    rw [lo]
    unfold l12x0
    simp -implicitDefEqProofs (maxSteps := 5000000) only [go_sem, Nat.reduceShiftRight, Nat.reduceAnd, Nat.reduceBNe, Int.reduceEq, Nat.reduceAdd, Nat.reduceSub, Nat.reduceMul, Nat.reduceLeDiff, reduceIte, reduceCtorEq, Nat.reduceBEq, Nat.reduceEqDiff, go_sem, hd, seqR_exit', outs_normal, findW]
    exact ⟨_, _, _, _, _, _, _, _, _, _, _, _, _, _, _, _, _, _, _, _, _, _, _, _, _, rfl⟩
  | succ k ih =>
    intro w j8 j9 j23 j24 j25 j26 j27 j28 j29 j30 j31 j32 j33 j34 j35 j36 j37 j38 j39 j40 j41 j42 j43 j44 hi
    obtain ⟨i1, i2, i3⟩ := m.in hs' (show w < ways by omega)
    have w4 := m.w4
    have hd : decide ((w : Int) < (ways : Int)) = true := decide_eq_true (by omega)
    have e2 : IntKind.i64.wrap ((w : Int) + 1) = ((w + 1 : Nat) : Int) := by rw [wrap64 (by omega) (by omega)]; omega
    have em : IntKind.i64.wrap ((s : Int) * (ways : Int)) = ((s * ways : Nat) : Int) := by rw [← Int.natCast_mul, wrap64 (by omega) (by omega)]
    have ea : IntKind.i64.wrap (((s * ways : Nat) : Int) + (w : Int)) = ((s * ways + w : Nat) : Int) := by rw [wrap64 (by omega) (by omega)]; omega
    have ix := idx_nat bs 3 S.length S.length (s * ways + w) e .i64 (by omega) i1
    have hc := cells_rw m.sl
    have hg := slot_b i1
    have ih := fun j8 j9 j23 j24 j25 j26 j27 j28 j29 j30 j31 j32 j33 j34 j35 j36 j37 j38 j39 j40 j41 j42 j43 j44 => ih (w + 1) j8 j9 j23 j24 j25 j26 j27 j28 j29 j30 j31 j32 j33 j34 j35 j36 j37 j38 j39 j40 j41 j42 j43 j44 (by omega)
    rw [lo]
    unfold l12x0
    by_cases hb : (sl S (s * ways + w)).b = blk
    · have q : ((sl S (s * ways + w)).b == blk) = true := by simp [hb]
      simp -implicitDefEqProofs (maxSteps := 5000000) only [go_sem, Nat.reduceShiftRight, Nat.reduceAnd, Nat.reduceBNe, Int.reduceEq, Nat.reduceAdd, Nat.reduceSub, Nat.reduceMul, Nat.reduceLeDiff, reduceIte, reduceCtorEq, Nat.reduceBEq, Nat.reduceEqDiff, go_sem, hm, hd, e2, em, ea, ix, hc, hg, q, outs_normal, findW, hb]
      exact ⟨_, _, _, _, _, _, _, _, _, _, _, _, _, _, _, _, _, _, _, _, _, _, _, _, _, rfl⟩
    · have q : ((sl S (s * ways + w)).b == blk) = false := by simp [hb]
      have f : findW S (s * ways) blk (k + 1) w = findW S (s * ways) blk k (w + 1) := by simp [findW, hb]
      rw [f]
      simp -implicitDefEqProofs (maxSteps := 5000000) only [go_sem, Nat.reduceShiftRight, Nat.reduceAnd, Nat.reduceBNe, Int.reduceEq, Nat.reduceAdd, Nat.reduceSub, Nat.reduceMul, Nat.reduceLeDiff, reduceIte, reduceCtorEq, Nat.reduceBEq, Nat.reduceEqDiff, go_sem, hm, hd, e2, em, ea, ix, hc, hg, q]
      exact ih ..
/-- The slot of a block. -/
def findS (sets ways : Nat) (S : List Slot) (blk : Int) : Option Nat := if blk < 0 then none else findW S ((blk % sets).toNat * ways) blk ways 0
def optA (r : Option Nat) : AV := match r with | none => .tup [.int .i64 0, .bool false] | some i => .tup [.int .i64 (i : Int), .bool true]
theorem PM.setOf (blk : Int) (h : ¬ blk < 0) : blk.tmod sets = ((blk % sets).toNat : Int) ∧ (blk % sets).toNat < sets := by
  have := m.s1
  have h1 := Int.emod_nonneg blk (show (sets : Int) ≠ 0 by omega)
  have h2 := Int.emod_lt_of_pos blk (show (0 : Int) < sets by omega)
  rw [Int.tmod_eq_emod_of_nonneg (by omega)]
  omega
set_option maxHeartbeats 2000000 in
theorem findC (blk : Int) : (envL prog).call 12 [.ptr p 0, .int .i64 blk] H = some (optA (findS sets ways S blk), H) := by
  have hm := m.map
  have c := setC m blk
  unfold findS
  rw [c12]
  unfold b12
  by_cases h : blk < 0
  · rw [if_pos h, decide_eq_true h] at c
    rw [if_pos h]
    simp -implicitDefEqProofs (maxSteps := 5000000) only [go_sem, Nat.reduceShiftRight, Nat.reduceAnd, Nat.reduceBNe, Int.reduceEq, Nat.reduceAdd, Nat.reduceSub, Nat.reduceMul, Nat.reduceLeDiff, reduceIte, reduceCtorEq, Nat.reduceBEq, Nat.reduceEqDiff, go_sem, c, optA]
  · rw [if_neg h, decide_eq_false h] at c
    obtain ⟨e1, h1⟩ := m.setOf blk h
    rw [e1] at c
    rw [if_neg h]
    have fl := findL m _ h1 blk (k := ways) (w := 0)
    rw [show ((0 : Nat) : Int) = 0 from rfl] at fl
    refine eq_outs (h2 := H) ?_ (trim_same rfl)
    simp -implicitDefEqProofs (maxSteps := 5000000) only [go_sem, Nat.reduceShiftRight, Nat.reduceAnd, Nat.reduceBNe, Int.reduceEq, Nat.reduceAdd, Nat.reduceSub, Nat.reduceMul, Nat.reduceLeDiff, reduceIte, reduceCtorEq, Nat.reduceBEq, Nat.reduceEqDiff, go_sem, runC_loop, hm, c]
    refine outs_ctx (fun r => seqR (blockR 0 r) _) (fl _ _ _ _ _ _ _ _ _ _ _ _ _ _ _ _ _ _ _ _ _ _ _ _ _ _ _ _ _ _ _ _ _ _ _ _ _ _ (by omega)) ?_
    rintro e t H' ⟨rfl, hq⟩
    split at hq
    · obtain ⟨rfl, k8, k9, k22, k23, k24, k25, k26, k27, k28, k29, k30, k31, k32, k33, k34, k35, k36, k37, k38, k39, k40, k41, k42, k43, k44, rfl⟩ := hq
      rename_i hf
      rw [hf]
      simp -implicitDefEqProofs (maxSteps := 5000000) only [go_sem, Nat.reduceShiftRight, Nat.reduceAnd, Nat.reduceBNe, Int.reduceEq, Nat.reduceAdd, Nat.reduceSub, Nat.reduceMul, Nat.reduceLeDiff, reduceIte, reduceCtorEq, Nat.reduceBEq, Nat.reduceEqDiff, go_sem, outs_normal, optA]
    · obtain ⟨rfl, k8, k9, k22, k23, k24, k25, k26, k27, k28, k29, k30, k31, k32, k33, k34, k35, k36, k37, k38, k39, k40, k41, k42, k43, k44, rfl⟩ := hq
      rename_i hf
      rw [hf]
      simp -implicitDefEqProofs (maxSteps := 5000000) only [go_sem, Nat.reduceShiftRight, Nat.reduceAnd, Nat.reduceBNe, Int.reduceEq, Nat.reduceAdd, Nat.reduceSub, Nat.reduceMul, Nat.reduceLeDiff, reduceIte, reduceCtorEq, Nat.reduceBEq, Nat.reduceEqDiff, go_sem, outs_normal, optA]
end
end Go.Proofs.Ytodoakeifdiidaa.G13

