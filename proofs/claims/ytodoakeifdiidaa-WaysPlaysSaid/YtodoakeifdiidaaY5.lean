/- What the functions that WaysPlays reaches answer, for every argument. No condition but those in each statement. -/
import Derived.Test.YtodoakeifdiidaaY4
import Derived.Test.YtodoakeifdiidaaW8
set_option linter.unusedSimpArgs false
set_option linter.unusedVariables false
set_option maxRecDepth 10000
namespace Go.Proofs.Ytodoakeifdiidaa.G13
open Go Go.Proofs.Ytodoakeifdiidaa.Eng
set_option maxHeartbeats 4000000 in
theorem intsL {H : AHeap} {v w : AV} {zs : List Int} (b : IS H v zs) (c : IS H w zs) (hn : zs.length ≤ 1000000) (x2 x3 x6 x7 x8 x9 x10 : AV) : ∀ (m i : Nat) (j11 j12 j13 j14 j15 j16 j17 j18 j19 j20 j21 j22 j23 j24 j25 : AV), i + m = zs.length →
    Outs (LQ l29x0 [v, w, x2, x3, .bool false, .int .i64 (i : Int), x6, x7, x8, x9, x10, j11, j12, j13, j14, j15, j16, j17, j18, j19, j20, j21, j22, j23, j24, j25] H) fun e t H' => e = .exit 0 ∧ H' = H ∧ ∃ k : Nat → AV, t = [v, w, x2, x3, .bool false, (k 5), x6, x7, x8, x9, x10, (k 11), (k 12), (k 13), (k 14), (k 15), (k 16), (k 17), (k 18), (k 19), (k 20), (k 21), (k 22), (k 23), (k 24), (k 25)] := by
  intro m
  obtain ⟨L, hL⟩ : ∃ L, L = LQ l29x0 := ⟨_, rfl⟩
  have lo := loop_open hL
  rw [← hL]
  have hl := b.len
  induction m with
  | zero =>
    intro i j11 j12 j13 j14 j15 j16 j17 j18 j19 j20 j21 j22 j23 j24 j25 hi
    obtain rfl : i = zs.length := by omega
    have hd : decide ((zs.length : Int) < (zs.length : Int)) = false := by simp
    rw [lo]
    unfold l29x0
    simp -implicitDefEqProofs (maxSteps := 5000000) only [go_sem, Nat.reduceShiftRight, Nat.reduceAnd, Nat.reduceBNe, Int.reduceEq, Nat.reduceAdd, Nat.reduceSub, Nat.reduceMul, Nat.reduceLeDiff, reduceIte, reduceCtorEq, Nat.reduceBEq, Nat.reduceEqDiff, go_sem, hl, hd, seqR_exit', outs_normal]
    exact exF rfl
  | succ m ih =>
    intro i j11 j12 j13 j14 j15 j16 j17 j18 j19 j20 j21 j22 j23 j24 j25 hi
    have hlt : i < zs.length := by omega
    have hd : decide ((i : Int) < (zs.length : Int)) = true := by simp; omega
    have h2 : IntKind.i64.wrap ((i : Int) + 1) = ((i + 1 : Nat) : Int) := by rw [wrap64 (by omega) (by omega)]; omega
    obtain ⟨a1, ha1, hl1⟩ := b.idx (List.getElem?_eq_getElem hlt) .i64
    obtain ⟨a2, ha2, hl2⟩ := c.idx (List.getElem?_eq_getElem hlt) .i64
    have hne : (zs[i]'hlt != zs[i]'hlt) = false := by simp
    rw [lo]
    unfold l29x0
    simp -implicitDefEqProofs (maxSteps := 5000000) only [go_sem, Nat.reduceShiftRight, Nat.reduceAnd, Nat.reduceBNe, Int.reduceEq, Nat.reduceAdd, Nat.reduceSub, Nat.reduceMul, Nat.reduceLeDiff, reduceIte, reduceCtorEq, Nat.reduceBEq, Nat.reduceEqDiff, go_sem, hl, hd, h2, ha1, hl1, ha2, hl2, hne]
    exact ih (i + 1) _ _ _ _ _ _ _ _ _ _ _ _ _ _ _ (by omega)
theorem intsC {H : AHeap} {v w : AV} {zs : List Int} (b : IS H v zs) (c : IS H w zs) (hn : zs.length ≤ 1000000) : (envL prog).call 29 [v, w] H = some (.bool true, H) := by
  have l0 := intsL b c hn (m := zs.length) (i := 0)
  have hl := b.len
  have hl2 := c.len
  have hne : ((zs.length : Int) != (zs.length : Int)) = false := by simp
  rw [show ((0 : Nat) : Int) = 0 from rfl] at l0
  rw [c29]
  unfold b29
  refine eq_outs (h2 := H) ?_ (trim_same rfl)
  simp -implicitDefEqProofs (maxSteps := 5000000) only [go_sem, Nat.reduceShiftRight, Nat.reduceAnd, Nat.reduceBNe, Int.reduceEq, Nat.reduceAdd, Nat.reduceSub, Nat.reduceMul, Nat.reduceLeDiff, reduceIte, reduceCtorEq, Nat.reduceBEq, Nat.reduceEqDiff, go_sem, runC_loop, hl, hl2, hne]
  refine outs_ctx (fun r => seqR (blockR 0 r) _) (l0 _ _ _ _ _ _ _ _ _ _ _ _ _ _ _ _ _ _ _ _ _ _ (by omega)) ?_
  rintro e t H' ⟨rfl, rfl, k, rfl⟩
  simp -implicitDefEqProofs (maxSteps := 5000000) only [go_sem, Nat.reduceShiftRight, Nat.reduceAnd, Nat.reduceBNe, Int.reduceEq, Nat.reduceAdd, Nat.reduceSub, Nat.reduceMul, Nat.reduceLeDiff, reduceIte, reduceCtorEq, Nat.reduceBEq, Nat.reduceEqDiff, go_sem, outs_normal]

/-- A slot without a block is not dirty. -/
def NF (S : List Slot) : Prop := ∀ i, i < S.length → (sl S i).b = -1 → (sl S i).d = false
section
variable {H : AHeap} {pa sa xa pb sb xb : Nat} {sets ways : Nat} {S : List Slot} {hs : List Nat} {e f : Bool} (ma : PM H pa sa xa e sets ways S hs) (mb : PM H pb sb xb f sets ways S hs) (nf : NF S)
include ma mb nf
set_option maxHeartbeats 4000000 in
theorem sameL (x2 x3 x9 x10 x11 x63 x64 x65 x66 x67 x68 x69 x70 x71 x72 x73 x74 x75 x76 x77 x78 x79 x80 x81 x82 : AV) : ∀ (m i : Nat) (j6 j7 j8 j12 j13 j14 j15 j16 j17 j18 j19 j20 j21 j22 j23 j24 j25 j26 j27 j28 j29 j30 j31 j32 j33 j34 j35 j36 j37 j38 j39 j40 j41 j42 j43 j44 j45 j46 j47 j48 j49 j50 j51 j52 j53 j54 j55 j56 j57 j58 j59 j60 j61 j62 : AV), i + m = S.length →
    Outs (LQ l28x0 [.ptr pa 0, .ptr pb 0, x2, x3, .bool false, .int .i64 (i : Int), j6, j7, j8, x9, x10, x11, j12, j13, j14, j15, j16, j17, j18, j19, j20, j21, j22, j23, j24, j25, j26, j27, j28, j29, j30, j31, j32, j33, j34, j35, j36, j37, j38, j39, j40, j41, j42, j43, j44, j45, j46, j47, j48, j49, j50, j51, j52, j53, j54, j55, j56, j57, j58, j59, j60, j61, j62, x63, x64, x65, x66, x67, x68, x69, x70, x71, x72, x73, x74, x75, x76, x77, x78, x79, x80, x81, x82] H) fun e t H' => e = .exit 0 ∧ H' = H ∧ ∃ k : Nat → AV, t = [.ptr pa 0, .ptr pb 0, x2, x3, .bool false, (k 5), (k 6), (k 7), (k 8), x9, x10, x11, (k 12), (k 13), (k 14), (k 15), (k 16), (k 17), (k 18), (k 19), (k 20), (k 21), (k 22), (k 23), (k 24), (k 25), (k 26), (k 27), (k 28), (k 29), (k 30), (k 31), (k 32), (k 33), (k 34), (k 35), (k 36), (k 37), (k 38), (k 39), (k 40), (k 41), (k 42), (k 43), (k 44), (k 45), (k 46), (k 47), (k 48), (k 49), (k 50), (k 51), (k 52), (k 53), (k 54), (k 55), (k 56), (k 57), (k 58), (k 59), (k 60), (k 61), (k 62), x63, x64, x65, x66, x67, x68, x69, x70, x71, x72, x73, x74, x75, x76, x77, x78, x79, x80, x81, x82] := by
  intro m
  obtain ⟨L, hL⟩ : ∃ L, L = LQ l28x0 := ⟨_, rfl⟩
  have lo := loop_open hL
  rw [← hL]
  have hm := mb.map
  have sm := mb.small
  induction m with
  | zero =>
    intro i j6 j7 j8 j12 j13 j14 j15 j16 j17 j18 j19 j20 j21 j22 j23 j24 j25 j26 j27 j28 j29 j30 j31 j32 j33 j34 j35 j36 j37 j38 j39 j40 j41 j42 j43 j44 j45 j46 j47 j48 j49 j50 j51 j52 j53 j54 j55 j56 j57 j58 j59 j60 j61 j62 hi
    obtain rfl : i = S.length := by omega
    have hd : decide ((S.length : Int) < (S.length : Int)) = false := by simp
    rw [lo]
    unfold l28x0
    simp -implicitDefEqProofs (maxSteps := 5000000) only [go_sem, Nat.reduceShiftRight, Nat.reduceAnd, Nat.reduceBNe, Int.reduceEq, Nat.reduceAdd, Nat.reduceSub, Nat.reduceMul, Nat.reduceLeDiff, reduceIte, reduceCtorEq, Nat.reduceBEq, Nat.reduceEqDiff, go_sem, hm, hd, seqR_exit', outs_normal]
    exact exF rfl
  | succ m ih =>
    intro i j6 j7 j8 j12 j13 j14 j15 j16 j17 j18 j19 j20 j21 j22 j23 j24 j25 j26 j27 j28 j29 j30 j31 j32 j33 j34 j35 j36 j37 j38 j39 j40 j41 j42 j43 j44 j45 j46 j47 j48 j49 j50 j51 j52 j53 j54 j55 j56 j57 j58 j59 j60 j61 j62 hi
    have hlt : i < S.length := by omega
    have hd : decide ((i : Int) < (S.length : Int)) = true := by simp; omega
    have h2 : IntKind.i64.wrap ((i : Int) + 1) = ((i + 1 : Nat) : Int) := by rw [wrap64 (by omega) (by omega)]; omega
    have c := blockC ma i
    have ix := idx_nat sb 3 S.length S.length i f .i64 (by omega) hlt
    have hc := cells_rw mb.sl
    have hg1 := slot_b hlt
    have hg2 := slot_d hlt
    have hok := mb.ok _ (sl_mem hlt)
    have hnf := nf i hlt
    have ih := fun j6 j7 j8 j12 j13 j14 j15 j16 j17 j18 j19 j20 j21 j22 j23 j24 j25 j26 j27 j28 j29 j30 j31 j32 j33 j34 j35 j36 j37 j38 j39 j40 j41 j42 j43 j44 j45 j46 j47 j48 j49 j50 j51 j52 j53 j54 j55 j56 j57 j58 j59 j60 j61 j62 => ih (i + 1) j6 j7 j8 j12 j13 j14 j15 j16 j17 j18 j19 j20 j21 j22 j23 j24 j25 j26 j27 j28 j29 j30 j31 j32 j33 j34 j35 j36 j37 j38 j39 j40 j41 j42 j43 j44 j45 j46 j47 j48 j49 j50 j51 j52 j53 j54 j55 j56 j57 j58 j59 j60 j61 j62 (by omega)
    unfold blockA at c
    rw [Int.toNat_natCast] at c
    generalize sl S i = x at *
    by_cases hb : x.b = -1
    · rw [if_neg (fun h => h.2.2 hb)] at c
      rw [hb] at hg1
      rw [hnf hb] at hg2
      have d1 : (((-1 : Int)) != (-1 : Int)) = false := rfl
      have d2 : decide ((-1 : Int) ≥ 0) = false := rfl
      have d3 : ∀ b : Bool, (b != b) = false := fun b => by cases b <;> rfl
      rw [lo]
      unfold l28x0
      simp -implicitDefEqProofs (maxSteps := 5000000) only [go_sem, Nat.reduceShiftRight, Nat.reduceAnd, Nat.reduceBNe, Int.reduceEq, Nat.reduceAdd, Nat.reduceSub, Nat.reduceMul, Nat.reduceLeDiff, reduceIte, reduceCtorEq, Nat.reduceBEq, Nat.reduceEqDiff, go_sem, hm, hd, h2, c, ix, hc, hg1, hg2, d1, d2, d3]
      exact ih ..
    · rw [if_pos ⟨by omega, by omega, hb⟩] at c
      have d1 : (x.b != x.b) = false := by simp
      have d2 : decide (x.b ≥ 0) = true := decide_eq_true (by omega)
      have d3 : ∀ b : Bool, (b != b) = false := fun b => by cases b <;> rfl
      rw [lo]
      unfold l28x0
      simp -implicitDefEqProofs (maxSteps := 5000000) only [go_sem, Nat.reduceShiftRight, Nat.reduceAnd, Nat.reduceBNe, Int.reduceEq, Nat.reduceAdd, Nat.reduceSub, Nat.reduceMul, Nat.reduceLeDiff, reduceIte, reduceCtorEq, Nat.reduceBEq, Nat.reduceEqDiff, go_sem, hm, hd, h2, c, ix, hc, hg1, hg2, d1, d2, d3]
      exact ih ..
set_option maxHeartbeats 4000000 in
theorem sameC : (envL prog).call 28 [.ptr pa 0, .ptr pb 0] H = some (.bool true, H) := by
  have l0 := sameL ma mb nf (m := S.length) (i := 0)
  rw [show ((0 : Nat) : Int) = 0 from rfl] at l0
  have hm := mb.map
  have sm := mb.small
  have c := blockC ma (S.length : Int)
  unfold blockA at c
  rw [if_neg (fun h => by omega)] at c
  obtain ⟨l1, H1, A1, g1, e1⟩ := listC ma
  obtain ⟨l2, H2, A2, g2, e2⟩ := listRC (mb.adds A1)
  have i1 : IS H1 l1 (dlist S) := by unfold drows at g1; exact g1.is
  have i2 : IS H2 l2 (dlist S) := by unfold drows at g2; exact g2.is
  have e3 := intsC (A2.is i1) i2 (by unfold dlist; rw [List.length_map]; omega)
  rw [c28]
  unfold b28
  refine eq_outs (h2 := H2) ?_ ((A1.trans A2).trimS (by simp [AV.under]))
  simp -implicitDefEqProofs (maxSteps := 5000000) only [go_sem, Nat.reduceShiftRight, Nat.reduceAnd, Nat.reduceBNe, Int.reduceEq, Nat.reduceAdd, Nat.reduceSub, Nat.reduceMul, Nat.reduceLeDiff, reduceIte, reduceCtorEq, Nat.reduceBEq, Nat.reduceEqDiff, go_sem, runC_loop, hm, c, e1, e2, e3]
  unfold LQ at l0
  generalize (envL prog).loop (runC (envL prog) (l28x0 (envL prog))) = L at l0 ⊢
  refine outs_ctx (fun r => seqR (blockR 0 r) _) (l0 _ _ _ _ _ _ _ _ _ _ _ _ _ _ _ _ _ _ _ _ _ _ _ _ _ _ _ _ _ _ _ _ _ _ _ _ _ _ _ _ _ _ _ _ _ _ _ _ _ _ _ _ _ _ _ _ _ _ _ _ _ _ _ _ _ _ _ _ _ _ _ _ _ _ _ _ _ _ _ (by omega)) ?_
  rintro e t H' ⟨rfl, rfl, k, rfl⟩
  simp -implicitDefEqProofs (maxSteps := 5000000) only [go_sem, Nat.reduceShiftRight, Nat.reduceAnd, Nat.reduceBNe, Int.reduceEq, Nat.reduceAdd, Nat.reduceSub, Nat.reduceMul, Nat.reduceLeDiff, reduceIte, reduceCtorEq, Nat.reduceBEq, Nat.reduceEqDiff, go_sem, hm, c, e1, e2, e3, outs_normal]
end

/-! ### Slots without a block stay clean -/
theorem nf_set {S : List Slot} (h : NF S) (i : Nat) (x : Slot) (hx : x.b = -1 → x.d = false) : NF (S.set i x) := by
  intro j hj hb
  rw [List.length_set] at hj
  by_cases hi : i < S.length
  · rw [sl_set _ _ _ _ hi] at hb ⊢
    split
    · rename_i e; rw [if_pos e] at hb; exact hx hb
    · rename_i e; rw [if_neg e] at hb; exact h j hj hb
  · rw [List.set_eq_of_length_le (by omega)] at hb ⊢; exact h j hj hb
theorem nf_at {S : List Slot} (h : NF S) (i : Nat) : (sl S i).b = -1 → (sl S i).d = false := by
  by_cases hi : i < S.length
  · exact h i hi
  · unfold sl; rw [List.getElem?_eq_none (by omega)]; intro _; rfl
theorem nf_clean {S : List Slot} (h : NF S) (i : Int) : NF (cleanS S i) := by unfold cleanS; split; exact nf_set h _ _ (fun _ => rfl); exact h
theorem nf_drop {S : List Slot} (h : NF S) (i : Int) : NF (dropS S i) := by unfold dropS; split; exact nf_set h _ _ (fun _ => rfl); exact h
theorem nf_touch {S : List Slot} (h : NF S) (i : Int) : NF (touchS S i) := by unfold touchS; split; exact nf_set h _ _ (nf_at h _); exact h
theorem nf_put {sets ways : Nat} {S : List Slot} (h : NF S) (i b : Int) (d : Bool) : NF (putS sets ways S i b d) := by
  unfold putS; split
  · rename_i hc; exact nf_set h _ _ (fun e => by have : b = -1 := e; omega)
  · exact h
theorem nf_clock {ways base : Nat} : ∀ k (S : List Slot) h, NF S → NF (clockW ways base k S h).1
  | 0, _, _, h => h
  | k + 1, S, hd, h => by
    simp only [clockW]
    split
    · exact nf_clock k S _ h
    · split
      · exact nf_clock k _ _ (nf_set h _ _ (nf_at h _))
      · exact nf_set h _ _ (fun _ => rfl)
theorem nf_room {sets ways : Nat} {S : List Slot} {hs : List Nat} (h : NF S) (b : Int) : NF (roomS sets ways S hs b).1 := by
  unfold roomS; split
  · exact h
  · split
    · exact h
    · exact nf_clock _ _ _ h
end Go.Proofs.Ytodoakeifdiidaa.G13

