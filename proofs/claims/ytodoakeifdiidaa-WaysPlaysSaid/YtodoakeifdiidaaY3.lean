/- What the functions that WaysPlays reaches answer, for every argument. No condition but those in each statement. -/
import Derived.Test.YtodoakeifdiidaaY2
set_option linter.unusedSimpArgs false
set_option linter.unusedVariables false
set_option maxRecDepth 10000
namespace Go.Proofs.Ytodoakeifdiidaa.G13
open Go Go.Proofs.Ytodoakeifdiidaa.Eng
section
variable {H : AHeap} {p bs bh : Nat} {e : Bool} {sets ways : Nat} {S : List Slot} {hs : List Nat} (m : PM H p bs bh e sets ways S hs)
include m
set_option maxHeartbeats 4000000 in
theorem dirtyRL (s : Nat) (hs' : s < sets) {h : Nat} (hh : hs[s]? = some h) (x1 x2 x3 x8 x9 x10 x11 x12 x13 x14 x15 : AV) (x4 : AV) : ∀ (k w : Nat) (j7 j16 j17 j18 j19 j20 j21 j22 j23 j24 j25 j26 j27 j28 j29 j30 j31 j32 j33 j34 j35 j36 j37 j38 j39 j40 j41 j42 j43 j44 j45 j46 j47 j48 j49 j50 j51 j52 j53 j54 j55 j56 j57 j58 j59 j60 j61 j62 j63 j64 j65 j66 j67 j68 j69 j70 j71 j72 j73 : AV), w + k = ways →
    Outs (LQ l24x0 [.ptr p 0, x1, x2, x3, x4, .int .i64 (s : Int), .int .i64 (w : Int), j7, x8, x9, x10, x11, x12, x13, x14, x15, j16, j17, j18, j19, j20, j21, j22, j23, j24, j25, j26, j27, j28, j29, j30, j31, j32, j33, j34, j35, j36, j37, j38, j39, j40, j41, j42, j43, j44, j45, j46, j47, j48, j49, j50, j51, j52, j53, j54, j55, j56, j57, j58, j59, j60, j61, j62, j63, j64, j65, j66, j67, j68, j69, j70, j71, j72, j73] H) fun e' t H' => match dirtyW ways (s * ways) S k ((h + w) % ways) with
      | none => e' = .exit 0 ∧ H' = H ∧ ∃ k : Nat → AV, t = [.ptr p 0, x1, x2, x3, x4, .int .i64 (s : Int), (k 6), (k 7), x8, x9, x10, x11, x12, x13, x14, x15, (k 16), (k 17), (k 18), (k 19), (k 20), (k 21), (k 22), (k 23), (k 24), (k 25), (k 26), (k 27), (k 28), (k 29), (k 30), (k 31), (k 32), (k 33), (k 34), (k 35), (k 36), (k 37), (k 38), (k 39), (k 40), (k 41), (k 42), (k 43), (k 44), (k 45), (k 46), (k 47), (k 48), (k 49), (k 50), (k 51), (k 52), (k 53), (k 54), (k 55), (k 56), (k 57), (k 58), (k 59), (k 60), (k 61), (k 62), (k 63), (k 64), (k 65), (k 66), (k 67), (k 68), (k 69), (k 70), (k 71), (k 72), (k 73)]
      | some i => e' = .ret ∧ PM H' p bs bh e sets ways S (hs.set s ((i + 1) % ways)) ∧ KeepB H H' [bs, bh] ∧ ∃ k : Nat → AV, t = [.ptr p 0, x1, x2, x3, .int .i64 ((s * ways + i : Nat) : Int), .int .i64 (s : Int), (k 6), (k 7), x8, x9, x10, x11, x12, x13, x14, x15, (k 16), (k 17), (k 18), (k 19), (k 20), (k 21), (k 22), (k 23), (k 24), (k 25), (k 26), (k 27), (k 28), (k 29), (k 30), (k 31), (k 32), (k 33), (k 34), (k 35), (k 36), (k 37), (k 38), (k 39), (k 40), (k 41), (k 42), (k 43), (k 44), (k 45), (k 46), (k 47), (k 48), (k 49), (k 50), (k 51), (k 52), (k 53), (k 54), (k 55), (k 56), (k 57), (k 58), (k 59), (k 60), (k 61), (k 62), (k 63), (k 64), (k 65), (k 66), (k 67), (k 68), (k 69), (k 70), (k 71), (k 72), (k 73)] := by
  intro k
  obtain ⟨L, hL⟩ : ∃ L, L = LQ l24x0 := ⟨_, rfl⟩
  have lo := loop_open hL
  have hm := m.map
  have w4 := m.w4
  have w1 := m.w1
  rw [← hL]
  have hl : s < hs.length := (List.getElem?_eq_some_iff.1 hh).1
  have hlt : h < ways := m.hw _ (List.mem_of_getElem? hh)
  have ixh := idx_nat bh 1 sets sets s true .i64 (by omega) hs'
  rw [Nat.mul_one] at ixh
  have hch := cells_rw m.hd
  have hgh : (hcells hs)[s]? = some (.int .i64 (h : Int)) := by
    obtain ⟨q1, q2⟩ := List.getElem?_eq_some_iff.1 hh
    rw [get_h hl, q2]
  induction k with
  | zero =>
    intro w j7 j16 j17 j18 j19 j20 j21 j22 j23 j24 j25 j26 j27 j28 j29 j30 j31 j32 j33 j34 j35 j36 j37 j38 j39 j40 j41 j42 j43 j44 j45 j46 j47 j48 j49 j50 j51 j52 j53 j54 j55 j56 j57 j58 j59 j60 j61 j62 j63 j64 j65 j66 j67 j68 j69 j70 j71 j72 j73 hi
    obtain rfl : w = ways := by omega
    have hd : decide ((w : Int) < (w : Int)) = false := by simp
    rw [lo]
    unfold l24x0
    simp -implicitDefEqProofs (maxSteps := 5000000) only [go_sem, Nat.reduceShiftRight, Nat.reduceAnd, Nat.reduceBNe, Int.reduceEq, Nat.reduceAdd, Nat.reduceSub, Nat.reduceMul, Nat.reduceLeDiff, reduceIte, reduceCtorEq, Nat.reduceBEq, Nat.reduceEqDiff, go_sem, hm, hd, seqR_exit', outs_normal, dirtyW]
    exact exF rfl
  | succ k ih =>
    intro w j7 j16 j17 j18 j19 j20 j21 j22 j23 j24 j25 j26 j27 j28 j29 j30 j31 j32 j33 j34 j35 j36 j37 j38 j39 j40 j41 j42 j43 j44 j45 j46 j47 j48 j49 j50 j51 j52 j53 j54 j55 j56 j57 j58 j59 j60 j61 j62 j63 j64 j65 j66 j67 j68 j69 j70 j71 j72 j73 hi
    obtain ⟨v, hv⟩ : ∃ v, (h + w) % ways = v := ⟨_, rfl⟩
    have hvl : v < ways := by rw [← hv]; exact Nat.mod_lt _ (by omega)
    obtain ⟨i1, i2, i3⟩ := m.in hs' hvl
    have hd : decide ((w : Int) < (ways : Int)) = true := decide_eq_true (by omega)
    have e2 : IntKind.i64.wrap ((w : Int) + 1) = ((w + 1 : Nat) : Int) := by rw [wrap64 (by omega) (by omega)]; omega
    have em : IntKind.i64.wrap ((s : Int) * (ways : Int)) = ((s * ways : Nat) : Int) := by rw [← Int.natCast_mul, wrap64 (by omega) (by omega)]
    have ea : IntKind.i64.wrap (((s * ways : Nat) : Int) + (v : Int)) = ((s * ways + v : Nat) : Int) := by rw [wrap64 (by omega) (by omega)]; omega
    have eh : IntKind.i64.wrap ((h : Int) + (w : Int)) = ((h + w : Nat) : Int) := by rw [wrap64 (by omega) (by omega)]; omega
    have hr := int_rem .none .i64 ((h + w : Nat) : Int) ways (by omega)
    rw [show ((h + w : Nat) : Int).tmod (ways : Int) = (((h + w) % ways : Nat) : Int) from (Int.ofNat_tmod _ _).symm, hv] at hr
    have ev : IntKind.i64.wrap ((v : Int) + 1) = ((v + 1 : Nat) : Int) := by rw [wrap64 (by omega) (by omega)]; omega
    have hr2 := int_rem .none .i64 ((v + 1 : Nat) : Int) ways (by omega)
    rw [show ((v + 1 : Nat) : Int).tmod (ways : Int) = (((v + 1) % ways : Nat) : Int) from (Int.ofNat_tmod _ _).symm] at hr2
    have ix := idx_nat bs 3 S.length S.length (s * ways + v) e .i64 (by omega) i1
    have hc := cells_rw m.sl
    have hg := slot_d i1
    have wh := put_h m.hd hl ((v + 1) % ways)
    have m1 := m.upH (hs' := hs.set s ((v + 1) % ways)) (by simp) (mod_ok m.hw w1 s v)
    have k1 := keepH H bs bh (hs.set s ((v + 1) % ways))
    have hm1 := m1.map
    have ih := fun j7 j16 j17 j18 j19 j20 j21 j22 j23 j24 j25 j26 j27 j28 j29 j30 j31 j32 j33 j34 j35 j36 j37 j38 j39 j40 j41 j42 j43 j44 j45 j46 j47 j48 j49 j50 j51 j52 j53 j54 j55 j56 j57 j58 j59 j60 j61 j62 j63 j64 j65 j66 j67 j68 j69 j70 j71 j72 j73 => ih (w + 1) j7 j16 j17 j18 j19 j20 j21 j22 j23 j24 j25 j26 j27 j28 j29 j30 j31 j32 j33 j34 j35 j36 j37 j38 j39 j40 j41 j42 j43 j44 j45 j46 j47 j48 j49 j50 j51 j52 j53 j54 j55 j56 j57 j58 j59 j60 j61 j62 j63 j64 j65 j66 j67 j68 j69 j70 j71 j72 j73 (by omega)
    rw [show (h + (w + 1)) % ways = (v + 1) % ways by rw [← hv, Nat.mod_add_mod, Nat.add_assoc]] at ih
    rw [lo, hv]
    unfold l24x0
    cases hdd : (sl S (s * ways + v)).d with
    | true =>
      rw [hdd] at hg
      have f : dirtyW ways (s * ways) S (k + 1) v = some v := by simp [dirtyW, hdd]
      rw [f]
      simp -implicitDefEqProofs (maxSteps := 5000000) only [go_sem, Nat.reduceShiftRight, Nat.reduceAnd, Nat.reduceBNe, Int.reduceEq, Nat.reduceAdd, Nat.reduceSub, Nat.reduceMul, Nat.reduceLeDiff, reduceIte, reduceCtorEq, Nat.reduceBEq, Nat.reduceEqDiff, go_sem, store_one, hm, hm1, hd, e2, em, ea, eh, ev, ixh, hch, hgh, hr, hr2, ix, hc, hg, wh, outs_normal]
      exact ⟨m1, k1, exF rfl⟩
    | false =>
      rw [hdd] at hg
      have f : dirtyW ways (s * ways) S (k + 1) v = dirtyW ways (s * ways) S k ((v + 1) % ways) := by simp [dirtyW, hdd]
      rw [f]
      simp -implicitDefEqProofs (maxSteps := 5000000) only [go_sem, Nat.reduceShiftRight, Nat.reduceAnd, Nat.reduceBNe, Int.reduceEq, Nat.reduceAdd, Nat.reduceSub, Nat.reduceMul, Nat.reduceLeDiff, reduceIte, reduceCtorEq, Nat.reduceBEq, Nat.reduceEqDiff, go_sem, hm, hd, e2, em, ea, eh, ev, ixh, hch, hgh, hr, ix, hc, hg]
      exact ih ..
set_option maxHeartbeats 4000000 in
theorem dirtiestRC (blk : Int) : ∃ H', PM H' p bs bh e sets ways S (dirtyS sets ways S hs blk).1 ∧ KeepB H H' [bs, bh] ∧ (envL prog).call 24 [.ptr p 0, .int .i64 blk] H = some (.int .i64 (optI (dirtyS sets ways S hs blk).2), H') := by
  have hm := m.map
  have s1 := m.s1
  rw [c24]
  unfold b24
  by_cases h : blk < 0
  · have d := decide_eq_true h
    refine ⟨H, ?_, KeepB.refl _ _, ?_⟩
    · unfold dirtyS; rw [if_pos h]; exact m
    unfold dirtyS; rw [if_pos h]
    simp -implicitDefEqProofs (maxSteps := 5000000) only [go_sem, Nat.reduceShiftRight, Nat.reduceAnd, Nat.reduceBNe, Int.reduceEq, Nat.reduceAdd, Nat.reduceSub, Nat.reduceMul, Nat.reduceLeDiff, reduceIte, reduceCtorEq, Nat.reduceBEq, Nat.reduceEqDiff, go_sem, d, optI]
  have d := decide_eq_false h
  obtain ⟨e1, h1⟩ := m.setOf blk h
  have hrm := int_rem .none .i64 blk sets (by omega)
  rw [e1] at hrm
  generalize hs1 : (blk % (sets : Int)).toNat = s at *
  have hl : s < hs.length := by have := m.hlen; omega
  have hhs : hs[s]? = some ((hs[s]?).getD 0) := by rw [List.getElem?_eq_getElem hl]; rfl
  have hlt : (hs[s]?).getD 0 < ways := m.hw _ (List.mem_of_getElem? hhs)
  have cl := dirtyRL m s h1 hhs (k := ways) (w := 0)
  rw [show ((0 : Nat) : Int) = 0 from rfl, Nat.add_zero, Nat.mod_eq_of_lt hlt] at cl
  generalize hR : dirtyS sets ways S hs blk = R
  refine ex_outs ?_
  generalize hQ : (fun (e' : Ex) (t : T) (h1 : AHeap) => PM h1 p bs bh e sets ways S R.1 ∧ KeepB H h1 [bs, bh] ∧ h1.length = H.length ∧ fin [.tmp 4] (some (e', t, h1)) = some (AV.int .i64 (optI R.2), h1)) = Q
  simp -implicitDefEqProofs (maxSteps := 5000000) only [go_sem, Nat.reduceShiftRight, Nat.reduceAnd, Nat.reduceBNe, Int.reduceEq, Nat.reduceAdd, Nat.reduceSub, Nat.reduceMul, Nat.reduceLeDiff, reduceIte, reduceCtorEq, Nat.reduceBEq, Nat.reduceEqDiff, go_sem, runC_loop, hm, d, hrm]
  unfold LQ at cl
  generalize (envL prog).loop (runC (envL prog) (l24x0 (envL prog))) = L0 at cl ⊢
  refine outs_ctx (fun r => seqR (blockR 0 r) _) (cl _ _ _ _ _ _ _ _ _ _ _ _ _ _ _ _ _ _ _ _ _ _ _ _ _ _ _ _ _ _ _ _ _ _ _ _ _ _ _ _ _ _ _ _ _ _ _ _ _ _ _ _ _ _ _ _ _ _ _ _ _ _ _ _ _ _ _ _ _ _ _ (by omega)) ?_
  rintro e' t H' hq
  split at hq
  · obtain ⟨rfl, rfl, k, rfl⟩ := hq
    rename_i hf
    have hR' : R = (hs, none) := by rw [← hR]; unfold dirtyS; rw [if_neg h, hs1, hf]
    subst hQ
    rw [hR']
    simp -implicitDefEqProofs (maxSteps := 5000000) only [go_sem, Nat.reduceShiftRight, Nat.reduceAnd, Nat.reduceBNe, Int.reduceEq, Nat.reduceAdd, Nat.reduceSub, Nat.reduceMul, Nat.reduceLeDiff, reduceIte, reduceCtorEq, Nat.reduceBEq, Nat.reduceEqDiff, go_sem, outs_normal, optI]
    exact ⟨m, KeepB.refl _ _, trivial⟩
  · obtain ⟨rfl, q1, q2, k, rfl⟩ := hq
    rename_i i hf
    have hR' : R = (hs.set s ((i + 1) % ways), some (s * ways + i)) := by rw [← hR]; unfold dirtyS; rw [if_neg h, hs1, hf]
    subst hQ
    rw [hR']
    simp -implicitDefEqProofs (maxSteps := 5000000) only [go_sem, Nat.reduceShiftRight, Nat.reduceAnd, Nat.reduceBNe, Int.reduceEq, Nat.reduceAdd, Nat.reduceSub, Nat.reduceMul, Nat.reduceLeDiff, reduceIte, reduceCtorEq, Nat.reduceBEq, Nat.reduceEqDiff, go_sem, outs_normal, optI]
    exact ⟨q1, q2, q2.1, trivial⟩
set_option maxHeartbeats 4000000 in
theorem listRL (x1 x2 x35 : AV) : ∀ (k i : Nat) (H' : AHeap) (l : AV) (j5 j6 j7 j8 j9 j10 j11 j12 j13 j14 j15 j16 j17 j18 j19 j20 j21 j22 j23 j24 j25 j26 j27 j28 j29 j30 j31 j32 j33 j34 : AV), Adds H H' → GR 1 H' H.length l (drows (S.take i)) → i + k = S.length →
    Outs (LQ l34x0 [.ptr p 0, x1, x2, l, .int .i64 (i : Int), j5, j6, j7, j8, j9, j10, j11, j12, j13, j14, j15, j16, j17, j18, j19, j20, j21, j22, j23, j24, j25, j26, j27, j28, j29, j30, j31, j32, j33, j34, x35] H') fun e' t H2 => e' = .exit 0 ∧ Adds H H2 ∧ ∃ l', GR 1 H2 H.length l' (drows S) ∧ ∃ k : Nat → AV, t = [.ptr p 0, x1, x2, l', (k 4), (k 5), (k 6), (k 7), (k 8), (k 9), (k 10), (k 11), (k 12), (k 13), (k 14), (k 15), (k 16), (k 17), (k 18), (k 19), (k 20), (k 21), (k 22), (k 23), (k 24), (k 25), (k 26), (k 27), (k 28), (k 29), (k 30), (k 31), (k 32), (k 33), (k 34), x35] := by
  intro k
  obtain ⟨L, hL⟩ : ∃ L, L = LQ l34x0 := ⟨_, rfl⟩
  have lo := loop_open hL
  have sm := m.small
  rw [← hL]
  induction k with
  | zero =>
    intro i H' l j5 j6 j7 j8 j9 j10 j11 j12 j13 j14 j15 j16 j17 j18 j19 j20 j21 j22 j23 j24 j25 j26 j27 j28 j29 j30 j31 j32 j33 j34 A g hi
    obtain rfl : i = S.length := by omega
    have hm := A.cells m.map
    have hd : decide ((S.length : Int) < (S.length : Int)) = false := by simp
    rw [List.take_length] at g
    rw [lo]
    unfold l34x0
    simp -implicitDefEqProofs (maxSteps := 5000000) only [go_sem, Nat.reduceShiftRight, Nat.reduceAnd, Nat.reduceBNe, Int.reduceEq, Nat.reduceAdd, Nat.reduceSub, Nat.reduceMul, Nat.reduceLeDiff, reduceIte, reduceCtorEq, Nat.reduceBEq, Nat.reduceEqDiff, go_sem, hm, hd, seqR_exit', outs_normal]
    exact ⟨A, l, g, exF rfl⟩
  | succ k ih =>
    intro i H' l j5 j6 j7 j8 j9 j10 j11 j12 j13 j14 j15 j16 j17 j18 j19 j20 j21 j22 j23 j24 j25 j26 j27 j28 j29 j30 j31 j32 j33 j34 A g hi
    have hlt : i < S.length := by omega
    have hm := A.cells m.map
    have hd : decide ((i : Int) < (S.length : Int)) = true := decide_eq_true (by omega)
    have e2 : IntKind.i64.wrap ((i : Int) + 1) = ((i + 1 : Nat) : Int) := by rw [wrap64 (by omega) (by omega)]; omega
    have ix := idx_nat bs 3 S.length S.length i e .i64 (by omega) hlt
    have hc := A.cells (cells_rw m.sl)
    have hg1 := slot_b hlt
    have hg2 := slot_d hlt
    have ih := fun H2 l2 j5 j6 j7 j8 j9 j10 j11 j12 j13 j14 j15 j16 j17 j18 j19 j20 j21 j22 j23 j24 j25 j26 j27 j28 j29 j30 j31 j32 j33 j34 A2 g2 => ih (i + 1) H2 l2 j5 j6 j7 j8 j9 j10 j11 j12 j13 j14 j15 j16 j17 j18 j19 j20 j21 j22 j23 j24 j25 j26 j27 j28 j29 j30 j31 j32 j33 j34 A2 g2 (by omega)
    have dl := drows_len (S.take i)
    rw [List.length_take] at dl
    generalize hx : sl S i = x at *
    have grow : ∀ z, dval x = z → ∃ l2 H2, Adds H H2 ∧ GR 1 H2 H.length l2 (drows (S.take (i + 1))) ∧ app (ty 1 false 8 [.int .i64 0]) l (.sl H'.length 0 1 1 1 true) (H' ++ [.rw [.int .i64 z]]) = some (l2, H2) := by
      intro z hz
      have := GR.app (k := 1) (by omega) (d := ty 1 false 8 [.int .i64 0]) rfl (by decide) (P := H) (H := H' ++ [.rw [.int .i64 z]]) (A.trans ⟨_, rfl⟩) (g.mono _) (drows1 _) (y := .sl H'.length 0 1 1 1 true) (r := [.int .i64 z]) rfl
        (by unfold srcCells readN cellsOf; simp) rfl (by rw [dl]; unfold roomy; show (_ + 1) * 8 ≤ _; omega)
      rw [drows_snoc hlt, hx, hz]
      exact this
    rw [lo]
    unfold l34x0
    cases hdd : x.d with
    | true =>
      obtain ⟨l2, H2, A2, g2, ea⟩ := grow x.b (by unfold dval; rw [hdd]; rfl)
      rw [hdd] at hg2
      simp -implicitDefEqProofs (maxSteps := 5000000) only [go_sem, Nat.reduceShiftRight, Nat.reduceAnd, Nat.reduceBNe, Int.reduceEq, Nat.reduceAdd, Nat.reduceSub, Nat.reduceMul, Nat.reduceLeDiff, reduceIte, reduceCtorEq, Nat.reduceBEq, Nat.reduceEqDiff, go_sem, hm, hd, e2, ix, hc, hg1, hg2, ea]
      exact ih H2 l2 _ _ _ _ _ _ _ _ _ _ _ _ _ _ _ _ _ _ _ _ _ _ _ _ _ _ _ _ _ _ A2 g2
    | false =>
      obtain ⟨l2, H2, A2, g2, ea⟩ := grow (-1) (by unfold dval; rw [hdd]; rfl)
      rw [hdd] at hg2
      simp -implicitDefEqProofs (maxSteps := 5000000) only [go_sem, Nat.reduceShiftRight, Nat.reduceAnd, Nat.reduceBNe, Int.reduceEq, Nat.reduceAdd, Nat.reduceSub, Nat.reduceMul, Nat.reduceLeDiff, reduceIte, reduceCtorEq, Nat.reduceBEq, Nat.reduceEqDiff, go_sem, hm, hd, e2, ix, hc, hg1, hg2, ea]
      exact ih H2 l2 _ _ _ _ _ _ _ _ _ _ _ _ _ _ _ _ _ _ _ _ _ _ _ _ _ _ _ _ _ _ A2 g2
set_option maxHeartbeats 4000000 in
theorem listRC : ∃ l H', Adds H H' ∧ GR 1 H' H.length l (drows S) ∧ (envL prog).call 34 [.ptr p 0] H = some (l, H') := by
  have hm := m.map
  have sl0 := listRL m (k := S.length) (i := 0) (H' := H) (l := .nilSl)
  rw [show ((0 : Nat) : Int) = 0 from rfl] at sl0
  have h1 : 1 ≤ S.length := by rw [m.len]; exact Nat.mul_le_mul m.s1 m.w1
  have o : Outs (runC (envL prog) (b34 (envL prog)) ([.ptr p 0] ++ List.replicate (36 - [AV.ptr p 0].length) .undef) H) fun e' t H' => ∃ l, Adds H H' ∧ GR 1 H' H.length l (drows S) ∧ fin [.tmp 2] (some (e', t, H')) = some (l, H') := by
    unfold b34
    generalize hQ : (fun (e' : Ex) (t : T) (H' : AHeap) => ∃ l, Adds H H' ∧ GR 1 H' H.length l (drows S) ∧ fin [.tmp 2] (some (e', t, H')) = some (l, H')) = Q
    simp -implicitDefEqProofs (maxSteps := 5000000) only [go_sem, Nat.reduceShiftRight, Nat.reduceAnd, Nat.reduceBNe, Int.reduceEq, Nat.reduceAdd, Nat.reduceSub, Nat.reduceMul, Nat.reduceLeDiff, reduceIte, reduceCtorEq, Nat.reduceBEq, Nat.reduceEqDiff, go_sem, runC_loop, hm]
    unfold LQ at sl0
    generalize (envL prog).loop (runC (envL prog) (l34x0 (envL prog))) = L at sl0 ⊢
    refine outs_ctx (fun r => seqR (blockR 0 r) _) (sl0 _ _ _ _ _ _ _ _ _ _ _ _ _ _ _ _ _ _ _ _ _ _ _ _ _ _ _ _ _ _ _ _ _ (Adds.refl H) (.inl ⟨rfl, rfl⟩) (by omega)) ?_
    rintro e' t H' ⟨rfl, A, l, g, k, rfl⟩
    simp -implicitDefEqProofs (maxSteps := 5000000) only [go_sem, Nat.reduceShiftRight, Nat.reduceAnd, Nat.reduceBNe, Int.reduceEq, Nat.reduceAdd, Nat.reduceSub, Nat.reduceMul, Nat.reduceLeDiff, reduceIte, reduceCtorEq, Nat.reduceBEq, Nat.reduceEqDiff, go_sem, outs_normal]
    subst hQ
    refine ⟨l, A, g, ?_⟩
    simp -implicitDefEqProofs (maxSteps := 5000000) only [go_sem, Nat.reduceShiftRight, Nat.reduceAnd, Nat.reduceBNe, Int.reduceEq, Nat.reduceAdd, Nat.reduceSub, Nat.reduceMul, Nat.reduceLeDiff, reduceIte, reduceCtorEq, Nat.reduceBEq, Nat.reduceEqDiff, go_sem]
  obtain ⟨e', t, H', hr, l, A, g, hf⟩ := o
  refine ⟨l, H', A, g, ?_⟩
  rw [c34, hr, hf]
  rcases g.under with ⟨h0, _⟩ | hu
  · have := drows_len S; rw [h0] at this; simp at this; omega
  · exact trim_keep hu
end
end Go.Proofs.Ytodoakeifdiidaa.G13

