/- What the functions that WaysPlays reaches answer, for every argument. No condition but those in each statement. -/
import Derived.Test.YtodoakeifdiidaaWB
set_option linter.unusedSimpArgs false
set_option linter.unusedVariables false
set_option linter.unusedSectionVars false
set_option maxRecDepth 10000
namespace Go.Proofs.Ytodoakeifdiidaa.G13
open Go Go.Proofs.Ytodoakeifdiidaa.Eng
def optI (r : Option Nat) : Int := match r with | none => -1 | some i => i
section
variable {H : AHeap} {p bs bh : Nat} {e : Bool} {sets ways : Nat} {S : List Slot} {hs : List Nat} (m : PM H p bs bh e sets ways S hs)
include m
set_option maxHeartbeats 1000000 in
theorem hasRC (i : Int) : (envL prog).call 33 [.ptr p 0, .int .i64 i] H = some (.bool (inS S i), H) := by
  have hm := m.map
  unfold inS
  rw [c33]
  unfold b33
  by_cases h : 0 ≤ i
  · have d1 : decide (i ≥ 0) = true := decide_eq_true h
    have d2 : decide (0 ≤ i) = true := decide_eq_true h
    simp -implicitDefEqProofs (maxSteps := 5000000) only [go_sem, Nat.reduceShiftRight, Nat.reduceAnd, Nat.reduceBNe, Int.reduceEq, Nat.reduceAdd, Nat.reduceSub, Nat.reduceMul, Nat.reduceLeDiff, reduceIte, reduceCtorEq, Nat.reduceBEq, Nat.reduceEqDiff, go_sem, hm, d1, d2]
  · have d1 : decide (i ≥ 0) = false := decide_eq_false h
    have d2 : decide (0 ≤ i) = false := decide_eq_false h
    simp -implicitDefEqProofs (maxSteps := 5000000) only [go_sem, Nat.reduceShiftRight, Nat.reduceAnd, Nat.reduceBNe, Int.reduceEq, Nat.reduceAdd, Nat.reduceSub, Nat.reduceMul, Nat.reduceLeDiff, reduceIte, reduceCtorEq, Nat.reduceBEq, Nat.reduceEqDiff, go_sem, hm, d1, d2]

theorem inS_no {i : Int} (h : i < 0 ∨ i ≥ S.length) : inS S i = false := by
  unfold inS
  by_cases h0 : 0 ≤ i
  · have : decide (i < (S.length : Int)) = false := decide_eq_false (by omega)
    rw [this, Bool.and_false]
  · have : decide (0 ≤ i) = false := decide_eq_false h0
    rw [this, Bool.false_and]

theorem inS_yes {n : Nat} (h : n < S.length) : inS S (n : Int) = true := by
  unfold inS
  rw [decide_eq_true (show 0 ≤ (n : Int) by omega), decide_eq_true (show (n : Int) < (S.length : Int) by omega)]; rfl
set_option maxHeartbeats 1000000 in
theorem cleanRC (i : Int) : ∃ H', PM H' p bs bh e sets ways (cleanS S i) hs ∧ KeepB H H' [bs, bh] ∧ (envL prog).call 25 [.ptr p 0, .int .i64 i] H = some (.tup [], H') := by
  have c := hasRC m i
  have hm := m.map
  rw [c25]
  unfold b25
  rcases split_i S i with h | ⟨n, rfl, hn⟩
  · refine ⟨H, by unfold cleanS; rw [if_neg (by omega)]; exact m, KeepB.refl _ _, ?_⟩
    rw [inS_no m h] at c
    simp -implicitDefEqProofs (maxSteps := 5000000) only [go_sem, Nat.reduceShiftRight, Nat.reduceAnd, Nat.reduceBNe, Int.reduceEq, Nat.reduceAdd, Nat.reduceSub, Nat.reduceMul, Nat.reduceLeDiff, reduceIte, reduceCtorEq, Nat.reduceBEq, Nat.reduceEqDiff, go_sem, c]
  · rw [inS_yes m hn] at c
    have hok := m.ok _ (sl_mem hn)
    refine ⟨updS H bs (S.set n { sl S n with d := false }), ?_, keepS _ _ _ _, ?_⟩
    · unfold cleanS; rw [if_pos (by omega), Int.toNat_natCast]; exact m.upS (by simp) (set_ok m.ok _ _ hok)
    have ix := idx_nat bs 3 S.length S.length n e .i64 (by omega) hn
    have w := put_d m.sl hn false
    have t := (keepS H bs bh (S.set n { sl S n with d := false })).trim
    simp -implicitDefEqProofs (maxSteps := 5000000) only [go_sem, Nat.reduceShiftRight, Nat.reduceAnd, Nat.reduceBNe, Int.reduceEq, Nat.reduceAdd, Nat.reduceSub, Nat.reduceMul, Nat.reduceLeDiff, reduceIte, reduceCtorEq, Nat.reduceBEq, Nat.reduceEqDiff, go_sem, store_one, hm, ix, c, w, t]
set_option maxHeartbeats 1000000 in
theorem dropRC (i : Int) : ∃ H', PM H' p bs bh e sets ways (dropS S i) hs ∧ KeepB H H' [bs, bh] ∧ (envL prog).call 27 [.ptr p 0, .int .i64 i] H = some (.tup [], H') := by
  have c := hasRC m i
  have hm := m.map
  rw [c27]
  unfold b27
  rcases split_i S i with h | ⟨n, rfl, hn⟩
  · refine ⟨H, by unfold dropS; rw [if_neg (by omega)]; exact m, KeepB.refl _ _, ?_⟩
    rw [inS_no m h] at c
    simp -implicitDefEqProofs (maxSteps := 5000000) only [go_sem, Nat.reduceShiftRight, Nat.reduceAnd, Nat.reduceBNe, Int.reduceEq, Nat.reduceAdd, Nat.reduceSub, Nat.reduceMul, Nat.reduceLeDiff, reduceIte, reduceCtorEq, Nat.reduceBEq, Nat.reduceEqDiff, go_sem, c]
  · rw [inS_yes m hn] at c
    refine ⟨updS H bs (S.set n none'), ?_, keepS _ _ _ _, ?_⟩
    · unfold dropS; rw [if_pos (by omega), Int.toNat_natCast]; exact m.upS (by simp) (set_ok m.ok _ _ (by decide))
    have ix := idx_nat bs 3 S.length S.length n e .i64 (by omega) hn
    have w : writeN H bs (n * 3) [.int .i64 (-1), .bool false, .bool false] = some (updS H bs (S.set n none')) := put_row m.sl hn none'
    have t := (keepS H bs bh (S.set n none')).trim
    simp -implicitDefEqProofs (maxSteps := 5000000) only [go_sem, Nat.reduceShiftRight, Nat.reduceAnd, Nat.reduceBNe, Int.reduceEq, Nat.reduceAdd, Nat.reduceSub, Nat.reduceMul, Nat.reduceLeDiff, reduceIte, reduceCtorEq, Nat.reduceBEq, Nat.reduceEqDiff, go_sem, wrap64, runC_loop, runC_range, callF_fn, callV_fn, callV_yld, yield_eq, yieldBody, yieldRaw, roundMid, roundEnd, rangeEnd, Bool.not_not, put_cons, put_nil, trim_same, at_zero, at_add, set_zero, set_add, store_one, write_zero, write_add, write_head, write_succ, splice_one, splice_more, List.drop_nil, List.take_nil, cell_int, cell_bool, fillS, splice_one, idxA, Ex.isNormal, List.set_nil, List.length_set, List.all_cons, List.all_nil, Bool.and_self, and_self, true_and, and_true, List.getElem?_nil, Int.reduceLT, Int.reduceLE, Int.reduceToNat, Int.toNat_zero, Int.toNat_one, Int.reduceAdd, Int.reduceSub, Int.reduceMul, Int.reduceNeg, Int.reduceBEq, Int.reduceBNe, Int.reduceGE, Int.reduceGT, Nat.reduceLT, trim_keep, under_fn, under_ptr, under_sl, Nat.lt_irrefl, not_lt_add, trim_tail, keepOk, ABlk.vals, Int.cast_ofNat_Int, decide_true, decide_false, List.all_cons, List.all_nil, Nat.zero_mul, Nat.mul_one, Nat.one_mul, hm, ix, c, w, t]
set_option maxHeartbeats 1000000 in
theorem touchRC (i : Int) : ∃ H', PM H' p bs bh e sets ways (touchS S i) hs ∧ KeepB H H' [bs, bh] ∧ (envL prog).call 23 [.ptr p 0, .int .i64 i] H = some (.tup [], H') := by
  have c := hasRC m i
  have hm := m.map
  rw [c23]
  unfold b23
  rcases split_i S i with h | ⟨n, rfl, hn⟩
  · refine ⟨H, by unfold touchS; rw [if_neg (by omega)]; exact m, KeepB.refl _ _, ?_⟩
    rw [inS_no m h] at c
    simp -implicitDefEqProofs (maxSteps := 5000000) only [go_sem, Nat.reduceShiftRight, Nat.reduceAnd, Nat.reduceBNe, Int.reduceEq, Nat.reduceAdd, Nat.reduceSub, Nat.reduceMul, Nat.reduceLeDiff, reduceIte, reduceCtorEq, Nat.reduceBEq, Nat.reduceEqDiff, go_sem, c]
  · rw [inS_yes m hn] at c
    have hok := m.ok _ (sl_mem hn)
    have ix := idx_nat bs 3 S.length S.length n e .i64 (by omega) hn
    have hc := cells_rw m.sl
    have hg := slot_b hn
    by_cases q : (sl S n).b = -1
    · refine ⟨H, by unfold touchS; rw [if_neg (by rw [Int.toNat_natCast]; exact fun h => h.2.2 q)]; exact m, KeepB.refl _ _, ?_⟩
      have d : decide ((sl S n).b ≥ 0) = false := decide_eq_false (by omega)
      simp -implicitDefEqProofs (maxSteps := 5000000) only [go_sem, Nat.reduceShiftRight, Nat.reduceAnd, Nat.reduceBNe, Int.reduceEq, Nat.reduceAdd, Nat.reduceSub, Nat.reduceMul, Nat.reduceLeDiff, reduceIte, reduceCtorEq, Nat.reduceBEq, Nat.reduceEqDiff, go_sem, hm, ix, c, hc, hg, d]
    · refine ⟨updS H bs (S.set n { sl S n with m := true }), ?_, keepS _ _ _ _, ?_⟩
      · unfold touchS; rw [if_pos ⟨by omega, by omega, q⟩, Int.toNat_natCast]; exact m.upS (by simp) (set_ok m.ok _ _ hok)
      have d : decide ((sl S n).b ≥ 0) = true := decide_eq_true (by omega)
      have w := put_m m.sl hn true
      have t := (keepS H bs bh (S.set n { sl S n with m := true })).trim
      simp -implicitDefEqProofs (maxSteps := 5000000) only [go_sem, Nat.reduceShiftRight, Nat.reduceAnd, Nat.reduceBNe, Int.reduceEq, Nat.reduceAdd, Nat.reduceSub, Nat.reduceMul, Nat.reduceLeDiff, reduceIte, reduceCtorEq, Nat.reduceBEq, Nat.reduceEqDiff, go_sem, store_one, hm, ix, c, hc, hg, d, w, t]
set_option maxHeartbeats 2000000 in
theorem findRL (s : Nat) (hs' : s < sets) (blk : Int) (hb : blk.tmod sets = s) (x2 x3 x7 x8 : AV) (x4 : AV) : ∀ (k w : Nat) (j6 j9 j10 j11 j12 j13 j14 j15 j16 j17 j18 j19 j20 j21 j22 j23 j24 j25 j26 j27 j28 j29 j30 j31 j32 j33 j34 j35 j36 j37 j38 j39 j40 : AV), w + k = ways →
    Outs (LQ l22x0 [.ptr p 0, .int .i64 blk, x2, x3, x4, .int .i64 (w : Int), j6, x7, x8, j9, j10, j11, j12, j13, j14, j15, j16, j17, j18, j19, j20, j21, j22, j23, j24, j25, j26, j27, j28, j29, j30, j31, j32, j33, j34, j35, j36, j37, j38, j39, j40] H) fun e t H' => H' = H ∧ match findW S (s * ways) blk k w with
      | none => e = .exit 0 ∧ ∃ k : Nat → AV, t = [.ptr p 0, .int .i64 blk, x2, x3, x4, (k 5), (k 6), x7, x8, (k 9), (k 10), (k 11), (k 12), (k 13), (k 14), (k 15), (k 16), (k 17), (k 18), (k 19), (k 20), (k 21), (k 22), (k 23), (k 24), (k 25), (k 26), (k 27), (k 28), (k 29), (k 30), (k 31), (k 32), (k 33), (k 34), (k 35), (k 36), (k 37), (k 38), (k 39), (k 40)]
      | some i => e = .ret ∧ ∃ k : Nat → AV, t = [.ptr p 0, .int .i64 blk, x2, x3, .int .i64 (i : Int), (k 5), (k 6), x7, x8, (k 9), (k 10), (k 11), (k 12), (k 13), (k 14), (k 15), (k 16), (k 17), (k 18), (k 19), (k 20), (k 21), (k 22), (k 23), (k 24), (k 25), (k 26), (k 27), (k 28), (k 29), (k 30), (k 31), (k 32), (k 33), (k 34), (k 35), (k 36), (k 37), (k 38), (k 39), (k 40)] := by
  intro k
  obtain ⟨L, hL⟩ : ∃ L, L = LQ l22x0 := ⟨_, rfl⟩
  have lo := loop_open hL
  have hm := m.map
  have s1 := m.s1
  have hr := int_rem .none .i64 blk sets (by omega)
  rw [hb] at hr
  rw [← hL]
  induction k with
  | zero =>
    intro w j6 j9 j10 j11 j12 j13 j14 j15 j16 j17 j18 j19 j20 j21 j22 j23 j24 j25 j26 j27 j28 j29 j30 j31 j32 j33 j34 j35 j36 j37 j38 j39 j40 hi
    obtain rfl : w = ways := by omega
    have hd : decide ((w : Int) < (w : Int)) = false := by simp
    rw [lo]
    unfold l22x0
    simp -implicitDefEqProofs (maxSteps := 5000000) only [go_sem, Nat.reduceShiftRight, Nat.reduceAnd, Nat.reduceBNe, Int.reduceEq, Nat.reduceAdd, Nat.reduceSub, Nat.reduceMul, Nat.reduceLeDiff, reduceIte, reduceCtorEq, Nat.reduceBEq, Nat.reduceEqDiff, go_sem, hm, hd, seqR_exit', outs_normal, findW]
    exact exF rfl
  | succ k ih =>
    intro w j6 j9 j10 j11 j12 j13 j14 j15 j16 j17 j18 j19 j20 j21 j22 j23 j24 j25 j26 j27 j28 j29 j30 j31 j32 j33 j34 j35 j36 j37 j38 j39 j40 hi
    obtain ⟨i1, i2, i3⟩ := m.in hs' (show w < ways by omega)
    have w4 := m.w4
    have hd : decide ((w : Int) < (ways : Int)) = true := decide_eq_true (by omega)
    have e2 : IntKind.i64.wrap ((w : Int) + 1) = ((w + 1 : Nat) : Int) := by rw [wrap64 (by omega) (by omega)]; omega
    have em : IntKind.i64.wrap ((s : Int) * (ways : Int)) = ((s * ways : Nat) : Int) := by rw [← Int.natCast_mul, wrap64 (by omega) (by omega)]
    have ea : IntKind.i64.wrap (((s * ways : Nat) : Int) + (w : Int)) = ((s * ways + w : Nat) : Int) := by rw [wrap64 (by omega) (by omega)]; omega
    have ix := idx_nat bs 3 S.length S.length (s * ways + w) e .i64 (by omega) i1
    have hc := cells_rw m.sl
    have hg := slot_b i1
    have ih := fun j6 j9 j10 j11 j12 j13 j14 j15 j16 j17 j18 j19 j20 j21 j22 j23 j24 j25 j26 j27 j28 j29 j30 j31 j32 j33 j34 j35 j36 j37 j38 j39 j40 => ih (w + 1) j6 j9 j10 j11 j12 j13 j14 j15 j16 j17 j18 j19 j20 j21 j22 j23 j24 j25 j26 j27 j28 j29 j30 j31 j32 j33 j34 j35 j36 j37 j38 j39 j40 (by omega)
    rw [lo]
    unfold l22x0
    by_cases hb : (sl S (s * ways + w)).b = blk
    · have q : ((sl S (s * ways + w)).b == blk) = true := by simp [hb]
      simp -implicitDefEqProofs (maxSteps := 5000000) only [go_sem, Nat.reduceShiftRight, Nat.reduceAnd, Nat.reduceBNe, Int.reduceEq, Nat.reduceAdd, Nat.reduceSub, Nat.reduceMul, Nat.reduceLeDiff, reduceIte, reduceCtorEq, Nat.reduceBEq, Nat.reduceEqDiff, go_sem, hm, hd, hr, e2, em, ea, ix, hc, hg, q, outs_normal, findW, hb]
      exact exF rfl
    · have q : ((sl S (s * ways + w)).b == blk) = false := by simp [hb]
      have f : findW S (s * ways) blk (k + 1) w = findW S (s * ways) blk k (w + 1) := by simp [findW, hb]
      rw [f]
      simp -implicitDefEqProofs (maxSteps := 5000000) only [go_sem, Nat.reduceShiftRight, Nat.reduceAnd, Nat.reduceBNe, Int.reduceEq, Nat.reduceAdd, Nat.reduceSub, Nat.reduceMul, Nat.reduceLeDiff, reduceIte, reduceCtorEq, Nat.reduceBEq, Nat.reduceEqDiff, go_sem, hm, hd, hr, e2, em, ea, ix, hc, hg, q]
      exact ih ..
set_option maxHeartbeats 2000000 in
theorem findRC (blk : Int) : (envL prog).call 22 [.ptr p 0, .int .i64 blk] H = some (.int .i64 (optI (findS sets ways S blk)), H) := by
  have hm := m.map
  unfold findS
  rw [c22]
  unfold b22
  by_cases h : blk < 0
  · have d := decide_eq_true h
    rw [if_pos h]
    simp -implicitDefEqProofs (maxSteps := 5000000) only [go_sem, Nat.reduceShiftRight, Nat.reduceAnd, Nat.reduceBNe, Int.reduceEq, Nat.reduceAdd, Nat.reduceSub, Nat.reduceMul, Nat.reduceLeDiff, reduceIte, reduceCtorEq, Nat.reduceBEq, Nat.reduceEqDiff, go_sem, d, optI]
  · have d := decide_eq_false h
    obtain ⟨e1, h1⟩ := m.setOf blk h
    rw [if_neg h]
    have fl := findRL m _ h1 blk e1 (k := ways) (w := 0)
    rw [show ((0 : Nat) : Int) = 0 from rfl] at fl
    refine eq_outs (h2 := H) ?_ (trim_same rfl)
    simp -implicitDefEqProofs (maxSteps := 5000000) only [go_sem, Nat.reduceShiftRight, Nat.reduceAnd, Nat.reduceBNe, Int.reduceEq, Nat.reduceAdd, Nat.reduceSub, Nat.reduceMul, Nat.reduceLeDiff, reduceIte, reduceCtorEq, Nat.reduceBEq, Nat.reduceEqDiff, go_sem, runC_loop, hm, d]
    refine outs_ctx (fun r => seqR (blockR 0 r) _) (fl _ _ _ _ _ _ _ _ _ _ _ _ _ _ _ _ _ _ _ _ _ _ _ _ _ _ _ _ _ _ _ _ _ _ _ _ _ _ (by omega)) ?_
    rintro e t H' ⟨rfl, hq⟩
    split at hq
    · obtain ⟨rfl, k, rfl⟩ := hq
      rename_i hf
      rw [hf]
      simp -implicitDefEqProofs (maxSteps := 5000000) only [go_sem, Nat.reduceShiftRight, Nat.reduceAnd, Nat.reduceBNe, Int.reduceEq, Nat.reduceAdd, Nat.reduceSub, Nat.reduceMul, Nat.reduceLeDiff, reduceIte, reduceCtorEq, Nat.reduceBEq, Nat.reduceEqDiff, go_sem, outs_normal, optI]
    · obtain ⟨rfl, k, rfl⟩ := hq
      rename_i hf
      rw [hf]
      simp -implicitDefEqProofs (maxSteps := 5000000) only [go_sem, Nat.reduceShiftRight, Nat.reduceAnd, Nat.reduceBNe, Int.reduceEq, Nat.reduceAdd, Nat.reduceSub, Nat.reduceMul, Nat.reduceLeDiff, reduceIte, reduceCtorEq, Nat.reduceBEq, Nat.reduceEqDiff, go_sem, outs_normal, optI]
set_option maxHeartbeats 2000000 in
theorem putRC (i blk : Int) (d : Bool) : ∃ H', PM H' p bs bh e sets ways (putS sets ways S i blk d) hs ∧ KeepB H H' [bs, bh] ∧ (envL prog).call 21 [.ptr p 0, .int .i64 i, .int .i64 blk, .bool d] H = some (.tup [], H') := by
  have hm := m.map
  have c := hasRC m i
  have c3 := findRC m blk
  have sm := m.small
  have w1 := m.w1
  have s1 := m.s1
  rw [c21]
  unfold b21
  rcases split_i S i with h | ⟨n, rfl, hn⟩
  · refine ⟨H, by unfold putS; rw [if_neg (by omega)]; exact m, KeepB.refl _ _, ?_⟩
    rw [inS_no m h] at c
    simp -implicitDefEqProofs (maxSteps := 5000000) only [go_sem, Nat.reduceShiftRight, Nat.reduceAnd, Nat.reduceBNe, Int.reduceEq, Nat.reduceAdd, Nat.reduceSub, Nat.reduceMul, Nat.reduceLeDiff, reduceIte, reduceCtorEq, Nat.reduceBEq, Nat.reduceEqDiff, go_sem, c]
  rw [inS_yes m hn] at c
  by_cases hb : blk < 0
  · refine ⟨H, by unfold putS; rw [if_neg (by omega)]; exact m, KeepB.refl _ _, ?_⟩
    have db := decide_eq_true hb
    simp -implicitDefEqProofs (maxSteps := 5000000) only [go_sem, Nat.reduceShiftRight, Nat.reduceAnd, Nat.reduceBNe, Int.reduceEq, Nat.reduceAdd, Nat.reduceSub, Nat.reduceMul, Nat.reduceLeDiff, reduceIte, reduceCtorEq, Nat.reduceBEq, Nat.reduceEqDiff, go_sem, c, db]
  have db := decide_eq_false hb
  obtain ⟨e1, h1⟩ := m.setOf blk hb
  have hrm := int_rem .none .i64 blk sets (by omega)
  rw [e1] at hrm
  have hr := int_quo .none .i64 (n : Int) (ways : Int) (by omega)
  rw [wrap_div n ways (by omega)] at hr
  have ix := idx_nat bs 3 S.length S.length n e .i64 (by omega) hn
  by_cases hs' : n / ways = (blk % sets).toNat
  · have d1 : ((((blk % sets).toNat : Nat) : Int) != ((n / ways : Nat) : Int)) = false := by rw [hs']; simp
    generalize hf : findS sets ways S blk = r at c3
    have hput : putS sets ways S (n : Int) blk d = if r = none ∨ r = some n then S.set n ⟨blk, d, true⟩ else S := by
      unfold putS
      rw [Int.toNat_natCast, hf]
      by_cases hx : r = none ∨ r = some n
      · rw [if_pos ⟨by omega, by omega, by omega, hs', hx⟩, if_pos hx]
      · rw [if_neg (fun h => hx h.2.2.2.2), if_neg hx]
    have w : writeN H bs (n * 3) [.int .i64 blk, .bool d, .bool true] = some (updS H bs (S.set n ⟨blk, d, true⟩)) := put_row m.sl hn ⟨blk, d, true⟩
    have t := (keepS H bs bh (S.set n ⟨blk, d, true⟩)).trim
    have up := m.upS (S' := S.set n ⟨blk, d, true⟩) (by simp) (set_ok m.ok _ _ (show (-1 : Int) ≤ blk by omega))
    rw [hput]
    cases r with
    | none =>
      refine ⟨updS H bs (S.set n ⟨blk, d, true⟩), by rw [if_pos (.inl rfl)]; exact up, keepS _ _ _ _, ?_⟩
      have dm : decide ((-1 : Int) ≥ 0) = false := rfl
      simp -implicitDefEqProofs (maxSteps := 5000000) only [go_sem, Nat.reduceShiftRight, Nat.reduceAnd, Nat.reduceBNe, Int.reduceEq, Nat.reduceAdd, Nat.reduceSub, Nat.reduceMul, Nat.reduceLeDiff, reduceIte, reduceCtorEq, Nat.reduceBEq, Nat.reduceEqDiff, go_sem, wrap64, runC_loop, runC_range, callF_fn, callV_fn, callV_yld, yield_eq, yieldBody, yieldRaw, roundMid, roundEnd, rangeEnd, Bool.not_not, put_cons, put_nil, trim_same, at_zero, at_add, set_zero, set_add, store_one, write_zero, write_add, write_head, write_succ, splice_one, splice_more, List.drop_nil, List.take_nil, cell_int, cell_bool, fillS, splice_one, idxA, Ex.isNormal, List.set_nil, List.length_set, List.all_cons, List.all_nil, Bool.and_self, and_self, true_and, and_true, List.getElem?_nil, Int.reduceLT, Int.reduceLE, Int.reduceToNat, Int.toNat_zero, Int.toNat_one, Int.reduceAdd, Int.reduceSub, Int.reduceMul, Int.reduceNeg, Int.reduceBEq, Int.reduceBNe, Int.reduceGE, Int.reduceGT, Nat.reduceLT, trim_keep, under_fn, under_ptr, under_sl, Nat.lt_irrefl, not_lt_add, trim_tail, keepOk, ABlk.vals, Int.cast_ofNat_Int, decide_true, decide_false, List.all_cons, List.all_nil, Nat.zero_mul, Nat.mul_one, Nat.one_mul, hm, c, c3, hrm, hr, d1, db, optI, dm, ix, w, t]
    | some j =>
      have dj : decide ((j : Int) ≥ 0) = true := decide_eq_true (by omega)
      by_cases hj : j = n
      · subst hj
        refine ⟨updS H bs (S.set j ⟨blk, d, true⟩), by rw [if_pos (.inr rfl)]; exact up, keepS _ _ _ _, ?_⟩
        have d2 : ((j : Int) != (j : Int)) = false := by simp
        simp -implicitDefEqProofs (maxSteps := 5000000) only [go_sem, Nat.reduceShiftRight, Nat.reduceAnd, Nat.reduceBNe, Int.reduceEq, Nat.reduceAdd, Nat.reduceSub, Nat.reduceMul, Nat.reduceLeDiff, reduceIte, reduceCtorEq, Nat.reduceBEq, Nat.reduceEqDiff, go_sem, wrap64, runC_loop, runC_range, callF_fn, callV_fn, callV_yld, yield_eq, yieldBody, yieldRaw, roundMid, roundEnd, rangeEnd, Bool.not_not, put_cons, put_nil, trim_same, at_zero, at_add, set_zero, set_add, store_one, write_zero, write_add, write_head, write_succ, splice_one, splice_more, List.drop_nil, List.take_nil, cell_int, cell_bool, fillS, splice_one, idxA, Ex.isNormal, List.set_nil, List.length_set, List.all_cons, List.all_nil, Bool.and_self, and_self, true_and, and_true, List.getElem?_nil, Int.reduceLT, Int.reduceLE, Int.reduceToNat, Int.toNat_zero, Int.toNat_one, Int.reduceAdd, Int.reduceSub, Int.reduceMul, Int.reduceNeg, Int.reduceBEq, Int.reduceBNe, Int.reduceGE, Int.reduceGT, Nat.reduceLT, trim_keep, under_fn, under_ptr, under_sl, Nat.lt_irrefl, not_lt_add, trim_tail, keepOk, ABlk.vals, Int.cast_ofNat_Int, decide_true, decide_false, List.all_cons, List.all_nil, Nat.zero_mul, Nat.mul_one, Nat.one_mul, hm, c, c3, hrm, hr, d1, d2, db, dj, optI, ix, w, t]
      · refine ⟨H, by rw [if_neg (by simp [hj])]; exact m, KeepB.refl _ _, ?_⟩
        have d2 : ((j : Int) != (n : Int)) = true := by simp; omega
        simp -implicitDefEqProofs (maxSteps := 5000000) only [go_sem, Nat.reduceShiftRight, Nat.reduceAnd, Nat.reduceBNe, Int.reduceEq, Nat.reduceAdd, Nat.reduceSub, Nat.reduceMul, Nat.reduceLeDiff, reduceIte, reduceCtorEq, Nat.reduceBEq, Nat.reduceEqDiff, go_sem, wrap64, runC_loop, runC_range, callF_fn, callV_fn, callV_yld, yield_eq, yieldBody, yieldRaw, roundMid, roundEnd, rangeEnd, Bool.not_not, put_cons, put_nil, trim_same, at_zero, at_add, set_zero, set_add, store_one, write_zero, write_add, write_head, write_succ, splice_one, splice_more, List.drop_nil, List.take_nil, cell_int, cell_bool, fillS, splice_one, idxA, Ex.isNormal, List.set_nil, List.length_set, List.all_cons, List.all_nil, Bool.and_self, and_self, true_and, and_true, List.getElem?_nil, Int.reduceLT, Int.reduceLE, Int.reduceToNat, Int.toNat_zero, Int.toNat_one, Int.reduceAdd, Int.reduceSub, Int.reduceMul, Int.reduceNeg, Int.reduceBEq, Int.reduceBNe, Int.reduceGE, Int.reduceGT, Nat.reduceLT, trim_keep, under_fn, under_ptr, under_sl, Nat.lt_irrefl, not_lt_add, trim_tail, keepOk, ABlk.vals, Int.cast_ofNat_Int, decide_true, decide_false, List.all_cons, List.all_nil, Nat.zero_mul, Nat.mul_one, Nat.one_mul, hm, c, c3, hrm, hr, d1, d2, db, dj, optI]
  · refine ⟨H, by unfold putS; rw [if_neg (by rw [Int.toNat_natCast]; exact fun h => hs' h.2.2.2.1)]; exact m, KeepB.refl _ _, ?_⟩
    have d1 : ((((blk % sets).toNat : Nat) : Int) != ((n / ways : Nat) : Int)) = true := by
      rw [bne_iff_ne]; intro hx; exact hs' (by exact_mod_cast hx.symm)
    simp -implicitDefEqProofs (maxSteps := 5000000) only [go_sem, Nat.reduceShiftRight, Nat.reduceAnd, Nat.reduceBNe, Int.reduceEq, Nat.reduceAdd, Nat.reduceSub, Nat.reduceMul, Nat.reduceLeDiff, reduceIte, reduceCtorEq, Nat.reduceBEq, Nat.reduceEqDiff, go_sem, wrap64, runC_loop, runC_range, callF_fn, callV_fn, callV_yld, yield_eq, yieldBody, yieldRaw, roundMid, roundEnd, rangeEnd, Bool.not_not, put_cons, put_nil, trim_same, at_zero, at_add, set_zero, set_add, store_one, write_zero, write_add, write_head, write_succ, splice_one, splice_more, List.drop_nil, List.take_nil, cell_int, cell_bool, fillS, splice_one, idxA, Ex.isNormal, List.set_nil, List.length_set, List.all_cons, List.all_nil, Bool.and_self, and_self, true_and, and_true, List.getElem?_nil, Int.reduceLT, Int.reduceLE, Int.reduceToNat, Int.toNat_zero, Int.toNat_one, Int.reduceAdd, Int.reduceSub, Int.reduceMul, Int.reduceNeg, Int.reduceBEq, Int.reduceBNe, Int.reduceGE, Int.reduceGT, Nat.reduceLT, trim_keep, under_fn, under_ptr, under_sl, Nat.lt_irrefl, not_lt_add, trim_tail, keepOk, ABlk.vals, Int.cast_ofNat_Int, decide_true, decide_false, List.all_cons, List.all_nil, Nat.zero_mul, Nat.mul_one, Nat.one_mul, hm, c, hrm, hr, d1, db]
end
end Go.Proofs.Ytodoakeifdiidaa.G13

