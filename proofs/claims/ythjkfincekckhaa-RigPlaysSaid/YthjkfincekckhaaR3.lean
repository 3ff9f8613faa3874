/- What the functions that RigPlays reaches answer, for every argument. No condition but those in each statement. -/
import Derived.Test.YthjkfincekckhaaD3
import Derived.Test.YthjkfincekckhaaE6
set_option linter.unusedSimpArgs false
set_option linter.unusedVariables false
set_option linter.unusedSectionVars false
set_option maxRecDepth 10000
namespace Go.Proofs.Ythjkfincekckhaa.G04
open Go Go.Proofs.Ythjkfincekckhaa.Eng
theorem rigEach {p : Nat} (H : AHeap) : (envL prog).call 39 [.ptr p 0] H = some (.fn 47 [.ptr H.length 0], H ++ [.rw [.ptr p 0]]) := by
  rw [c39]
  unfold b39
  simp -implicitDefEqProofs (maxSteps := 5000000) only [go_sem, Nat.reduceShiftRight, Nat.reduceAnd, Nat.reduceBNe, Int.reduceEq, Nat.reduceAdd, Nat.reduceSub, Nat.reduceMul, Nat.reduceLeDiff, reduceIte, reduceCtorEq, Nat.reduceBEq, Nat.reduceEqDiff]
  exact trim_keep (by simp [AV.under, underAll])
section
variable {H : AHeap} {p p0 d0 p1 d1 c : Nat} {L0 L1 : List (AV × Sec)} {r : RgS} (m : RG H p p0 d0 p1 d1 c L0 L1 r)
include m
theorem rig_cells (B : AHeap) : cellsOf (H ++ B) p = some (rgCells p0 p1 r) := cells_old (cells_rw m.blk)
set_option maxHeartbeats 4000000 in
theorem rigDisk0 : (envL prog).call 28 [.ptr p 0, .int .i64 0] H = some (.ptr p0 0, H) := by
  have hc := rig_cells m
  unfold rgCells at hc
  have hp := lt_of_cells m.k0.ptr
  have hu : (AV.ptr p0 0).under H.length = true := by simp [AV.under, hp]
  rw [c28]
  unfold b28
  simp -implicitDefEqProofs (maxSteps := 5000000) only [go_sem, Nat.reduceShiftRight, Nat.reduceAnd, Nat.reduceBNe, Int.reduceEq, Nat.reduceAdd, Nat.reduceSub, Nat.reduceMul, Nat.reduceLeDiff, reduceIte, reduceCtorEq, Nat.reduceBEq, Nat.reduceEqDiff, wrap64, loop_run, runC_loop, runC_range, callF_fn, callV_fn, callV_yld, yield_eq, yieldBody, yieldRaw, roundMid, roundEnd, rangeEnd, Bool.not_not, put_cons, put_nil, trim_same, at_zero, at_add, set_zero, set_add, store_one, write_zero, write_add, write_head, write_succ, splice_one, splice_more, List.drop_nil, List.take_nil, cell_int, cell_bool, fillS, splice_one, idxA, Ex.isNormal, List.set_nil, List.length_set, List.all_cons, List.all_nil, Bool.and_self, and_self, true_and, and_true, List.getElem?_nil, Int.reduceLT, Int.reduceLE, Int.reduceToNat, Int.toNat_zero, Int.toNat_one, Int.reduceAdd, Int.reduceSub, Int.reduceMul, Int.reduceNeg, Int.reduceBEq, Int.reduceBNe, Int.reduceGE, Int.reduceGT, Nat.reduceLT, trim_keep, under_fn, under_ptr, under_sl, Nat.lt_irrefl, not_lt_add, trim_tail, keepOk, ABlk.vals, Int.cast_ofNat_Int, decide_true, decide_false, List.all_cons, List.all_nil, Nat.zero_mul, Nat.mul_one, Nat.one_mul, rigEach, c47, b47, l47x0, hc, eaq28x0, ebq28x0, aq28x0, bq28x0, hu]
set_option maxHeartbeats 4000000 in
theorem rigDisk1 : (envL prog).call 28 [.ptr p 0, .int .i64 1] H = some (.ptr p1 0, H) := by
  have hc := rig_cells m
  unfold rgCells at hc
  have hp := lt_of_cells m.k1.ptr
  have hu : (AV.ptr p1 0).under H.length = true := by simp [AV.under, hp]
  have hn : ((0 : Int) == 1) = false := rfl
  have w1 : IntKind.i64.wrap (0 + 1) = 1 := by decide
  rw [c28]
  unfold b28
  simp -implicitDefEqProofs (maxSteps := 5000000) only [go_sem, Nat.reduceShiftRight, Nat.reduceAnd, Nat.reduceBNe, Int.reduceEq, Nat.reduceAdd, Nat.reduceSub, Nat.reduceMul, Nat.reduceLeDiff, reduceIte, reduceCtorEq, Nat.reduceBEq, Nat.reduceEqDiff, wrap64, loop_run, runC_loop, runC_range, callF_fn, callV_fn, callV_yld, yield_eq, yieldBody, yieldRaw, roundMid, roundEnd, rangeEnd, Bool.not_not, put_cons, put_nil, trim_same, at_zero, at_add, set_zero, set_add, store_one, write_zero, write_add, write_head, write_succ, splice_one, splice_more, List.drop_nil, List.take_nil, cell_int, cell_bool, fillS, splice_one, idxA, Ex.isNormal, List.set_nil, List.length_set, List.all_cons, List.all_nil, Bool.and_self, and_self, true_and, and_true, List.getElem?_nil, Int.reduceLT, Int.reduceLE, Int.reduceToNat, Int.toNat_zero, Int.toNat_one, Int.reduceAdd, Int.reduceSub, Int.reduceMul, Int.reduceNeg, Int.reduceBEq, Int.reduceBNe, Int.reduceGE, Int.reduceGT, Nat.reduceLT, trim_keep, under_fn, under_ptr, under_sl, Nat.lt_irrefl, not_lt_add, trim_tail, keepOk, ABlk.vals, Int.cast_ofNat_Int, decide_true, decide_false, List.all_cons, List.all_nil, Nat.zero_mul, Nat.mul_one, Nat.one_mul, rigEach, c47, b47, l47x0, hc, eaq28x0, ebq28x0, aq28x0, bq28x0, hn, w1, hu]
set_option maxHeartbeats 4000000 in
theorem rigDiskN {dev : Int} (h0 : dev ≠ 0) (h1 : dev ≠ 1) : (envL prog).call 28 [.ptr p 0, .int .i64 dev] H = some (.nilPtr, H) := by
  have hc := rig_cells m
  unfold rgCells at hc
  have n0 : ((0 : Int) == dev) = false := by simp; exact fun h => h0 h.symm
  have n1 : ((1 : Int) == dev) = false := by simp; exact fun h => h1 h.symm
  have w1 : IntKind.i64.wrap (0 + 1) = 1 := by decide
  have w2 : IntKind.i64.wrap (1 + 1) = 2 := by decide
  rw [c28]
  unfold b28
  simp -implicitDefEqProofs (maxSteps := 5000000) only [go_sem, Nat.reduceShiftRight, Nat.reduceAnd, Nat.reduceBNe, Int.reduceEq, Nat.reduceAdd, Nat.reduceSub, Nat.reduceMul, Nat.reduceLeDiff, reduceIte, reduceCtorEq, Nat.reduceBEq, Nat.reduceEqDiff, wrap64, loop_run, runC_loop, runC_range, callF_fn, callV_fn, callV_yld, yield_eq, yieldBody, yieldRaw, roundMid, roundEnd, rangeEnd, Bool.not_not, put_cons, put_nil, trim_same, at_zero, at_add, set_zero, set_add, store_one, write_zero, write_add, write_head, write_succ, splice_one, splice_more, List.drop_nil, List.take_nil, cell_int, cell_bool, fillS, splice_one, idxA, Ex.isNormal, List.set_nil, List.length_set, List.all_cons, List.all_nil, Bool.and_self, and_self, true_and, and_true, List.getElem?_nil, Int.reduceLT, Int.reduceLE, Int.reduceToNat, Int.toNat_zero, Int.toNat_one, Int.reduceAdd, Int.reduceSub, Int.reduceMul, Int.reduceNeg, Int.reduceBEq, Int.reduceBNe, Int.reduceGE, Int.reduceGT, Nat.reduceLT, trim_keep, under_fn, under_ptr, under_sl, Nat.lt_irrefl, not_lt_add, trim_tail, keepOk, ABlk.vals, Int.cast_ofNat_Int, decide_true, decide_false, List.all_cons, List.all_nil, Nat.zero_mul, Nat.mul_one, Nat.one_mul, rigEach, c47, b47, l47x0, hc, eaq28x0, ebq28x0, aq28x0, bq28x0, n0, n1, w1, w2]
/-- What a disk's number means. -/
theorem rigDev (dev : Int) : (∃ q d L, (envL prog).call 28 [.ptr p 0, .int .i64 dev] H = some (.ptr q 0, H) ∧ DK H q d c L ∧ L.map (·.2) = r.dk dev ∧ (dev = 0 ∨ dev = 1)) ∨ ((envL prog).call 28 [.ptr p 0, .int .i64 dev] H = some (.nilPtr, H) ∧ r.dk dev = [] ∧ dev ≠ 0 ∧ dev ≠ 1) := by
  by_cases h0 : dev = 0
  · subst h0
    exact .inl ⟨p0, d0, L0, rigDisk0 m, m.k0, m.e0, .inl rfl⟩
  · by_cases h1 : dev = 1
    · subst h1
      exact .inl ⟨p1, d1, L1, rigDisk1 m, m.k1, m.e1, .inr rfl⟩
    · exact .inr ⟨rigDiskN m h0 h1, by unfold RgS.dk; rw [if_neg h0, if_neg h1], h0, h1⟩
theorem rigLenC (dev : Int) : (envL prog).call 24 [.ptr p 0, .int .i64 dev] H = some (.int .i64 ((r.dk dev).length : Int), H) := by
  rw [c24]
  unfold b24
  rcases rigDev m dev with ⟨q, d, L, e, k, hl, _⟩ | ⟨e, hl, _⟩
  · have c1 := diskLenC k
    rw [← hl, List.length_map]
    simp -implicitDefEqProofs (maxSteps := 5000000) only [go_sem, Nat.reduceShiftRight, Nat.reduceAnd, Nat.reduceBNe, Int.reduceEq, Nat.reduceAdd, Nat.reduceSub, Nat.reduceMul, Nat.reduceLeDiff, reduceIte, reduceCtorEq, Nat.reduceBEq, Nat.reduceEqDiff, e, c1]
  · have c1 := diskLenN H
    rw [hl]
    simp -implicitDefEqProofs (maxSteps := 5000000) only [go_sem, Nat.reduceShiftRight, Nat.reduceAnd, Nat.reduceBNe, Int.reduceEq, Nat.reduceAdd, Nat.reduceSub, Nat.reduceMul, Nat.reduceLeDiff, reduceIte, reduceCtorEq, Nat.reduceBEq, Nat.reduceEqDiff, e, c1]
    rfl
theorem rigDownC : (envL prog).call 22 [.ptr p 0] H = some (.bool r.down, H) := by
  have hc := cells_rw m.blk
  unfold rgCells at hc
  rw [c22]
  unfold b22
  simp -implicitDefEqProofs (maxSteps := 5000000) only [go_sem, Nat.reduceShiftRight, Nat.reduceAnd, Nat.reduceBNe, Int.reduceEq, Nat.reduceAdd, Nat.reduceSub, Nat.reduceMul, Nat.reduceLeDiff, reduceIte, reduceCtorEq, Nat.reduceBEq, Nat.reduceEqDiff, hc]
theorem rigDoneC : (envL prog).call 23 [.ptr p 0] H = some (.int .i64 r.done, H) := by
  have hc := cells_rw m.blk
  unfold rgCells at hc
  rw [c23]
  unfold b23
  simp -implicitDefEqProofs (maxSteps := 5000000) only [go_sem, Nat.reduceShiftRight, Nat.reduceAnd, Nat.reduceBNe, Int.reduceEq, Nat.reduceAdd, Nat.reduceSub, Nat.reduceMul, Nat.reduceLeDiff, reduceIte, reduceCtorEq, Nat.reduceBEq, Nat.reduceEqDiff, hc]
theorem rigArmC (n : Int) : RG (H.set p (.rw (rgCells p0 p1 (r.arm n)))) p p0 d0 p1 d1 c L0 L1 (r.arm n) ∧ (envL prog).call 21 [.ptr p 0, .int .i64 n] H = some (.tup [], H.set p (.rw (rgCells p0 p1 (r.arm n)))) := by
  refine ⟨m.set _ rfl rfl, ?_⟩
  have hc := cells_rw m.blk
  have w : writeN H p 2 [.int .i64 (r.arm n).fuse] = some (H.set p (.rw (rgCells p0 p1 (r.arm n)))) := by
    rw [write_of m.blk, if_pos ⟨by simp [rgCells], rfl⟩, splice_one]; rfl
  have t : trim H (some (.tup [], H.set p (.rw (rgCells p0 p1 (r.arm n))))) = some (.tup [], H.set p (.rw (rgCells p0 p1 (r.arm n)))) := trim_same (by simp)
  generalize H.set p (.rw (rgCells p0 p1 (r.arm n))) = G at *
  unfold RgS.arm at w
  unfold rgCells at hc
  rw [c21]
  unfold b21
  simp -implicitDefEqProofs (maxSteps := 5000000) only [go_sem, Nat.reduceShiftRight, Nat.reduceAnd, Nat.reduceBNe, Int.reduceEq, Nat.reduceAdd, Nat.reduceSub, Nat.reduceMul, Nat.reduceLeDiff, reduceIte, reduceCtorEq, Nat.reduceBEq, Nat.reduceEqDiff, hc, store_one, w, t]
set_option maxHeartbeats 1000000 in
theorem rigPassC : RG (H.set p (.rw (rgCells p0 p1 r.pass.1))) p p0 d0 p1 d1 c L0 L1 r.pass.1 ∧ (envL prog).call 30 [.ptr p 0] H = some (.int .i64 r.pass.2, H.set p (.rw (rgCells p0 p1 r.pass.1))) := by
  have ab : r.pass.1.a = r.a ∧ r.pass.1.b = r.b := by unfold RgS.pass; split <;> exact ⟨rfl, rfl⟩
  refine ⟨m.set _ ab.1 ab.2, ?_⟩
  obtain ⟨a, b, fuse, down, done⟩ := r
  have hp := lt_of_at m.blk
  have hc := cells_rw m.blk
  have t : ∀ R, trim H (some (.int .i64 (RgS.pass ⟨a, b, fuse, down, done⟩).2, H.set p R)) = some (.int .i64 (RgS.pass ⟨a, b, fuse, down, done⟩).2, H.set p R) := fun R => trim_same (by simp)
  have w : ∀ (G : AHeap) f dn k, G[p]? = some (.rw [.ptr p0 0, .ptr p1 0, .int .i64 f, .bool dn, .int .i64 k]) → (∀ x, writeN G p 2 [.int .i64 x] = some (G.set p (.rw [.ptr p0 0, .ptr p1 0, .int .i64 x, .bool dn, .int .i64 k]))) ∧ (∀ x, writeN G p 3 [.bool x] = some (G.set p (.rw [.ptr p0 0, .ptr p1 0, .int .i64 f, .bool x, .int .i64 k]))) ∧ (∀ x, writeN G p 4 [.int .i64 x] = some (G.set p (.rw [.ptr p0 0, .ptr p1 0, .int .i64 f, .bool dn, .int .i64 x]))) := by
    intro G f dn k h
    refine ⟨fun x => ?_, fun x => ?_, fun x => ?_⟩ <;> (rw [write_of h, if_pos ⟨by simp, rfl⟩, splice_one]; rfl)
  obtain ⟨w2, w3, w4⟩ := w H fuse down done m.blk
  have at2 : ∀ cs, cellsOf (H.set p (.rw cs)) p = some cs := fun cs => cells_rw (at_set _ _ _ hp)
  have v : ∀ f dn k, _ := fun f dn k => w (H.set p (.rw [.ptr p0 0, .ptr p1 0, .int .i64 f, .bool dn, .int .i64 k])) f dn k (at_set _ _ _ hp)
  have v4 := fun f dn k => (v f dn k).2.2
  unfold rgCells at *
  rw [c30]
  unfold b30
  by_cases hf : fuse = 0
  · subst hf
    have e : RgS.pass ⟨a, b, 0, down, done⟩ = (⟨a, b, 0, true, done⟩, 14) := by unfold RgS.pass; rw [if_pos (.inr rfl)]
    rw [e] at t ⊢
    simp -implicitDefEqProofs (maxSteps := 5000000) only [go_sem, Nat.reduceShiftRight, Nat.reduceAnd, Nat.reduceBNe, Int.reduceEq, Nat.reduceAdd, Nat.reduceSub, Nat.reduceMul, Nat.reduceLeDiff, reduceIte, reduceCtorEq, Nat.reduceBEq, Nat.reduceEqDiff, hc, store_one, w3, at2, t]
  · have f1 : (fuse == 0) = false := by simp [hf]
    cases down with
    | true =>
      have e : RgS.pass ⟨a, b, fuse, true, done⟩ = (⟨a, b, fuse, true, done⟩, 14) := by unfold RgS.pass; rw [if_pos (.inl rfl)]
      rw [e] at t ⊢
      have same : H.set p (.rw [.ptr p0 0, .ptr p1 0, .int .i64 fuse, .bool true, .int .i64 done]) = H := by
        apply List.ext_getElem?; intro i
        by_cases ei : i = p
        · subst ei; rw [List.getElem?_set_self hp, m.blk]; rfl
        · rw [List.getElem?_set_ne (fun q => ei q.symm)]
      have t2 : trim H (some (.int .i64 14, H)) = some (.int .i64 14, H) := trim_same rfl
      rw [same]
      simp -implicitDefEqProofs (maxSteps := 5000000) only [go_sem, Nat.reduceShiftRight, Nat.reduceAnd, Nat.reduceBNe, Int.reduceEq, Nat.reduceAdd, Nat.reduceSub, Nat.reduceMul, Nat.reduceLeDiff, reduceIte, reduceCtorEq, Nat.reduceBEq, Nat.reduceEqDiff, hc, f1, t2]
    | false =>
      by_cases hg : fuse > 0
      · have d1 := decide_eq_true hg
        have e : RgS.pass ⟨a, b, fuse, false, done⟩ = (⟨a, b, IntKind.i64.wrap (fuse - 1), false, IntKind.i64.wrap (done + 1)⟩, 0) := by
          unfold RgS.pass; rw [if_neg (by simp [hf])]; simp [hg]
        rw [e] at t ⊢
        simp -implicitDefEqProofs (maxSteps := 5000000) only [go_sem, Nat.reduceShiftRight, Nat.reduceAnd, Nat.reduceBNe, Int.reduceEq, Nat.reduceAdd, Nat.reduceSub, Nat.reduceMul, Nat.reduceLeDiff, reduceIte, reduceCtorEq, Nat.reduceBEq, Nat.reduceEqDiff, hc, f1, d1, store_one, w2, at2, v4, List.set_set, t]
      · have d1 := decide_eq_false hg
        have e : RgS.pass ⟨a, b, fuse, false, done⟩ = (⟨a, b, fuse, false, IntKind.i64.wrap (done + 1)⟩, 0) := by
          unfold RgS.pass; rw [if_neg (by simp [hf])]; simp [hg]
        rw [e] at t ⊢
        simp -implicitDefEqProofs (maxSteps := 5000000) only [go_sem, Nat.reduceShiftRight, Nat.reduceAnd, Nat.reduceBNe, Int.reduceEq, Nat.reduceAdd, Nat.reduceSub, Nat.reduceMul, Nat.reduceLeDiff, reduceIte, reduceCtorEq, Nat.reduceBEq, Nat.reduceEqDiff, hc, f1, d1, store_one, w4, at2, t]
end
end Go.Proofs.Ythjkfincekckhaa.G04

