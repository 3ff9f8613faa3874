/- What the functions that RingTorn reaches answer, for every argument. No condition but those in each statement. -/
import Derived.Test.YtipedaadjfhdnaaDA
import Derived.Test.YtipedaadjfhdnaaE6
import Derived.Test.YtipedaadjfhdnaaN
import Derived.Test.YtipedaadjfhdnaaE5
set_option linter.unusedSimpArgs false
set_option linter.unusedVariables false
set_option linter.unusedSectionVars false
set_option maxRecDepth 10000
section
namespace Go.Proofs.Ytipedaadjfhdnaa.G06
open Go Go.Proofs.Ytipedaadjfhdnaa.Eng
theorem rigEach {p : Nat} (H : AHeap) : (envL prog).call 43 [.ptr p 0] H = some (.fn 61 [.ptr H.length 0], H ++ [.rw [.ptr p 0]]) := by
 rw [c43]
 unfold b43
 simp -implicitDefEqProofs (maxSteps := 5000000) only [go_sem, Nat.reduceShiftRight, Nat.reduceAnd, Nat.reduceBNe, Int.reduceEq, Nat.reduceAdd, Nat.reduceSub, Nat.reduceMul, Nat.reduceLeDiff, reduceIte, reduceCtorEq, Nat.reduceBEq, Nat.reduceEqDiff]
 exact trim_keep (by simp [AV.under, underAll])
section
variable {H : AHeap} {p p0 d0 p1 d1 c : Nat} {L0 L1 : List (AV × Sec)} {r : RgS} (m : RG H p p0 d0 p1 d1 c L0 L1 r)
include m
theorem rig_cells (B : AHeap) : cellsOf (H ++ B) p = some (rgCells p0 p1 r) := cells_old (cells_rw m.blk)
set_option maxHeartbeats 4000000 in
theorem rigDisk0 : (envL prog).call 33 [.ptr p 0, .int .i64 0] H = some (.ptr p0 0, H) := by
 have hc := rig_cells m
 unfold rgCells at hc
 have hp := lt_of_cells m.k0.ptr
 have hu : (AV.ptr p0 0).under H.length = true := by simp [AV.under, hp]
 rw [c33]
 unfold b33
 simp -implicitDefEqProofs (maxSteps := 5000000) only [go_sem, Nat.reduceShiftRight, Nat.reduceAnd, Nat.reduceBNe, Int.reduceEq, Nat.reduceAdd, Nat.reduceSub, Nat.reduceMul, Nat.reduceLeDiff, reduceIte, reduceCtorEq, Nat.reduceBEq, Nat.reduceEqDiff, wrap64, loop_run, runC_loop, runC_range, callF_fn, callV_fn, callV_yld, yield_eq, yieldBody, yieldRaw, roundMid, roundEnd, rangeEnd, Bool.not_not, put_cons, put_nil, trim_same, at_zero, at_add, set_zero, set_add, store_one, write_zero, write_add, write_head, write_succ, splice_one, splice_more, List.drop_nil, List.take_nil, cell_int, cell_bool, fillS, splice_one, idxA, Ex.isNormal, List.set_nil, List.length_set, List.all_cons, List.all_nil, Bool.and_self, and_self, true_and, and_true, List.getElem?_nil, Int.reduceLT, Int.reduceLE, Int.reduceToNat, Int.toNat_zero, Int.toNat_one, Int.reduceAdd, Int.reduceSub, Int.reduceMul, Int.reduceNeg, Int.reduceBEq, Int.reduceBNe, Int.reduceGE, Int.reduceGT, Nat.reduceLT, trim_keep, under_fn, under_ptr, under_sl, Nat.lt_irrefl, not_lt_add, trim_tail, keepOk, ABlk.vals, Int.cast_ofNat_Int, decide_true, decide_false, List.all_cons, List.all_nil, Nat.zero_mul, Nat.mul_one, Nat.one_mul, rigEach, c61, b61, l61x0, hc, eaq33x0, ebq33x0, aq33x0, bq33x0, hu]
set_option maxHeartbeats 4000000 in
theorem rigDisk1 : (envL prog).call 33 [.ptr p 0, .int .i64 1] H = some (.ptr p1 0, H) := by
 have hc := rig_cells m
 unfold rgCells at hc
 have hp := lt_of_cells m.k1.ptr
 have hu : (AV.ptr p1 0).under H.length = true := by simp [AV.under, hp]
 have hn : ((0 : Int) == 1) = false := rfl
 have w1 : IntKind.i64.wrap (0 + 1) = 1 := by decide
 rw [c33]
 unfold b33
 simp -implicitDefEqProofs (maxSteps := 5000000) only [go_sem, Nat.reduceShiftRight, Nat.reduceAnd, Nat.reduceBNe, Int.reduceEq, Nat.reduceAdd, Nat.reduceSub, Nat.reduceMul, Nat.reduceLeDiff, reduceIte, reduceCtorEq, Nat.reduceBEq, Nat.reduceEqDiff, wrap64, loop_run, runC_loop, runC_range, callF_fn, callV_fn, callV_yld, yield_eq, yieldBody, yieldRaw, roundMid, roundEnd, rangeEnd, Bool.not_not, put_cons, put_nil, trim_same, at_zero, at_add, set_zero, set_add, store_one, write_zero, write_add, write_head, write_succ, splice_one, splice_more, List.drop_nil, List.take_nil, cell_int, cell_bool, fillS, splice_one, idxA, Ex.isNormal, List.set_nil, List.length_set, List.all_cons, List.all_nil, Bool.and_self, and_self, true_and, and_true, List.getElem?_nil, Int.reduceLT, Int.reduceLE, Int.reduceToNat, Int.toNat_zero, Int.toNat_one, Int.reduceAdd, Int.reduceSub, Int.reduceMul, Int.reduceNeg, Int.reduceBEq, Int.reduceBNe, Int.reduceGE, Int.reduceGT, Nat.reduceLT, trim_keep, under_fn, under_ptr, under_sl, Nat.lt_irrefl, not_lt_add, trim_tail, keepOk, ABlk.vals, Int.cast_ofNat_Int, decide_true, decide_false, List.all_cons, List.all_nil, Nat.zero_mul, Nat.mul_one, Nat.one_mul, rigEach, c61, b61, l61x0, hc, eaq33x0, ebq33x0, aq33x0, bq33x0, hn, w1, hu]
set_option maxHeartbeats 4000000 in
theorem rigDiskN {dev : Int} (h0 : dev ≠ 0) (h1 : dev ≠ 1) : (envL prog).call 33 [.ptr p 0, .int .i64 dev] H = some (.nilPtr, H) := by
 have hc := rig_cells m
 unfold rgCells at hc
 have n0 : ((0 : Int) == dev) = false := by simp; exact fun h => h0 h.symm
 have n1 : ((1 : Int) == dev) = false := by simp; exact fun h => h1 h.symm
 have w1 : IntKind.i64.wrap (0 + 1) = 1 := by decide
 have w2 : IntKind.i64.wrap (1 + 1) = 2 := by decide
 rw [c33]
 unfold b33
 simp -implicitDefEqProofs (maxSteps := 5000000) only [go_sem, Nat.reduceShiftRight, Nat.reduceAnd, Nat.reduceBNe, Int.reduceEq, Nat.reduceAdd, Nat.reduceSub, Nat.reduceMul, Nat.reduceLeDiff, reduceIte, reduceCtorEq, Nat.reduceBEq, Nat.reduceEqDiff, wrap64, loop_run, runC_loop, runC_range, callF_fn, callV_fn, callV_yld, yield_eq, yieldBody, yieldRaw, roundMid, roundEnd, rangeEnd, Bool.not_not, put_cons, put_nil, trim_same, at_zero, at_add, set_zero, set_add, store_one, write_zero, write_add, write_head, write_succ, splice_one, splice_more, List.drop_nil, List.take_nil, cell_int, cell_bool, fillS, splice_one, idxA, Ex.isNormal, List.set_nil, List.length_set, List.all_cons, List.all_nil, Bool.and_self, and_self, true_and, and_true, List.getElem?_nil, Int.reduceLT, Int.reduceLE, Int.reduceToNat, Int.toNat_zero, Int.toNat_one, Int.reduceAdd, Int.reduceSub, Int.reduceMul, Int.reduceNeg, Int.reduceBEq, Int.reduceBNe, Int.reduceGE, Int.reduceGT, Nat.reduceLT, trim_keep, under_fn, under_ptr, under_sl, Nat.lt_irrefl, not_lt_add, trim_tail, keepOk, ABlk.vals, Int.cast_ofNat_Int, decide_true, decide_false, List.all_cons, List.all_nil, Nat.zero_mul, Nat.mul_one, Nat.one_mul, rigEach, c61, b61, l61x0, hc, eaq33x0, ebq33x0, aq33x0, bq33x0, n0, n1, w1, w2]
theorem rigDev (dev : Int) : (∃ q d L, (envL prog).call 33 [.ptr p 0, .int .i64 dev] H = some (.ptr q 0, H) ∧ DK H q d c L ∧ L.map (·.2) = r.dk dev ∧ (dev = 0 ∨ dev = 1)) ∨ ((envL prog).call 33 [.ptr p 0, .int .i64 dev] H = some (.nilPtr, H) ∧ r.dk dev = [] ∧ dev ≠ 0 ∧ dev ≠ 1) := by
 by_cases h0 : dev = 0
 ·subst h0
  exact .inl ⟨p0, d0, L0, rigDisk0 m, m.k0, m.e0, .inl rfl⟩
 ·by_cases h1 : dev = 1
  ·subst h1
   exact .inl ⟨p1, d1, L1, rigDisk1 m, m.k1, m.e1, .inr rfl⟩
  ·exact .inr ⟨rigDiskN m h0 h1, by unfold RgS.dk; rw [if_neg h0, if_neg h1], h0, h1⟩
theorem rigLenC (dev : Int) : (envL prog).call 49 [.ptr p 0, .int .i64 dev] H = some (.int .i64 ((r.dk dev).length : Int), H) := by
 rw [c49]
 unfold b49
 rcases rigDev m dev with ⟨q, d, L, e, k, hl, _⟩ | ⟨e, hl, _⟩
 ·have c1 := diskLenC k
  rw [← hl, List.length_map]
  simp -implicitDefEqProofs (maxSteps := 5000000) only [go_sem, Nat.reduceShiftRight, Nat.reduceAnd, Nat.reduceBNe, Int.reduceEq, Nat.reduceAdd, Nat.reduceSub, Nat.reduceMul, Nat.reduceLeDiff, reduceIte, reduceCtorEq, Nat.reduceBEq, Nat.reduceEqDiff, e, c1]
 ·have c1 := diskLenN H
  rw [hl]
  simp -implicitDefEqProofs (maxSteps := 5000000) only [go_sem, Nat.reduceShiftRight, Nat.reduceAnd, Nat.reduceBNe, Int.reduceEq, Nat.reduceAdd, Nat.reduceSub, Nat.reduceMul, Nat.reduceLeDiff, reduceIte, reduceCtorEq, Nat.reduceBEq, Nat.reduceEqDiff, e, c1]
  rfl
theorem rigArmC (n : Int) : RG (H.set p (.rw (rgCells p0 p1 (r.arm n)))) p p0 d0 p1 d1 c L0 L1 (r.arm n) ∧ (envL prog).call 27 [.ptr p 0, .int .i64 n] H = some (.tup [], H.set p (.rw (rgCells p0 p1 (r.arm n)))) := by
 refine ⟨m.set _ rfl rfl, ?_⟩
 have hc := cells_rw m.blk
 have w : writeN H p 2 [.int .i64 (r.arm n).fuse] = some (H.set p (.rw (rgCells p0 p1 (r.arm n)))) := by
  rw [write_of m.blk, if_pos ⟨by simp [rgCells], rfl⟩, splice_one]; rfl
 have t : trim H (some (.tup [], H.set p (.rw (rgCells p0 p1 (r.arm n))))) = some (.tup [], H.set p (.rw (rgCells p0 p1 (r.arm n)))) := trim_same (by simp)
 generalize H.set p (.rw (rgCells p0 p1 (r.arm n))) = G at *
 unfold RgS.arm at w
 unfold rgCells at hc
 rw [c27]
 unfold b27
 simp -implicitDefEqProofs (maxSteps := 5000000) only [go_sem, Nat.reduceShiftRight, Nat.reduceAnd, Nat.reduceBNe, Int.reduceEq, Nat.reduceAdd, Nat.reduceSub, Nat.reduceMul, Nat.reduceLeDiff, reduceIte, reduceCtorEq, Nat.reduceBEq, Nat.reduceEqDiff, hc, store_one, w, t]
set_option maxHeartbeats 1000000 in
theorem rigPassC : RG (H.set p (.rw (rgCells p0 p1 r.pass.1))) p p0 d0 p1 d1 c L0 L1 r.pass.1 ∧ (envL prog).call 36 [.ptr p 0] H = some (.int .i64 r.pass.2, H.set p (.rw (rgCells p0 p1 r.pass.1))) := by
 have ab : r.pass.1.a = r.a ∧ r.pass.1.b = r.b := by unfold RgS.pass; split <;> exact ⟨rfl, rfl⟩
 refine ⟨m.set _ ab.1 ab.2, ?_⟩
 obtain ⟨a, b, fuse, down, done⟩ := r
 have hp := lt_of_at m.blk
 have hc := cells_rw m.blk
 have t : ∀ R, trim H (some (.int .i64 (RgS.pass ⟨a, b, fuse, down, done⟩).2, H.set p R)) = some (.int .i64 (RgS.pass ⟨a, b, fuse, down, done⟩).2, H.set p R) := fun R => trim_same (by simp)
 have w : ∀ (G : AHeap) f dn k, G[p]? = some (.rw [.ptr p0 0, .ptr p1 0, .int .i64 f, .bool dn, .int .i64 k]) → (∀ x, writeN G p 2 [.int .i64 x] = some (G.set p (.rw [.ptr p0 0, .ptr p1 0, .int .i64 x, .bool dn, .int .i64 k]))) ∧ (∀ x, writeN G p 3 [.bool x] = some (G.set p (.rw [.ptr p0 0, .ptr p1 0, .int .i64 f, .bool x, .int .i64 k]))) ∧ (∀ x, writeN G p 4 [.int .i64 x] = some (G.set p (.rw [.ptr p0 0, .ptr p1 0, .int .i64 f, .bool dn, .int .i64 x]))) := by
  intro G f dn k h
  refine ⟨fun x => ?_, fun x => ?_, fun x => ?_⟩ <;> (rw [write_of h, if_pos ⟨by simp, rfl⟩, splice_one]; rfl)
 obtain ⟨w2, w3, w4⟩ := w H fuse down done m.blk
 have at2 : ∀ cs, cellsOf (H.set p (.rw cs)) p = some cs := fun cs => cells_rw (at_set _ _ _ hp)
 have v : ∀ f dn k, _ := fun f dn k => w (H.set p (.rw [.ptr p0 0, .ptr p1 0, .int .i64 f, .bool dn, .int .i64 k])) f dn k (at_set _ _ _ hp)
 have v4 := fun f dn k => (v f dn k).2.2
 unfold rgCells at *
 rw [c36]
 unfold b36
 by_cases hf : fuse = 0
 ·subst hf
  have e : RgS.pass ⟨a, b, 0, down, done⟩ = (⟨a, b, 0, true, done⟩, 14) := by unfold RgS.pass; rw [if_pos (.inr rfl)]
  rw [e] at t ⊢
  simp -implicitDefEqProofs (maxSteps := 5000000) only [go_sem, Nat.reduceShiftRight, Nat.reduceAnd, Nat.reduceBNe, Int.reduceEq, Nat.reduceAdd, Nat.reduceSub, Nat.reduceMul, Nat.reduceLeDiff, reduceIte, reduceCtorEq, Nat.reduceBEq, Nat.reduceEqDiff, hc, store_one, w3, at2, t]
 ·have f1 : (fuse == 0) = false := by simp [hf]
  cases down with
  | true =>
   have e : RgS.pass ⟨a, b, fuse, true, done⟩ = (⟨a, b, fuse, true, done⟩, 14) := by unfold RgS.pass; rw [if_pos (.inl rfl)]
   rw [e] at t ⊢
   have same : H.set p (.rw [.ptr p0 0, .ptr p1 0, .int .i64 fuse, .bool true, .int .i64 done]) = H := by
    apply List.ext_getElem?; intro i
    by_cases ei : i = p
    ·subst ei; rw [List.getElem?_set_self hp, m.blk]; rfl
    ·rw [List.getElem?_set_ne (fun q => ei q.symm)]
   have t2 : trim H (some (.int .i64 14, H)) = some (.int .i64 14, H) := trim_same rfl
   rw [same]
   simp -implicitDefEqProofs (maxSteps := 5000000) only [go_sem, Nat.reduceShiftRight, Nat.reduceAnd, Nat.reduceBNe, Int.reduceEq, Nat.reduceAdd, Nat.reduceSub, Nat.reduceMul, Nat.reduceLeDiff, reduceIte, reduceCtorEq, Nat.reduceBEq, Nat.reduceEqDiff, hc, f1, t2]
  | false =>
   by_cases hg : fuse > 0
   ·have d1 := decide_eq_true hg
    have e : RgS.pass ⟨a, b, fuse, false, done⟩ = (⟨a, b, IntKind.i64.wrap (fuse - 1), false, IntKind.i64.wrap (done + 1)⟩, 0) := by
     unfold RgS.pass; rw [if_neg (by simp [hf])]; simp [hg]
    rw [e] at t ⊢
    simp -implicitDefEqProofs (maxSteps := 5000000) only [go_sem, Nat.reduceShiftRight, Nat.reduceAnd, Nat.reduceBNe, Int.reduceEq, Nat.reduceAdd, Nat.reduceSub, Nat.reduceMul, Nat.reduceLeDiff, reduceIte, reduceCtorEq, Nat.reduceBEq, Nat.reduceEqDiff, hc, f1, d1, store_one, w2, at2, v4, List.set_set, t]
   ·have d1 := decide_eq_false hg
    have e : RgS.pass ⟨a, b, fuse, false, done⟩ = (⟨a, b, fuse, false, IntKind.i64.wrap (done + 1)⟩, 0) := by
     unfold RgS.pass; rw [if_neg (by simp [hf])]; simp [hg]
    rw [e] at t ⊢
    simp -implicitDefEqProofs (maxSteps := 5000000) only [go_sem, Nat.reduceShiftRight, Nat.reduceAnd, Nat.reduceBNe, Int.reduceEq, Nat.reduceAdd, Nat.reduceSub, Nat.reduceMul, Nat.reduceLeDiff, reduceIte, reduceCtorEq, Nat.reduceBEq, Nat.reduceEqDiff, hc, f1, d1, store_one, w4, at2, t]
end
end Go.Proofs.Ytipedaadjfhdnaa.G06
end
section
namespace Go.Proofs.Ytipedaadjfhdnaa.G06
open Go Go.Proofs.Ytipedaadjfhdnaa.Eng
section
variable {H : AHeap} {p p0 d0 p1 d1 c : Nat} {L0 L1 : List (AV × Sec)} {r : RgS} (m : RG H p p0 d0 p1 d1 c L0 L1 r)
include m
set_option maxHeartbeats 4000000 in
theorem rigReadC (dev i : Int) : (envL prog).call 15 [.ptr p 0, .int .i64 dev, .int .i64 i] H = some (.tup [.agg (u8s (r.read dev i).1), .int .i64 (r.read dev i).2], H) := by
 have hcc := fun B => rig_cells m B
 unfold rgCells at hcc
 have z0 : splice (rep 64 (.int .u8 0)) 0 (rep 64 (.int .u8 0)) = rep 64 (.int .u8 0) := splice_rep _ 64 _ (by omega) (rep_len _ _)
 have zc := rep_cell 64 (.int .u8 0) rfl
 have zt := rep_take 64 (.int .u8 0)
 have zu := rep_under 64 H.length (.int .u8 0) rfl
 have ez : u8s zeros64 = rep 64 (.int .u8 0) := (rep_u8s 64 0).symm
 have rd := fun B => rigDev (m.adds B) dev
 rw [c15]
 unfold b15
 have dl := diskLenN
 by_cases hi : i < 0
 ·have d1 := decide_eq_true hi
  have er : r.read dev i = (zeros64, 1) := by unfold RgS.read; rw [if_neg (by omega)]
  rw [er, ez]
  rcases rd [.rw (rep 64 (.int .u8 0))] with ⟨q, d, L, e, k, hl, _⟩ | ⟨e, hl, _⟩
  ·simp -implicitDefEqProofs (maxSteps := 5000000) only [go_sem, Nat.reduceShiftRight, Nat.reduceAnd, Nat.reduceBNe, Int.reduceEq, Nat.reduceAdd, Nat.reduceSub, Nat.reduceMul, Nat.reduceLeDiff, reduceIte, reduceCtorEq, Nat.reduceBEq, Nat.reduceEqDiff, e, d1, store_one, write_zero, z0, zc, zt, zu, rep_len]
  ·simp -implicitDefEqProofs (maxSteps := 5000000) only [go_sem, Nat.reduceShiftRight, Nat.reduceAnd, Nat.reduceBNe, Int.reduceEq, Nat.reduceAdd, Nat.reduceSub, Nat.reduceMul, Nat.reduceLeDiff, reduceIte, reduceCtorEq, Nat.reduceBEq, Nat.reduceEqDiff, e, d1, store_one, write_zero, z0, zc, zt, zu, rep_len]
 have d1 := decide_eq_false hi
 rcases rd [.rw (rep 64 (.int .u8 0))] with ⟨q, d, L, e, k, hl, _⟩ | ⟨e, hl, _⟩
 ·have c1 := diskLenC k
  have hll : (r.dk dev).length = L.length := by rw [← hl, List.length_map]
  by_cases hx : i < L.length
  ·obtain ⟨n, rfl⟩ : ∃ n : Nat, i = n := ⟨i.toNat, by omega⟩
   have hn : n < L.length := by omega
   have d2 : decide ((n : Int) ≥ (L.length : Int)) = false := decide_eq_false (by omega)
   cases hd : r.down with
   | true =>
    have er : r.read dev (n : Int) = (zeros64, 14) := by unfold RgS.read; rw [if_pos (by omega), hd]; rfl
    rw [er, ez]
    rw [hd] at hcc
    simp -implicitDefEqProofs (maxSteps := 5000000) only [go_sem, Nat.reduceShiftRight, Nat.reduceAnd, Nat.reduceBNe, Int.reduceEq, Nat.reduceAdd, Nat.reduceSub, Nat.reduceMul, Nat.reduceLeDiff, reduceIte, reduceCtorEq, Nat.reduceBEq, Nat.reduceEqDiff, e, c1, d1, d2, hcc, store_one, write_zero, z0, zc, zt, zu, rep_len]
   | false =>
    obtain ⟨x, hx1, hx2⟩ := get_sec hl (n := n) (by omega)
    have er : r.read dev (n : Int) = (x.2.last, 0) := by unfold RgS.read; rw [if_pos (by omega), hd, Int.toNat_natCast, hx2]; rfl
    rw [er]
    rw [hd] at hcc
    have c2 := diskReadC k hx1
    have l64 := (k.vs.at hx1).2.1.last.1
    have w64 : (u8s x.2.last).length = 64 := by rw [u8s_len]; exact l64
    have uc := u8s_cell x.2.last
    have sp := splice_u8 (.int .u8 0) l64 (by omega)
    have tk := u8s_take l64
    have ul := u8s_all x.2.last H.length
    simp -implicitDefEqProofs (maxSteps := 5000000) only [go_sem, Nat.reduceShiftRight, Nat.reduceAnd, Nat.reduceBNe, Int.reduceEq, Nat.reduceAdd, Nat.reduceSub, Nat.reduceMul, Nat.reduceLeDiff, reduceIte, reduceCtorEq, Nat.reduceBEq, Nat.reduceEqDiff, e, c1, c2, d1, d2, hcc, store_one, write_zero, w64, uc, sp, tk, ul, rep_len]
  ·have d2 : decide (i ≥ (L.length : Int)) = true := decide_eq_true (by omega)
   have er : r.read dev i = (zeros64, 1) := by unfold RgS.read; rw [if_neg (by omega)]
   rw [er, ez]
   simp -implicitDefEqProofs (maxSteps := 5000000) only [go_sem, Nat.reduceShiftRight, Nat.reduceAnd, Nat.reduceBNe, Int.reduceEq, Nat.reduceAdd, Nat.reduceSub, Nat.reduceMul, Nat.reduceLeDiff, reduceIte, reduceCtorEq, Nat.reduceBEq, Nat.reduceEqDiff, e, c1, d1, d2, store_one, write_zero, z0, zc, zt, zu, rep_len]
 ·have d2 : decide (i ≥ 0) = true := decide_eq_true (by omega)
  have er : r.read dev i = (zeros64, 1) := by unfold RgS.read; rw [if_neg (by rw [hl]; simp)]
  rw [er, ez]
  simp -implicitDefEqProofs (maxSteps := 5000000) only [go_sem, Nat.reduceShiftRight, Nat.reduceAnd, Nat.reduceBNe, Int.reduceEq, Nat.reduceAdd, Nat.reduceSub, Nat.reduceMul, Nat.reduceLeDiff, reduceIte, reduceCtorEq, Nat.reduceBEq, Nat.reduceEqDiff, e, dl, d1, d2, store_one, write_zero, z0, zc, zt, zu, rep_len]
end
end Go.Proofs.Ytipedaadjfhdnaa.G06
end
section
namespace Go.Proofs.Ytipedaadjfhdnaa.G06
open Go Go.Proofs.Ytipedaadjfhdnaa.Eng
theorem fpD_set {q d : Nat} {L : List (AV × Sec)} {i : Nat} {y : AV × Sec} {b : Nat} (h : fpD q d (L.set i y) b) : fpD q d L b ∨ slb y.1 = some b := by
 rcases h with rfl | rfl | h
 ·exact .inl (.inl rfl)
 ·exact .inl (.inr (.inl rfl))
 ·rcases fpV_set h with h | h
  ·exact .inr h
  ·exact .inl (.inr (.inr h))
section
variable {H : AHeap} {p p0 d0 p1 d1 c : Nat} {L0 L1 : List (AV × Sec)} {r : RgS} (m : RG H p p0 d0 p1 d1 c L0 L1 r)
include m
theorem rigTurnW {dev : Int} {n : Nat} {z : List Int} (hdev : dev = 0 ∨ dev = 1) (hn : n < (r.dk dev).length) (hz : B64 z) (hc : c + 1 ≤ 1000000000) : ∃ q H' L0' L1', (envL prog).call 37 [.ptr q 0, .int .i64 (n : Int), .agg (u8s z)] H = some (.int .i64 0, H') ∧ (envL prog).call 33 [.ptr p 0, .int .i64 dev] H = some (.ptr q 0, H) ∧ RG H' p p0 d0 p1 d1 (c + 1) L0' L1' (r.put dev ((r.dk dev).modify n fun s => ⟨s.there, s.vers ++ [z]⟩)) ∧ Fr H H' (fpR p p0 d0 p1 d1 L0 L1) ∧ (∀ b, fpR p p0 d0 p1 d1 L0' L1' b → fpR p p0 d0 p1 d1 L0 L1 b ∨ H.length ≤ b) ∧
  ∀ G w, (G = p ∨ True) → ∀ K : AHeap, Fr K H (· = p) → (∀ b, fpR p p0 d0 p1 d1 L0 L1 b → b < K.length) → K.length ≤ H.length → RG K p p0 d0 p1 d1 c L0 L1 w → ∀ v : AV, trim K (some (v, H')) = some (v, H') := by
 rcases hdev with rfl | rfl
 ·have hdk : r.dk 0 = r.a := rfl
  rw [hdk] at hn ⊢
  obtain ⟨x, hx, hx2⟩ := get_sec m.e0 hn
  obtain ⟨H', v, k, ⟨b0, hb0, hb1⟩, f, e⟩ := diskWriteC m.k0 hx hz hc
  have fp : ∀ b, (b = d0 ∨ slb x.1 = some b) → fpD p0 d0 L0 b := fun b h => by
   rcases h with rfl | h
   ·exact .inr (.inl rfl)
   ·exact .inr (.inr ⟨x, List.mem_of_getElem? hx, h⟩)
  have t := m.turn0 k f fp (Nat.le_succ _) hc (fun b hb => by
   rcases fpD_set hb with h | h
   ·exact .inl h
   ·rw [hb0] at h; injection h with h; subst h; exact .inr hb1)
  rw [modify_set hx v (fun s => ⟨s.there, s.vers ++ [z]⟩), m.e0] at t
  refine ⟨p0, H', _, _, e, rigDisk0 m, t, f.mono fun b _ hb => .inr (.inl (fp b hb)), fun b hb => ?_, fun _ w _ K fk hk hl mk v' => ?_⟩
  ·rcases hb with rfl | hb | hb
   ·exact .inl (.inl rfl)
   ·rcases fpD_set hb with h | h
    ·exact .inl (.inr (.inl h))
    ·rw [hb0] at h; injection h with h; subst h; exact .inr hb1
   ·exact .inl (.inr (.inr hb))
  ·exact mk.k0.dirty t.k0 (List.mem_of_getElem? (List.getElem?_set_self (List.getElem?_eq_some_iff.1 hx).1)) hb0 (by omega) v'
 ·have hdk : r.dk 1 = r.b := rfl
  rw [hdk] at hn ⊢
  obtain ⟨x, hx, hx2⟩ := get_sec m.e1 hn
  obtain ⟨H', v, k, ⟨b0, hb0, hb1⟩, f, e⟩ := diskWriteC m.k1 hx hz hc
  have fp : ∀ b, (b = d1 ∨ slb x.1 = some b) → fpD p1 d1 L1 b := fun b h => by
   rcases h with rfl | h
   ·exact .inr (.inl rfl)
   ·exact .inr (.inr ⟨x, List.mem_of_getElem? hx, h⟩)
  have t := m.turn1 k f fp (Nat.le_succ _) hc (fun b hb => by
   rcases fpD_set hb with h | h
   ·exact .inl h
   ·rw [hb0] at h; injection h with h; subst h; exact .inr hb1)
  rw [modify_set hx v (fun s => ⟨s.there, s.vers ++ [z]⟩), m.e1] at t
  refine ⟨p1, H', _, _, e, rigDisk1 m, t, f.mono fun b _ hb => .inr (.inr (fp b hb)), fun b hb => ?_, fun _ w _ K fk hk hl mk v' => ?_⟩
  ·rcases hb with rfl | hb | hb
   ·exact .inl (.inl rfl)
   ·exact .inl (.inr (.inl hb))
   ·rcases fpD_set hb with h | h
    ·exact .inl (.inr (.inr h))
    ·rw [hb0] at h; injection h with h; subst h; exact .inr hb1
  ·exact mk.k1.dirty t.k1 (List.mem_of_getElem? (List.getElem?_set_self (List.getElem?_eq_some_iff.1 hx).1)) hb0 (by omega) v'
set_option maxHeartbeats 4000000 in
theorem rigWriteC (dev i : Int) {z : List Int} (hz : B64 z) (hc : c + 1 ≤ 1000000000) : ∃ H' L0' L1', RG H' p p0 d0 p1 d1 (c + 1) L0' L1' (r.write dev i z).1 ∧ Fr H H' (fpR p p0 d0 p1 d1 L0 L1) ∧ (∀ b, fpR p p0 d0 p1 d1 L0' L1' b → fpR p p0 d0 p1 d1 L0 L1 b ∨ H.length ≤ b) ∧
  (envL prog).call 16 [.ptr p 0, .int .i64 dev, .int .i64 i, .agg (u8s z)] H = some (.int .i64 (r.write dev i z).2, H') := by
 have l64 := hz.1
 have w64 : (u8s z).length = 64 := by rw [u8s_len]; exact l64
 have tk := u8s_take l64
 have hp := lt_of_at m.blk
 have m1 := m.adds [.rw (u8s z)]
 have rd := rigDev m1 dev
 have dl := diskLenN
 have nothing (e : r.write dev i z = (r, 1)) (hcall : (envL prog).call 16 [.ptr p 0, .int .i64 dev, .int .i64 i, .agg (u8s z)] H = some (.int .i64 1, H)) : ∃ H' L0' L1', RG H' p p0 d0 p1 d1 (c + 1) L0' L1' (r.write dev i z).1 ∧ Fr H H' (fpR p p0 d0 p1 d1 L0 L1) ∧ (∀ b, fpR p p0 d0 p1 d1 L0' L1' b → fpR p p0 d0 p1 d1 L0 L1 b ∨ H.length ≤ b) ∧
   (envL prog).call 16 [.ptr p 0, .int .i64 dev, .int .i64 i, .agg (u8s z)] H = some (.int .i64 (r.write dev i z).2, H') := by
  rw [e]; exact ⟨H, L0, L1, m.up (Nat.le_succ _) hc, Fr.refl _ _, fun b hb => .inl hb, hcall⟩
 by_cases hi : i < 0
 ·have dd1 := decide_eq_true hi
  refine nothing (by unfold RgS.write; rw [if_neg (by omega)]) ?_
  rw [c16]
  unfold b16
  rcases rd with ⟨q, d, L, e, k, hl, _⟩ | ⟨e, hl, _⟩
  ·simp -implicitDefEqProofs (maxSteps := 5000000) only [go_sem, Nat.reduceShiftRight, Nat.reduceAnd, Nat.reduceBNe, Int.reduceEq, Nat.reduceAdd, Nat.reduceSub, Nat.reduceMul, Nat.reduceLeDiff, reduceIte, reduceCtorEq, Nat.reduceBEq, Nat.reduceEqDiff, e, dd1]
  ·simp -implicitDefEqProofs (maxSteps := 5000000) only [go_sem, Nat.reduceShiftRight, Nat.reduceAnd, Nat.reduceBNe, Int.reduceEq, Nat.reduceAdd, Nat.reduceSub, Nat.reduceMul, Nat.reduceLeDiff, reduceIte, reduceCtorEq, Nat.reduceBEq, Nat.reduceEqDiff, e, dd1]
 have dd1 := decide_eq_false hi
 rcases rd with ⟨q, d, L, e, k, hl, hdev⟩ | ⟨e, hl, _⟩
 ·have c1 := diskLenC k
  have hll : (r.dk dev).length = L.length := by rw [← hl, List.length_map]
  by_cases hx : i < L.length
  ·obtain ⟨n, rfl⟩ : ∃ n : Nat, i = n := ⟨i.toNat, by omega⟩
   have hn : n < L.length := by omega
   have d2 : decide ((n : Int) ≥ (L.length : Int)) = false := decide_eq_false (by omega)
   obtain ⟨mp, cp⟩ := rigPassC m1
   have e1 : (H ++ [ABlk.rw (u8s z)]).set p (.rw (rgCells p0 p1 r.pass.1)) = H.set p (.rw (rgCells p0 p1 r.pass.1)) ++ [.rw (u8s z)] := set_app _ hp
   rw [e1] at mp cp
   have mH := m.set r.pass.1 (by unfold RgS.pass; split <;> rfl) (by unfold RgS.pass; split <;> rfl)
   by_cases hq : r.pass.2 = 0
   ·have hpa : r.pass.1.dk dev = r.dk dev := by
     have : r.pass.1.a = r.a ∧ r.pass.1.b = r.b := by unfold RgS.pass; split <;> exact ⟨rfl, rfl⟩
     unfold RgS.dk; rw [this.1, this.2]
    obtain ⟨q2, H', L0', L1', ew, ed, mt, ft, fn, dirty⟩ := rigTurnW mp hdev (n := n) (by rw [hpa]; omega) hz hc
    have eq2 : q2 = q := by
     have := (rigDev mp dev)
     have hdk := rigDev mp dev
     rcases hdev with rfl | rfl
     ·have a1 := rigDisk0 m1
      have a2 := rigDisk0 mp
      rw [e] at a1; rw [ed] at a2
      simp only [Option.some.injEq, Prod.mk.injEq, AV.ptr.injEq, and_true] at a1 a2
      rw [a1, a2]
     ·have a1 := rigDisk1 m1
      have a2 := rigDisk1 mp
      rw [e] at a1; rw [ed] at a2
      simp only [Option.some.injEq, Prod.mk.injEq, AV.ptr.injEq, and_true] at a1 a2
      rw [a1, a2]
    subst eq2
    have er : r.write dev (n : Int) z = (r.pass.1.put dev ((r.pass.1.dk dev).modify n fun s => ⟨s.there, s.vers ++ [z]⟩), 0) := by
     unfold RgS.write; rw [if_pos (by omega), if_pos hq, hpa]; simp
    rw [er]
    have f0 : Fr H (H.set p (.rw (rgCells p0 p1 r.pass.1)) ++ [.rw (u8s z)]) (fpR p p0 d0 p1 d1 L0 L1) :=
     (Fr.set H (.rw (rgCells p0 p1 r.pass.1)) (F := fpR p p0 d0 p1 d1 L0 L1) (.inl rfl)).trans (Fr.adds ⟨_, rfl⟩ (fun _ => False)) (fun _ _ h => h.elim)
    have tr := dirty 0 r (.inr trivial) H (by
     refine ⟨by simp, fun b hb hn => ?_⟩
     rw [List.getElem?_append_left (by simpa using hb), at_set_ne _ _ _ _ hn]) (fun b hb => m.lt hb) (by simp) m
    refine ⟨H', L0', L1', mt, f0.trans ft (fun b _ h => h), fun b hb => ?_, ?_⟩
    ·rcases fn b hb with h | h
     ·exact .inl h
     ·have hl9 : (H.set p (.rw (rgCells p0 p1 r.pass.1)) ++ [ABlk.rw (u8s z)]).length = H.length + 1 := by simp
      exact .inr (by omega)
    ·have hq2 : (r.pass.2 != 0) = false := by simp [hq]
     rw [hq] at cp
     have n0 : ((0 : Int) != 0) = false := rfl
     have hbx : cellsOf (H.set p (.rw (rgCells p0 p1 r.pass.1)) ++ [ABlk.rw (u8s z)]) H.length = some (u8s z) := by
      unfold cellsOf
      rw [List.getElem?_append_right (by simp)]; simp
     rw [c16]
     unfold b16
     simp -implicitDefEqProofs (maxSteps := 5000000) only [go_sem, Nat.reduceShiftRight, Nat.reduceAnd, Nat.reduceBNe, Int.reduceEq, Nat.reduceAdd, Nat.reduceSub, Nat.reduceMul, Nat.reduceLeDiff, reduceIte, reduceCtorEq, Nat.reduceBEq, Nat.reduceEqDiff, e, c1, dd1, d2, cp, n0, hbx, w64, tk, ew, tr]
   ·have er : r.write dev (n : Int) z = r.pass := by unfold RgS.write; rw [if_pos (by omega), if_neg hq]
    rw [er]
    have hq2 : (r.pass.2 != 0) = true := by simp [hq]
    have hl2 : (H.set p (.rw (rgCells p0 p1 r.pass.1))).length = H.length := by simp
    have tr : trim H (some (.int .i64 r.pass.2, H.set p (.rw (rgCells p0 p1 r.pass.1)) ++ [ABlk.rw (u8s z)])) = some (.int .i64 r.pass.2, H.set p (.rw (rgCells p0 p1 r.pass.1))) := by
     rw [trim_take (by rw [List.length_append, hl2]; omega) rfl (fun b k' hb hk => ?_)]
     ·rw [← hl2, List.take_left]
     ·rw [List.getElem?_append_left (by omega)] at hk
      by_cases eb : b = p
      ·subst eb
       rw [at_set _ _ _ hp] at hk
       injection hk with hk; subst hk
       refine .inr fun a ha => ?_
       have h0 := lt_of_cells m.k0.ptr
       have h1 := lt_of_cells m.k1.ptr
       simp only [ABlk.vals, rgCells, List.mem_cons, List.not_mem_nil, or_false] at ha
       rcases ha with rfl | rfl | rfl | rfl | rfl <;> simp [AV.under, h0, h1]
      ·rw [at_set_ne _ _ _ _ eb] at hk; exact .inl hk
    refine ⟨_, L0, L1, mH.up (Nat.le_succ _) hc, Fr.set _ _ (.inl rfl), fun b hb => .inl hb, ?_⟩
    rw [c16]
    unfold b16
    simp -implicitDefEqProofs (maxSteps := 5000000) only [go_sem, Nat.reduceShiftRight, Nat.reduceAnd, Nat.reduceBNe, Int.reduceEq, Nat.reduceAdd, Nat.reduceSub, Nat.reduceMul, Nat.reduceLeDiff, reduceIte, reduceCtorEq, Nat.reduceBEq, Nat.reduceEqDiff, e, c1, dd1, d2, cp, hq2, tr]
  ·have d2 : decide (i ≥ (L.length : Int)) = true := decide_eq_true (by omega)
   refine nothing (by unfold RgS.write; rw [if_neg (by omega)]) ?_
   rw [c16]
   unfold b16
   simp -implicitDefEqProofs (maxSteps := 5000000) only [go_sem, Nat.reduceShiftRight, Nat.reduceAnd, Nat.reduceBNe, Int.reduceEq, Nat.reduceAdd, Nat.reduceSub, Nat.reduceMul, Nat.reduceLeDiff, reduceIte, reduceCtorEq, Nat.reduceBEq, Nat.reduceEqDiff, e, c1, dd1, d2]
 ·have d2 : decide (i ≥ 0) = true := decide_eq_true (by omega)
  refine nothing (by unfold RgS.write; rw [if_neg (by rw [hl]; simp)]) ?_
  rw [c16]
  unfold b16
  simp -implicitDefEqProofs (maxSteps := 5000000) only [go_sem, Nat.reduceShiftRight, Nat.reduceAnd, Nat.reduceBNe, Int.reduceEq, Nat.reduceAdd, Nat.reduceSub, Nat.reduceMul, Nat.reduceLeDiff, reduceIte, reduceCtorEq, Nat.reduceBEq, Nat.reduceEqDiff, e, dl, dd1, d2]
end
end Go.Proofs.Ytipedaadjfhdnaa.G06
end
section
namespace Go.Proofs.Ytipedaadjfhdnaa.G06
open Go Go.Proofs.Ytipedaadjfhdnaa.Eng
theorem fpD_nil {q d : Nat} {L L' : List (AV × Sec)} (h : ∀ x ∈ L', slb x.1 = none) {b : Nat} (hb : fpD q d L' b) : fpD q d L b := by
 rcases hb with rfl | rfl | ⟨x, hx, hb⟩
 ·exact .inl rfl
 ·exact .inr (.inl rfl)
 ·rw [h x hx] at hb; cases hb
section
variable {H : AHeap} {p p0 d0 p1 d1 c : Nat} {L0 L1 : List (AV × Sec)} {r : RgS} (m : RG H p p0 d0 p1 d1 c L0 L1 r)
include m
theorem rigTurnF {dev : Int} (hdev : dev = 0 ∨ dev = 1) : ∃ q H' L0' L1', (envL prog).call 53 [.ptr q 0] H = some (.int .i64 0, H') ∧ (envL prog).call 33 [.ptr p 0, .int .i64 dev] H = some (.ptr q 0, H) ∧ RG H' p p0 d0 p1 d1 c L0' L1' (r.put dev ((r.dk dev).map settled)) ∧ Fr H H' (fpR p p0 d0 p1 d1 L0 L1) ∧ H'.length = H.length ∧ (∀ b, fpR p p0 d0 p1 d1 L0' L1' b → fpR p p0 d0 p1 d1 L0 L1 b) := by
 have em : ∀ L : List (AV × Sec), (L.map flX).map (·.2) = (L.map (·.2)).map settled := fun L => by simp only [List.map_map]; rfl
 have nn : ∀ L : List (AV × Sec), ∀ x ∈ L.map flX, slb x.1 = none := fun L x hx => by obtain ⟨y, _, rfl⟩ := List.mem_map.1 hx; rfl
 rcases hdev with rfl | rfl
 ·obtain ⟨H', k, kk, e⟩ := diskFlushC m.k0
  have t := m.turn0 k (Fr.keep kk) (fun b h => by simp at h; subst h; exact .inr (.inl rfl)) (Nat.le_refl _) m.k0.vs.cb (fun b hb => .inl (fpD_nil (nn _) hb))
  rw [em, m.e0] at t
  refine ⟨p0, H', _, _, e, rigDisk0 m, t, (Fr.keep kk).mono fun b _ hb => ?_, kk.1, fun b hb => ?_⟩
  ·simp at hb; subst hb; exact .inr (.inl (.inr (.inl rfl)))
  ·rcases hb with rfl | hb | hb
   ·exact .inl rfl
   ·exact .inr (.inl (fpD_nil (nn _) hb))
   ·exact .inr (.inr hb)
 ·obtain ⟨H', k, kk, e⟩ := diskFlushC m.k1
  have t := m.turn1 k (Fr.keep kk) (fun b h => by simp at h; subst h; exact .inr (.inl rfl)) (Nat.le_refl _) m.k1.vs.cb (fun b hb => .inl (fpD_nil (nn _) hb))
  rw [em, m.e1] at t
  refine ⟨p1, H', _, _, e, rigDisk1 m, t, (Fr.keep kk).mono fun b _ hb => ?_, kk.1, fun b hb => ?_⟩
  ·simp at hb; subst hb; exact .inr (.inr (.inr (.inl rfl)))
  ·rcases hb with rfl | hb | hb
   ·exact .inl rfl
   ·exact .inr (.inl hb)
   ·exact .inr (.inr (fpD_nil (nn _) hb))
set_option maxHeartbeats 4000000 in
theorem rigFlushC (dev : Int) : ∃ H' L0' L1', RG H' p p0 d0 p1 d1 c L0' L1' (r.flush dev).1 ∧ Fr H H' (fpR p p0 d0 p1 d1 L0 L1) ∧ H'.length = H.length ∧ (∀ b, fpR p p0 d0 p1 d1 L0' L1' b → fpR p p0 d0 p1 d1 L0 L1 b) ∧
  (envL prog).call 31 [.ptr p 0, .int .i64 dev] H = some (.int .i64 (r.flush dev).2, H') := by
 rcases rigDev m dev with ⟨q, d, L, e, k, hl, hdev⟩ | ⟨e, hl, h0, h1⟩
 ·obtain ⟨mp, cp⟩ := rigPassC m
  have lp : (H.set p (.rw (rgCells p0 p1 r.pass.1))).length = H.length := by simp
  have fp : Fr H (H.set p (.rw (rgCells p0 p1 r.pass.1))) (fpR p p0 d0 p1 d1 L0 L1) := Fr.set _ _ (.inl rfl)
  by_cases hq : r.pass.2 = 0
  ·obtain ⟨q2, H', L0', L1', ef, ed, mt, ft, lt, fn⟩ := rigTurnF mp hdev
   have eq2 : q2 = q := by
    rcases hdev with rfl | rfl
    ·have a1 := rigDisk0 m
     have a2 := rigDisk0 mp
     rw [e] at a1; rw [ed] at a2
     simp only [Option.some.injEq, Prod.mk.injEq, AV.ptr.injEq, and_true] at a1 a2
     rw [a1, a2]
    ·have a1 := rigDisk1 m
     have a2 := rigDisk1 mp
     rw [e] at a1; rw [ed] at a2
     simp only [Option.some.injEq, Prod.mk.injEq, AV.ptr.injEq, and_true] at a1 a2
     rw [a1, a2]
   subst eq2
   have hpa : r.pass.1.dk dev = r.dk dev := by
    have : r.pass.1.a = r.a ∧ r.pass.1.b = r.b := by unfold RgS.pass; split <;> exact ⟨rfl, rfl⟩
    unfold RgS.dk; rw [this.1, this.2]
   have er : r.flush dev = (r.pass.1.put dev ((r.pass.1.dk dev).map settled), 0) := by unfold RgS.flush; rw [if_pos hdev, if_pos hq, hpa]
   rw [er]
   refine ⟨H', L0', L1', mt, fp.trans ft (fun b _ h => h), by rw [lt, lp], fn, ?_⟩
   have tr : trim H (some (.int .i64 0, H')) = some (.int .i64 0, H') := trim_same (by rw [lt, lp])
   rw [hq] at cp
   have n0 : ((0 : Int) != 0) = false := rfl
   rw [c31]
   unfold b31
   simp -implicitDefEqProofs (maxSteps := 5000000) only [go_sem, Nat.reduceShiftRight, Nat.reduceAnd, Nat.reduceBNe, Int.reduceEq, Nat.reduceAdd, Nat.reduceSub, Nat.reduceMul, Nat.reduceLeDiff, reduceIte, reduceCtorEq, Nat.reduceBEq, Nat.reduceEqDiff, e, cp, n0, ef, tr]
  ·have er : r.flush dev = r.pass := by unfold RgS.flush; rw [if_pos hdev, if_neg hq]
   rw [er]
   refine ⟨_, L0, L1, mp, fp, lp, fun b h => h, ?_⟩
   have tr : trim H (some (.int .i64 r.pass.2, H.set p (.rw (rgCells p0 p1 r.pass.1)))) = some (.int .i64 r.pass.2, H.set p (.rw (rgCells p0 p1 r.pass.1))) := trim_same lp
   have hq2 : (r.pass.2 != 0) = true := by simp [hq]
   rw [c31]
   unfold b31
   simp -implicitDefEqProofs (maxSteps := 5000000) only [go_sem, Nat.reduceShiftRight, Nat.reduceAnd, Nat.reduceBNe, Int.reduceEq, Nat.reduceAdd, Nat.reduceSub, Nat.reduceMul, Nat.reduceLeDiff, reduceIte, reduceCtorEq, Nat.reduceBEq, Nat.reduceEqDiff, e, cp, hq2, tr]
 ·have er : r.flush dev = (r, 1) := by unfold RgS.flush; rw [if_neg (by omega)]
  rw [er]
  refine ⟨H, L0, L1, m, Fr.refl _ _, rfl, fun b h => h, ?_⟩
  rw [c31]
  unfold b31
  simp -implicitDefEqProofs (maxSteps := 5000000) only [go_sem, Nat.reduceShiftRight, Nat.reduceAnd, Nat.reduceBNe, Int.reduceEq, Nat.reduceAdd, Nat.reduceSub, Nat.reduceMul, Nat.reduceLeDiff, reduceIte, reduceCtorEq, Nat.reduceBEq, Nat.reduceEqDiff, e]
end
theorem eachC {y q p p0 p1 : Nat} {K0 K1 K2 : AHeap} {rest : List AV} (hq : cellsOf K0 q = some [.ptr p 0]) (hp : cellsOf K0 p = some (.ptr p0 0 :: .ptr p1 0 :: rest)) (y0 : (envL prog).yield y [.int .i64 0, .ptr p0 0] K0 = some (.bool true, K1)) (y1 : (envL prog).yield y [.int .i64 1, .ptr p1 0] K1 = some (.bool true, K2)) :
  (envL prog).call 61 [.yld y, .ptr q 0] K0 = trim K0 (some (.tup [], K2)) := by
 have w1 : IntKind.i64.wrap 1 = 1 := by decide
 have w2 : IntKind.i64.wrap 2 = 2 := by decide
 have h2 : (2 ≤ rest.length + 1 + 1) = True := by simp
 rw [c61]
 unfold b61
 simp -implicitDefEqProofs (maxSteps := 5000000) only [go_sem, Nat.reduceShiftRight, Nat.reduceAnd, Nat.reduceBNe, Int.reduceEq, Nat.reduceAdd, Nat.reduceSub, Nat.reduceMul, Nat.reduceLeDiff, reduceIte, reduceCtorEq, Nat.reduceBEq, Nat.reduceEqDiff, loop_run, runC_loop, callV_yld, idxA, Int.reduceLT, Int.reduceLE, Int.reduceToNat, Int.toNat_zero, Int.toNat_one, Nat.reduceLT, Nat.zero_mul, Nat.mul_one, Nat.one_mul, Int.reduceAdd, Int.cast_ofNat_Int, seqR_exit', l61x0, hq, hp, y0, y1, w1, w2, h2]
set_option maxHeartbeats 4000000 in
theorem crashYield {G : AHeap} {q d c p : Nat} {L : List (AV × Sec)} (k : DK G q d c L) {v0 v1 v : AV} {zs : List Int} {dev : Nat} (hv : [v0, v1][dev]? = some v) (b : BS G v zs) (hu : IsU8 zs) (hl : LenOk v) (hvb : ∀ b, slb v = some b → b < G.length ∧ b ≠ d) (hvc : cellsA v = some [v]) {t : T} (ht : t.length = 29) (h6 : getT t 6 = .ptr G.length 0) :
  (envL prog).yield (G.length + 2) [.int .i64 (dev : Int), .ptr q 0] (G ++ [.rw [v0, v1], .rw [.ptr p 0], .loop ⟨.ready, .normal, t, [14, 15], kaq22x0, kbq22x0⟩]) = some (.bool true, setD G d ((crashS (L.map (·.2)) zs).map (fun s => (AV.nilSl, s))) ++ [.rw [v0, v1], .rw [.ptr p 0], .loop ⟨.ready, .normal, t, [14, 15], kaq22x0, kbq22x0⟩]) := by
 have hd := lt_of_at k.blk
 have hdev : dev < 2 := (List.getElem?_eq_some_iff.1 hv).1
 have e1 : (G ++ [ABlk.rw [v0, v1], .rw [.ptr p 0], .loop ⟨.ready, .normal, t, [14, 15], kaq22x0, kbq22x0⟩]).set (G.length + 2) (.loop ⟨.busy, .normal, t, [14, 15], kaq22x0, kbq22x0⟩) = G ++ [.rw [v0, v1], .rw [.ptr p 0], .loop ⟨.busy, .normal, t, [14, 15], kaq22x0, kbq22x0⟩] := by
  rw [List.set_append_right _ _ (by omega)]; simp
 obtain ⟨H', dk, kk, e⟩ := diskCrashC (H := G ++ [.rw [v0, v1], .rw [.ptr p 0], .loop ⟨.busy, .normal, t, [14, 15], kaq22x0, kbq22x0⟩]) (k.fr (Fr.adds ⟨_, rfl⟩ (fun _ => False)) (fun _ _ h => h)) (b.mono _) hu hl (fun b hb => ⟨by have := (hvb b hb).1; simp; omega, (hvb b hb).2⟩) hvc
 have eH := keep_eq kk dk.blk
 rw [set_app _ hd] at eH
 subst eH
 have cc : ∀ (x : ABlk), cellsOf (G ++ [.rw [v0, v1], .rw [.ptr p 0], x]) G.length = some [v0, v1] := fun x => by unfold cellsOf; simp
 have hix : idxAddrA 2 1 (.ptr G.length 0) (.int .i64 (dev : Int)) = some (.ptr G.length dev) := by
  rw [idx_arr, if_pos ⟨by omega, by omega⟩]; simp
 have st := fun {ex : Ex} {t2 : T} {K2 : AHeap} (hb : runC (envL prog) (bq22x0 (envL prog)) ((((t.set 14 (.int .i64 (dev : Int))).set 15 (.ptr q 0)).set 7 (.int .i64 (dev : Int))).set 8 (.ptr q 0)) (G ++ [.rw [v0, v1], .rw [.ptr p 0], .loop ⟨.busy, .normal, t, [14, 15], kaq22x0, kbq22x0⟩]) = some (ex, t2, K2)) (h2 : K2[G.length + 2]? = some (.loop ⟨.busy, .normal, t, [14, 15], kaq22x0, kbq22x0⟩)) => yield_step (P := prog) (l := G.length + 2) (args := [.int .i64 (dev : Int), .ptr q 0]) (K := G ++ [.rw [v0, v1], .rw [.ptr p 0], .loop ⟨.ready, .normal, t, [14, 15], kaq22x0, kbq22x0⟩]) (eaq22x0 _) (ebq22x0 _) (e0 := .normal) (T0 := t) (ps := [14, 15]) (by rw [List.getElem?_append_right (by omega)]; simp) rfl
  (t1 := (((t.set 14 (.int .i64 (dev : Int))).set 15 (.ptr q 0)).set 7 (.int .i64 (dev : Int))).set 8 (.ptr q 0)) (by
   unfold aq22x0
   simp -implicitDefEqProofs (maxSteps := 5000000) only [go_sem, Nat.reduceShiftRight, Nat.reduceAnd, Nat.reduceBNe, Int.reduceEq, Nat.reduceAdd, Nat.reduceSub, Nat.reduceMul, Nat.reduceLeDiff, reduceIte, reduceCtorEq, Nat.reduceBEq, Nat.reduceEqDiff, putParams, getT_set, ht, List.length_set, Nat.reduceLT]) (by rw [e1]; exact hb) h2
 have ob : Outs (runC (envL prog) (bq22x0 (envL prog)) ((((t.set 14 (.int .i64 (dev : Int))).set 15 (.ptr q 0)).set 7 (.int .i64 (dev : Int))).set 8 (.ptr q 0)) (G ++ [.rw [v0, v1], .rw [.ptr p 0], .loop ⟨.busy, .normal, t, [14, 15], kaq22x0, kbq22x0⟩])) fun e _ K' => e = .normal ∧ K' = G.set d (.rw (((crashS (L.map (·.2)) zs).map (fun s => (AV.nilSl, s))).map secR).flatten) ++ [.rw [v0, v1], .rw [.ptr p 0], .loop ⟨.busy, .normal, t, [14, 15], kaq22x0, kbq22x0⟩] := by
  unfold bq22x0
  simp -implicitDefEqProofs (maxSteps := 5000000) only [go_sem, Nat.reduceShiftRight, Nat.reduceAnd, Nat.reduceBNe, Int.reduceEq, Nat.reduceAdd, Nat.reduceSub, Nat.reduceMul, Nat.reduceLeDiff, reduceIte, reduceCtorEq, Nat.reduceBEq, Nat.reduceEqDiff, getT_set, ht, h6, List.length_set, Nat.reduceLT, hix, cc, hv, e, outs_normal]
 obtain ⟨ex, t2, K2, er, rfl, rfl⟩ := ob
 have hl2 : (G.set d (.rw (((crashS (L.map (·.2)) zs).map (fun s => (AV.nilSl, s))).map secR).flatten)).length = G.length := by simp
 rw [st er (by rw [List.getElem?_append_right (by omega), hl2]; simp)]
 rw [trim_same (by rw [List.length_set, List.length_append, List.length_append, hl2]; rfl), List.set_append_right _ _ (by omega), hl2]
 unfold setD
 simp [Ex.isNormal]
section
variable {H : AHeap} {p p0 d0 p1 d1 c : Nat} {L0 L1 : List (AV × Sec)} {r : RgS} (m : RG H p p0 d0 p1 d1 c L0 L1 r)
include m
set_option maxHeartbeats 4000000 in
theorem rigCrashC {v0 v1 : AV} {z0 z1 : List Int} (b0 : BS H v0 z0) (b1 : BS H v1 z1) (u0 : IsU8 z0) (u1 : IsU8 z1) (l0 : LenOk v0) (l1 : LenOk v1) (n0 : ∀ b, slb v0 = some b → b < H.length ∧ ¬ fpR p p0 d0 p1 d1 L0 L1 b) (n1 : ∀ b, slb v1 = some b → b < H.length ∧ ¬ fpR p p0 d0 p1 d1 L0 L1 b) :
  ∃ H' L0' L1', RG H' p p0 d0 p1 d1 c L0' L1' (r.crash z0 z1) ∧ Fr H H' (fpR p p0 d0 p1 d1 L0 L1) ∧ H'.length = H.length ∧ (∀ b, fpR p p0 d0 p1 d1 L0' L1' b → fpR p p0 d0 p1 d1 L0 L1 b) ∧
   (envL prog).call 22 [.ptr p 0, v0, v1] H = some (.tup [], H') := by
 have hp := lt_of_at m.blk
 have hd0 := lt_of_at m.k0.blk
 have hd1 := lt_of_at m.k1.blk
 have vc : ∀ (v : AV) (z : List Int), BS H v z → cellsA v = some [v] ∧ v.isCell = true := fun v z h => by
  rcases h with ⟨rfl, _⟩ | ⟨_, _, _, _, _, rfl, _⟩ <;> exact ⟨rfl, rfl⟩
 obtain ⟨a0, i0⟩ := vc v0 z0 b0
 obtain ⟨a1, i1⟩ := vc v1 z1 b1
 have em : ∀ (L : List (AV × Sec)) (z : List Int), ((crashS (L.map (·.2)) z).map (fun s => (AV.nilSl, s))).map (·.2) = crashS (L.map (·.2)) z := fun L z => by rw [List.map_map]; exact List.map_id'' (fun _ => rfl) _
 have nn : ∀ (S : List Sec), ∀ x ∈ S.map (fun s => (AV.nilSl, s)), slb x.1 = none := fun S x hx => by obtain ⟨y, _, rfl⟩ := List.mem_map.1 hx; rfl
 obtain ⟨H1, k0', kk0, _⟩ := diskCrashC m.k0 b0 u0 l0 (fun b hb => ⟨(n0 b hb).1, fun e => (n0 b hb).2 (.inr (.inl (.inr (.inl e))))⟩) a0
 have t0 := m.turn0 k0' (Fr.keep kk0) (fun b h => by simp at h; subst h; exact .inr (.inl rfl)) (Nat.le_refl _) m.k0.vs.cb (fun b hb => .inl (fpD_nil (nn _) hb))
 rw [em, m.e0] at t0
 have e1 := keep_eq kk0 k0'.blk
 have lH1 := kk0.1
 have bs1 : BS H1 v1 z1 := BS.fr b1 (Fr.keep kk0) fun b hb hm => by
  simp at hm; subst hm; exact (n1 _ hb).2 (.inr (.inl (.inr (.inl rfl))))
 obtain ⟨H2, k1', kk1, _⟩ := diskCrashC t0.k1 bs1 u1 l1 (fun b hb => ⟨by rw [lH1]; exact (n1 b hb).1, fun e => (n1 b hb).2 (.inr (.inr (.inr (.inl e))))⟩) a1
 have t1 := t0.turn1 k1' (Fr.keep kk1) (fun b h => by simp at h; subst h; exact .inr (.inl rfl)) (Nat.le_refl _) m.k1.vs.cb (fun b hb => .inl (fpD_nil (nn _) hb))
 rw [em, t0.e1] at t1
 have e2 := keep_eq kk1 k1'.blk
 have lH2 := kk1.1
 have t2 := t1.set (r.crash z0 z1) rfl rfl
 have fr : Fr H (H2.set p (.rw (rgCells p0 p1 (r.crash z0 z1)))) (fpR p p0 d0 p1 d1 L0 L1) :=
  (((Fr.keep kk0).mono fun b _ hb => by simp at hb; subst hb; exact .inr (.inl (.inr (.inl rfl)))).trans ((Fr.keep kk1).mono (G := fpR p p0 d0 p1 d1 L0 L1) fun b _ hb => by simp at hb; subst hb; exact .inr (.inr (.inr (.inl rfl)))) (fun b _ h => h)).trans (Fr.set _ _ (F := fpR p p0 d0 p1 d1 L0 L1) (.inl rfl)) (fun b _ h => h)
 have lH3 : (H2.set p (.rw (rgCells p0 p1 (r.crash z0 z1)))).length = H.length := by rw [List.length_set]; omega
 refine ⟨_, _, _, t2, fr, lH3, fun b hb => ?_, ?_⟩
 ·rcases hb with rfl | hb | hb
  ·exact .inl rfl
  ·exact .inr (.inl (fpD_nil (nn _) hb))
  ·exact .inr (.inr (fpD_nil (nn _) hb))
 have it : ∀ t : T, (t.length = 29 ∧ getT t 6 = .ptr H.length 0) → (envL prog).call 61 [.yld (H.length + 2), .ptr (H.length + 1) 0] (H ++ [.rw [v0, v1], .rw [.ptr p 0], .loop ⟨.ready, .normal, t, [14, 15], kaq22x0, kbq22x0⟩]) = some (.tup [], H2 ++ [.rw [v0, v1], .rw [.ptr p 0], .loop ⟨.ready, .normal, t, [14, 15], kaq22x0, kbq22x0⟩]) := by
  rintro T ⟨hT, h6⟩
  have y0 := crashYield (p := p) (v0 := v0) (v1 := v1) (dev := 0) m.k0 rfl b0 u0 l0 (fun b hb => ⟨(n0 b hb).1, fun e => (n0 b hb).2 (.inr (.inl (.inr (.inl e))))⟩) a0 hT h6
  have y1 := crashYield (p := p) (v0 := v0) (v1 := v1) (dev := 1) t0.k1 rfl bs1 u1 l1 (fun b hb => ⟨by rw [lH1]; exact (n1 b hb).1, fun e => (n1 b hb).2 (.inr (.inr (.inr (.inl e))))⟩) a1 hT (by rw [lH1]; exact h6)
  rw [show setD H d0 ((crashS (L0.map (·.2)) z0).map (fun s => (AV.nilSl, s))) = H1 from e1.symm] at y0
  rw [show setD H1 d1 ((crashS (L1.map (·.2)) z1).map (fun s => (AV.nilSl, s))) = H2 from e2.symm, lH1] at y1
  rw [show ((0 : Nat) : Int) = 0 from rfl] at y0
  rw [show ((1 : Nat) : Int) = 1 from rfl] at y1
  rw [eachC (p := p) (rest := [.int .i64 r.fuse, .bool r.down, .int .i64 r.done]) (by unfold cellsOf; simp) (cells_old (cells_rw m.blk)) y0 y1]
  exact trim_same (by rw [List.length_append, List.length_append, lH2, lH1])
 have e3 := fun t h1 h2 => it t ⟨h1, h2⟩
 have er := fun B => rigEach (p := p) (H ++ B)
 have w1 : ∀ B, writeN (H2 ++ B) p 2 [.int .i64 (-1)] = some (H2.set p (.rw (rgCells p0 p1 { r with a := crashS r.a z0, b := crashS r.b z1, fuse := -1 })) ++ B) := fun B => by
  have hb : (H2 ++ B)[p]? = some (.rw (rgCells p0 p1 { r with a := crashS r.a z0, b := crashS r.b z1 })) := by rw [List.getElem?_append_left (by omega)]; exact t1.blk
  rw [write_of hb, if_pos ⟨by simp [rgCells], rfl⟩, splice_one, set_app _ (by omega)]; rfl
 have w2 : ∀ B, writeN (H2.set p (.rw (rgCells p0 p1 { r with a := crashS r.a z0, b := crashS r.b z1, fuse := -1 })) ++ B) p 3 [.bool false] = some (H2.set p (.rw (rgCells p0 p1 (r.crash z0 z1))) ++ B) := fun B => by
  have hb : (H2.set p (.rw (rgCells p0 p1 { r with a := crashS r.a z0, b := crashS r.b z1, fuse := -1 })) ++ B)[p]? = some (.rw (rgCells p0 p1 { r with a := crashS r.a z0, b := crashS r.b z1, fuse := -1 })) := by
   rw [List.getElem?_append_left (by rw [List.length_set]; omega)]; exact at_set _ _ _ (by omega)
  rw [write_of hb, if_pos ⟨by simp [rgCells], rfl⟩, splice_one, set_app _ (by rw [List.length_set]; omega), List.set_set]; rfl
 have l3 : ∀ (x y z : ABlk), (H2 ++ [x, y, z])[H.length + 2]? = some z := fun x y z => by
  rw [← lH1, ← lH2, List.getElem?_append_right (by omega)]; simp
 have l4 : ∀ (x y z k : ABlk), (H2 ++ [x, y, z]).set (H.length + 2) k = H2 ++ [x, y, k] := fun x y z k => by
  rw [← lH1, ← lH2, List.set_append_right _ _ (by omega)]; simp
 have o : Outs (runC (envL prog) (b22 (envL prog)) ([.ptr p 0, v0, v1] ++ List.replicate (29 - [AV.ptr p 0, v0, v1].length) .undef) H) fun e' t K' => (∃ B, K' = H2.set p (.rw (rgCells p0 p1 (r.crash z0 z1))) ++ B) ∧ fin [] (some (e', t, K')) = some (.tup [], K') := by
  unfold b22
  generalize hQ : (fun (e' : Ex) (t : T) (K' : AHeap) => (∃ B, K' = H2.set p (.rw (rgCells p0 p1 (r.crash z0 z1))) ++ B) ∧ fin [] (some (e', t, K')) = some (AV.tup [], K')) = Q
  have hc2 : ([v0, v1] : List AV).all AV.isCell = true := by simp [i0, i1]
  simp -implicitDefEqProofs (maxSteps := 5000000) only [go_sem, Nat.reduceShiftRight, Nat.reduceAnd, Nat.reduceBNe, Int.reduceEq, Nat.reduceAdd, Nat.reduceSub, Nat.reduceMul, Nat.reduceLeDiff, reduceIte, reduceCtorEq, Nat.reduceBEq, Nat.reduceEqDiff, a0, a1, i0, i1, hc2, store_one, write_zero, splice_more, er, runC_range, callF_fn, e3, rangeEnd, l3, l4, w1, w2, outs_normal]
  subst hQ
  refine ⟨⟨_, rfl⟩, ?_⟩
  simp -implicitDefEqProofs (maxSteps := 5000000) only [go_sem, Nat.reduceShiftRight, Nat.reduceAnd, Nat.reduceBNe, Int.reduceEq, Nat.reduceAdd, Nat.reduceSub, Nat.reduceMul, Nat.reduceLeDiff, reduceIte, reduceCtorEq, Nat.reduceBEq, Nat.reduceEqDiff]
 obtain ⟨e', t, K', hr, ⟨B, rfl⟩, hf⟩ := o
 rw [c22, hr, hf, trim_take (by rw [List.length_append]; omega) rfl (fun b k' hb hk => ?_)]
 ·rw [← lH3, List.take_left]
 ·rw [List.getElem?_append_left (by omega)] at hk
  have hlt : ∀ x, x < H.length → AV.under H.length (.ptr x 0) = true := fun x hx => by simp [AV.under, hx]
  by_cases q : b = p
  ·subst q
   rw [t2.blk] at hk
   injection hk with hk; subst hk
   refine .inr fun a ha => ?_
   simp only [ABlk.vals, rgCells, List.mem_cons, List.not_mem_nil, or_false] at ha
   rcases ha with rfl | rfl | rfl | rfl | rfl
   ·exact hlt _ (lt_of_cells m.k0.ptr)
   ·exact hlt _ (lt_of_cells m.k1.ptr)
   ·rfl
   ·rfl
   ·rfl
  ·by_cases q0 : b = d0
   ·subst q0
    rw [t2.k0.blk] at hk
    injection hk with hk; subst hk
    have := secR_under t2.k0.vs
    rw [lH3] at this
    exact .inr this
   ·by_cases q1 : b = d1
    ·subst q1
     rw [t2.k1.blk] at hk
     injection hk with hk; subst hk
     have := secR_under t2.k1.vs
     rw [lH3] at this
     exact .inr this
    ·rw [at_set_ne _ _ _ _ q, kk1.2 b (by simpa using q1), kk0.2 b (by simpa using q0)] at hk
     exact .inl hk
end
end Go.Proofs.Ytipedaadjfhdnaa.G06
end
section
namespace Go.Proofs.Ytipedaadjfhdnaa.G06
open Go Go.Proofs.Ytipedaadjfhdnaa.Eng
def zrow : List AV := u8s (List.replicate 64 0) ++ [.nilSl]
def zdisk (n : Nat) : List AV := (List.replicate n zrow).flatten
def zL (n : Nat) : List (AV × Sec) := List.replicate n (.nilSl, zsec)
theorem zdisk_eq (n : Nat) : zdisk n = ((zL n).map secR).flatten := by unfold zdisk zL; rw [List.map_replicate]; rfl
theorem DK.new {H : AHeap} {p d n c : Nat} (h1 : cellsOf H p = some [.sl d 0 65 n n true]) (h2 : H[d]? = some (.rw (zdisk n))) (np : p ≠ d) (hn : n ≤ 4096) (hc : c ≤ 1000000000) : DK H p d c (zL n) := by
 refine ⟨by rw [h1]; simp [zL], by rw [h2, zdisk_eq], np, by simp [zL]; exact hn, ⟨hc, fun x hx => ?_, fun x hx => ?_, fun x hx => ?_, fun x hx b hb => ?_, fun i j x y hi hj hne b hb => ?_⟩⟩
 all_goals try (have e := (List.mem_replicate.1 hx).2; subst e)
 ·exact .inl ⟨rfl, rfl⟩
 ·exact zsec_ok
 ·exact Nat.zero_le _
 ·cases hb
 ·have e := (List.mem_replicate.1 (List.mem_of_getElem? hi)).2
  subst e; cases hb
theorem fpD_zL {p d n b : Nat} (h : fpD p d (zL n) b) : b = p ∨ b = d := by
 rcases h with h | h | ⟨x, hx, hb⟩
 ·exact .inl h
 ·exact .inr h
 ·have e := (List.mem_replicate.1 hx).2
  subst e; cases hb
set_option maxHeartbeats 1000000 in
theorem diskNewC {n : Nat} (h1 : 1 ≤ n) (h2 : n ≤ 4096) (H : AHeap) : (envL prog).call 32 [.int .i64 (n : Int)] H = some (.tup [.ptr (H.length + 1) 0, .int .i64 0], H ++ [.rw (zdisk n), .rw [.sl H.length 0 65 n n true]]) := by
 have d1 : decide ((n : Int) < 1) = false := decide_eq_false (by omega)
 have d2 : decide ((n : Int) > 4096) = false := decide_eq_false (by omega)
 have mk : ∀ G : AHeap, makeSliceV (ty 65 true 88 (rep 64 (.int .u8 0) ++ [.nilSl])) (.int .i64 (n : Int)) (.int .i64 (n : Int)) G = some (.sl G.length 0 65 n n true, G ++ [.rw (zdisk n)]) := fun G => by
  rw [make_rows 65 88 n true _ (by omega) (by omega) (by unfold roomy; omega), rep_u8s]; rfl
 rw [c32]
 unfold b32
 simp -implicitDefEqProofs (maxSteps := 5000000) only [go_sem, Nat.reduceShiftRight, Nat.reduceAnd, Nat.reduceBNe, Int.reduceEq, Nat.reduceAdd, Nat.reduceSub, Nat.reduceMul, Nat.reduceLeDiff, reduceIte, reduceCtorEq, Nat.reduceBEq, Nat.reduceEqDiff, d1, d2, mk]
 exact trim_keep (by simp [AV.under, underAll])
def newRg (n0 n1 : Nat) : RgS := ⟨List.replicate n0 zsec, List.replicate n1 zsec, -1, false, 0⟩
set_option maxHeartbeats 2000000 in
theorem rigNewC {n0 n1 : Nat} (a1 : 1 ≤ n0) (a2 : n0 ≤ 4096) (b1 : 1 ≤ n1) (b2 : n1 ≤ 4096) (H : AHeap) : ∃ H', RG H' H.length (H.length + 2) (H.length + 1) (H.length + 4) (H.length + 3) 0 (zL n0) (zL n1) (newRg n0 n1) ∧ Adds H H' ∧ (envL prog).call 11 [.int .i64 (n0 : Int), .int .i64 (n1 : Int)] H = some (.tup [.ptr H.length 0, .int .i64 0], H') := by
 have c0 := fun B => diskNewC a1 a2 (H ++ B)
 have c1 := fun B => diskNewC b1 b2 (H ++ B)
 have w1 : IntKind.i64.wrap 1 = 1 := by decide
 have w2 : IntKind.i64.wrap 2 = 2 := by decide
 have n00 : ((0 : Int) != 0) = false := rfl
 refine ⟨H ++ [.rw [.ptr (H.length + 2) 0, .ptr (H.length + 4) 0, .int .i64 (-1), .bool false, .int .i64 0], .rw (zdisk n0), .rw [.sl (H.length + 1) 0 65 n0 n0 true], .rw (zdisk n1), .rw [.sl (H.length + 3) 0 65 n1 n1 true]], ?_, ⟨_, rfl⟩, ?_⟩
 ·refine ⟨by simp [rgCells, newRg], DK.new (by unfold cellsOf; simp) (by simp) (by omega) a2 (by omega), DK.new (by unfold cellsOf; simp) (by simp) (by omega) b2 (by omega), by simp [zL, newRg], by simp [zL, newRg], fun b hb hb2 => ?_, fun hb => ?_, fun hb => ?_⟩
  ·have := fpD_zL hb
   have := fpD_zL hb2
   omega
  ·have := fpD_zL hb; omega
  ·have := fpD_zL hb; omega
 ·rw [c11]
  unfold b11
  simp -implicitDefEqProofs (maxSteps := 5000000) only [go_sem, Nat.reduceShiftRight, Nat.reduceAnd, Nat.reduceBNe, Int.reduceEq, Nat.reduceAdd, Nat.reduceSub, Nat.reduceMul, Nat.reduceLeDiff, reduceIte, reduceCtorEq, Nat.reduceBEq, Nat.reduceEqDiff, loop_run, runC_loop, idxA, idx_arr, Int.reduceLT, Int.reduceLE, Int.reduceToNat, Int.toNat_zero, Int.toNat_one, Nat.reduceLT, Nat.zero_mul, Nat.mul_one, Nat.one_mul, Int.reduceAdd, Int.cast_ofNat_Int, seqR_exit', store_one, write_zero, write_add, write_head, List.all_cons, List.all_nil, Bool.and_self, l11x0, c0, c1, w1, w2, n00]
  exact trim_keep (by simp [AV.under, underAll])
end Go.Proofs.Ytipedaadjfhdnaa.G06
end
section
namespace Go.Proofs.Ytipedaadjfhdnaa.G06
open Go Go.Proofs.Ytipedaadjfhdnaa.Eng
structure LI (h0 H : AHeap) (p c : Nat) (r : RgS) (F : Nat → Prop) : Prop where
 m : RigIn H p c r F
 old : Adds h0 H
 out : ∀ b, F b → h0.length ≤ b
section
variable {h0 H : AHeap} {p c : Nat} {r : RgS} {F : Nat → Prop} (l : LI h0 H p c r F)
include l
theorem LI.step {H' : AHeap} {c' : Nat} {r' : RgS} {F' : Nat → Prop} (m' : RigIn H' p c' r' F') (s : RStep H F H' F') : LI h0 H' p c' r' F' := by
 have hl := l.old.len
 exact ⟨m', s.1.old l.old fun b hb hf => (by have := l.out b hf; omega), fun b hb => (s.2 b hb).elim (l.out b) fun h => by omega⟩
theorem LI.adds (B : AHeap) : LI h0 (H ++ B) p c r F := ⟨l.m.adds B, l.old.trans ⟨B, rfl⟩, l.out⟩
end
section
variable {H : AHeap} {p c : Nat} {r : RgS} {F : Nat → Prop} (m : RigIn H p c r F)
include m
theorem rinRead (dev i : Int) : (envL prog).call 15 [.ptr p 0, .int .i64 dev, .int .i64 i] H = some (.tup [.agg (u8s (r.read dev i).1), .int .i64 (r.read dev i).2], H) := by
 obtain ⟨p0, d0, p1, d1, L0, L1, m, _, _⟩ := m
 exact rigReadC m dev i
theorem rinLen (dev : Int) : (envL prog).call 49 [.ptr p 0, .int .i64 dev] H = some (.int .i64 ((r.dk dev).length : Int), H) := by
 obtain ⟨p0, d0, p1, d1, L0, L1, m, _, _⟩ := m
 exact rigLenC m dev
theorem rinArm (n : Int) : ∃ H', RigIn H' p c (r.arm n) F ∧ RStep H F H' F ∧ (envL prog).call 27 [.ptr p 0, .int .i64 n] H = some (.tup [], H') := by
 obtain ⟨p0, d0, p1, d1, L0, L1, m, h1, h2⟩ := m
 obtain ⟨m', e⟩ := rigArmC m n
 exact ⟨_, ⟨p0, d0, p1, d1, L0, L1, m', h1, fun b hb => by rw [List.length_set]; exact h2 b hb⟩, ⟨Fr.set _ _ (h1 p (.inl rfl)), fun b hb => .inl hb⟩, e⟩
theorem rinCrash {v0 v1 : AV} {z0 z1 : List Int} (b0 : BS H v0 z0) (b1 : BS H v1 z1) (u0 : IsU8 z0) (u1 : IsU8 z1) (l0 : LenOk v0) (l1 : LenOk v1) (n0 : ∀ b, slb v0 = some b → b < H.length ∧ ¬ F b) (n1 : ∀ b, slb v1 = some b → b < H.length ∧ ¬ F b) :
  ∃ H', RigIn H' p c (r.crash z0 z1) F ∧ RStep H F H' F ∧ H'.length = H.length ∧ (envL prog).call 22 [.ptr p 0, v0, v1] H = some (.tup [], H') := by
 obtain ⟨p0, d0, p1, d1, L0, L1, m, h1, h2⟩ := m
 obtain ⟨H', L0', L1', m', f, hl, n, e⟩ := rigCrashC m b0 b1 u0 u1 l0 l1 (fun b hb => ⟨(n0 b hb).1, fun h => (n0 b hb).2 (h1 b h)⟩) (fun b hb => ⟨(n1 b hb).1, fun h => (n1 b hb).2 (h1 b h)⟩)
 exact ⟨H', ⟨p0, d0, p1, d1, L0', L1', m', fun b hb => h1 b (n b hb), fun b hb => by rw [hl]; exact h2 b hb⟩, ⟨f.mono fun b _ hb => h1 b hb, fun b hb => .inl hb⟩, hl, e⟩
end
theorem rinNew {n0 n1 : Nat} (a1 : 1 ≤ n0) (a2 : n0 ≤ 4096) (b1 : 1 ≤ n1) (b2 : n1 ≤ 4096) (H : AHeap) : ∃ H' F, LI H H' H.length 0 (newRg n0 n1) F ∧ (envL prog).call 11 [.int .i64 (n0 : Int), .int .i64 (n1 : Int)] H = some (.tup [.ptr H.length 0, .int .i64 0], H') := by
 obtain ⟨H', m, a, e⟩ := rigNewC a1 a2 b1 b2 H
 refine ⟨H', fun b => H.length ≤ b ∧ b < H'.length, ⟨⟨_, _, _, _, _, _, m, fun b hb => ⟨?_, m.lt hb⟩, fun b hb => hb.2⟩, a, fun b hb => hb.1⟩, e⟩
 rcases hb with rfl | hb | hb
 ·exact Nat.le_refl _
 ·have := fpD_zL hb; omega
 ·have := fpD_zL hb; omega
theorem RigIn.up {H : AHeap} {p c c' : Nat} {r : RgS} {F : Nat → Prop} (m : RigIn H p c r F) (h : c ≤ c') (hb : c' ≤ 1000000000) : RigIn H p c' r F := by
 obtain ⟨p0, d0, p1, d1, L0, L1, m, h1, h2⟩ := m
 exact ⟨p0, d0, p1, d1, L0, L1, m.up h hb, h1, h2⟩
end Go.Proofs.Ytipedaadjfhdnaa.G06
end
section
namespace Go.Proofs.Ytipedaadjfhdnaa.G06
open Go Go.Proofs.Ytipedaadjfhdnaa.Eng
theorem rep_zero (v : AV) : rep 0 v = [] := rfl
theorem splice_set (cs : List AV) (off : Nat) (v : AV) : splice cs off [v] = cs.set off v := rfl
end Go.Proofs.Ytipedaadjfhdnaa.G06
end
