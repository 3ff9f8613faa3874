/- What the functions that PoolFrees reaches answer, for every argument. No condition but those in each statement. -/
import Derived.Test.YtfioahnogphnfaaGRB
set_option linter.unusedSimpArgs false
set_option linter.unusedVariables false
set_option linter.unusedSectionVars false
set_option maxRecDepth 10000
section
namespace Go.Proofs.Ytfioahnogphnfaa.G12
open Go Go.Proofs.Ytfioahnogphnfaa.Eng
noncomputable abbrev LS (l : Env → CT) := (envL prog).loop (runC (envX prog XS) (l (envX prog XS)))
def atsL (L : List SnS) : List Int := (L.map fun s => s.tb.map (·.2)).flatten
def planL (P : List PrS) : List Int := (P.filter fun p => p.2 != 255).map (·.2)
theorem atsL_cons (s : SnS) (L : List SnS) : atsL (s :: L) = s.tb.map (·.2) ++ atsL L := rfl
theorem planL_len (P : List PrS) : (planL P).length ≤ P.length := by
 unfold planL; rw [List.length_map]; exact List.length_filter_le _ _
theorem atsL_len : ∀ {L : List SnS}, (∀ s ∈ L, s.tb.length ≤ 1000) → (atsL L).length ≤ 1000 * L.length
 | [], _ => by simp [atsL]
 | s :: L, h => by
  have := atsL_len (L := L) fun x hx => h x (by simp [hx])
  have := h s (by simp)
  rw [atsL_cons, List.length_append, List.length_map, List.length_cons]; omega
theorem is_end {H K : AHeap} {w : AV} {zs : List Int} (a : Adds H K) (g : IS K w zs) (wb : ∀ b, slb w = some b → H.length ≤ b) : ∃ K', trim H (some (w, K)) = some (w, K') ∧ Adds H K' ∧ IS K' w zs := by
 rcases trim_adds (v := w) a with e | ⟨u, e⟩
 ·exact ⟨K, e, a, g⟩
 ·refine ⟨H, e, Adds.refl H, ?_⟩
  rcases g with g | ⟨b, o, l, ex, cs, rfl, _⟩
  ·exact .inl g
  ·have := wb b rfl
   have := slb_under u rfl
   omega
section
variable {H : AHeap} {s : SnS} {vt : AV} (pt : IsP H vt s.tb) (lt : s.tb.length ≤ 1000)
include pt lt
set_option maxHeartbeats 4000000 in
theorem usedL0 (x0 x1 x2 x4 x5 x6 x8 x9 x10 x11 x12 x13 x14 x15 x16 x17 x30 x31 x32 x33 x34 x35 x36 x37 x38 x39 x40 x41 x42 x43 x44 x45 x46 x47 x48 x49 x50 x51 : AV) : ∀ (m j : Nat) (K : AHeap) (w : AV) (acc : List Int) (j7 j21 j22 j23 j24 j25 j26 j27 j28 j29 : AV), Adds H K → FS K H.length w acc → acc.length + m ≤ 1000000 → j + m = s.tb.length →
  Outs (LS l8x0 [x0, x1, x2, w, x4, x5, x6, j7, x8, x9, x10, x11, x12, x13, x14, x15, x16, x17, vt, .int .i64 (s.tb.length : Int), .int .i64 (j : Int), j21, j22, j23, j24, j25, j26, j27, j28, j29, x30, x31, x32, x33, x34, x35, x36, x37, x38, x39, x40, x41, x42, x43, x44, x45, x46, x47, x48, x49, x50, x51] K) fun e t K' => e = .exit 2 ∧ Adds H K' ∧ ∃ fv : Nat → AV, t = [x0, x1, x2, (fv 3), x4, x5, x6, (fv 7), x8, x9, x10, x11, x12, x13, x14, x15, x16, x17, vt, .int .i64 (s.tb.length : Int), (fv 20), (fv 21), (fv 22), (fv 23), (fv 24), (fv 25), (fv 26), (fv 27), (fv 28), (fv 29), x30, x31, x32, x33, x34, x35, x36, x37, x38, x39, x40, x41, x42, x43, x44, x45, x46, x47, x48, x49, x50, x51] ∧ FS K' H.length (fv 3) (acc ++ (s.tb.drop j).map (·.2)) := by
 intro m
 obtain ⟨L0, hL0⟩ : ∃ L, L = LS l8x0 := ⟨_, rfl⟩
 have lo := loop_open hL0
 rw [← hL0]
 induction m with
 | zero =>
  intro j K w acc j7 j21 j22 j23 j24 j25 j26 j27 j28 j29 aK g al hj
  obtain rfl : j = s.tb.length := by omega
  have hd : decide ((s.tb.length : Int) < (s.tb.length : Int)) = false := by simp
  rw [List.drop_length, List.map_nil, List.append_nil, lo]
  unfold l8x0
  simp -implicitDefEqProofs (maxSteps := 5000000) only [go_sem, Nat.reduceShiftRight, Nat.reduceAnd, Nat.reduceBNe, Int.reduceEq, Nat.reduceAdd, Nat.reduceSub, Nat.reduceMul, Nat.reduceLeDiff, reduceIte, reduceCtorEq, Nat.reduceBEq, Nat.reduceEqDiff, hd, seqR_exit', outs_normal]
  exact ⟨aK, exF2 rfl g⟩
 | succ m ih =>
  intro j K w acc j7 j21 j22 j23 j24 j25 j26 j27 j28 j29 aK g al hj
  have hlt : j < s.tb.length := by omega
  have hd : decide ((j : Int) < (s.tb.length : Int)) = true := decide_eq_true (by omega)
  have e2 : IntKind.i64.wrap ((j : Int) + 1) = ((j + 1 : Nat) : Int) := by rw [wrap64 (by omega) (by omega)]; omega
  have hx := List.getElem?_eq_getElem hlt
  rw [List.drop_eq_getElem_cons hlt, List.map_cons]
  generalize s.tb[j] = p at *
  obtain ⟨b2, c2, _, ix2, hc0, r1, r2, rt, rle⟩ := pt.idx hx
  have hc2 := aK.cells hc0
  unfold prC at rt
  obtain ⟨K1, hK1⟩ : ∃ K1, K1 = K ++ [ABlk.rw [.int .i64 p.1, .int .i64 p.2]] := ⟨_, rfl⟩
  have A1 : Adds K K1 := ⟨_, hK1⟩
  have cq : cellsOf K1 K.length = some [.int .i64 p.1, .int .i64 p.2] := by rw [hK1]; unfold cellsOf; simp
  obtain ⟨K2, hK2⟩ : ∃ K2, K2 = K1 ++ [ABlk.rw [.int .i64 p.2]] := ⟨_, rfl⟩
  have A2 : Adds K1 K2 := ⟨_, hK2⟩
  have cs2 : cellsOf K2 K1.length = some [.int .i64 p.2] := by rw [hK2]; unfold cellsOf; simp
  obtain ⟨w', K3, ep, f3, fr3, sb3, l3⟩ := FS.push (g.frT (Fr.adds (A1.trans A2) (fun _ => False)) fun _ _ h => h) cs2 (by omega) (by have := aK.len; have := (A1.trans A2).len; omega)
  have a3 : Adds H K3 := fr3.old (aK.trans (A1.trans A2)) fun b hb h => by have := (FS.out g b h).1; omega
  have hK1 := hK1.symm
  have hK2 := hK2.symm
  have key := ih (j + 1) K3 w' (acc ++ [p.2])
  rw [List.append_assoc, List.singleton_append] at key
  rw [lo]
  unfold l8x0
  simp -implicitDefEqProofs (maxSteps := 5000000) only [go_sem, Nat.reduceShiftRight, Nat.reduceAnd, Nat.reduceBNe, Int.reduceEq, Nat.reduceAdd, Nat.reduceSub, Nat.reduceMul, Nat.reduceLeDiff, reduceIte, reduceCtorEq, Nat.reduceBEq, Nat.reduceEqDiff, wrap64, runC_loop, runC_range, callF_fn, callV_fn, callV_yld, yield_eq, yieldBody, yieldRaw, roundMid, roundEnd, rangeEnd, Bool.not_not, put_cons, put_nil, trim_same, at_zero, at_add, set_zero, set_add, store_one, write_zero, write_add, write_head, write_succ, splice_one, splice_more, List.drop_nil, List.take_nil, cell_int, cell_bool, fillS, splice_one, idxA, Ex.isNormal, List.set_nil, List.length_set, List.all_cons, List.all_nil, Bool.and_self, and_self, true_and, and_true, List.getElem?_nil, Int.reduceLT, Int.reduceLE, Int.reduceToNat, Int.toNat_zero, Int.toNat_one, Int.reduceAdd, Int.reduceSub, Int.reduceMul, Int.reduceNeg, Int.reduceBEq, Int.reduceBNe, Int.reduceGE, Int.reduceGT, Nat.reduceLT, trim_keep, under_fn, under_ptr, under_sl, Nat.lt_irrefl, not_lt_add, trim_tail, keepOk, ABlk.vals, Int.cast_ofNat_Int, decide_true, decide_false, List.all_cons, List.all_nil, Nat.zero_mul, Nat.mul_one, Nat.one_mul, hd, ix2, hc2, rt, rle, cellsA_agg, hK1, cq, hK2, ep, e2]
  exact key _ _ _ _ _ _ _ _ _ _ a3 f3 (by rw [List.length_append, List.length_singleton]; omega) (by omega)
end
section
variable {H : AHeap} {v : AV} {L : List SnS} (g : IsC H v L) (fi : Fits L)
include g fi
set_option maxHeartbeats 4000000 in
theorem usedL1 (x0 x1 x2 x4 x6 x8 x9 x10 x31 x32 x33 x34 x35 x36 x37 x38 x39 x40 x41 x42 x43 x44 x45 x46 x47 x48 x49 x50 x51 : AV) : ∀ (m i : Nat) (K : AHeap) (w : AV) (acc : List Int) (j5 j7 j14 j15 j16 j17 j18 j19 j20 j21 j22 j23 j24 j25 j26 j27 j28 j29 j30 : AV), Adds H K → FS K H.length w acc → acc.length ≤ 1000 * i → i + m = L.length →
  Outs (LS l8x1 [x0, x1, x2, w, x4, j5, x6, j7, x8, x9, x10, v, .int .i64 (L.length : Int), .int .i64 (i : Int), j14, j15, j16, j17, j18, j19, j20, j21, j22, j23, j24, j25, j26, j27, j28, j29, j30, x31, x32, x33, x34, x35, x36, x37, x38, x39, x40, x41, x42, x43, x44, x45, x46, x47, x48, x49, x50, x51] K) fun e t K' => e = .exit 0 ∧ Adds H K' ∧ ∃ fv : Nat → AV, t = [x0, x1, x2, (fv 3), x4, (fv 5), x6, (fv 7), x8, x9, x10, v, .int .i64 (L.length : Int), (fv 13), (fv 14), (fv 15), (fv 16), (fv 17), (fv 18), (fv 19), (fv 20), (fv 21), (fv 22), (fv 23), (fv 24), (fv 25), (fv 26), (fv 27), (fv 28), (fv 29), (fv 30), x31, x32, x33, x34, x35, x36, x37, x38, x39, x40, x41, x42, x43, x44, x45, x46, x47, x48, x49, x50, x51] ∧ FS K' H.length (fv 3) (acc ++ atsL (L.drop i)) := by
 intro m
 obtain ⟨L0, hL0⟩ : ∃ L, L = LS l8x1 := ⟨_, rfl⟩
 have lo := loop_open hL0
 have fl := fi.1
 rw [← hL0]
 induction m with
 | zero =>
  intro i K w acc j5 j7 j14 j15 j16 j17 j18 j19 j20 j21 j22 j23 j24 j25 j26 j27 j28 j29 j30 aK gw al hi
  obtain rfl : i = L.length := by omega
  have hd : decide ((L.length : Int) < (L.length : Int)) = false := by simp
  rw [List.drop_length, show atsL [] = [] from rfl, List.append_nil, lo]
  unfold l8x1
  simp -implicitDefEqProofs (maxSteps := 5000000) only [go_sem, Nat.reduceShiftRight, Nat.reduceAnd, Nat.reduceBNe, Int.reduceEq, Nat.reduceAdd, Nat.reduceSub, Nat.reduceMul, Nat.reduceLeDiff, reduceIte, reduceCtorEq, Nat.reduceBEq, Nat.reduceEqDiff, hd, seqR_exit', outs_normal]
  exact ⟨aK, exF2 rfl gw⟩
 | succ m ih =>
  intro i K w acc j5 j7 j14 j15 j16 j17 j18 j19 j20 j21 j22 j23 j24 j25 j26 j27 j28 j29 j30 aK gw al hi
  have hlt : i < L.length := by omega
  have hd : decide ((i : Int) < (L.length : Int)) = true := decide_eq_true (by omega)
  have e2 : IntKind.i64.wrap ((i : Int) + 1) = ((i + 1 : Nat) : Int) := by rw [wrap64 (by omega) (by omega)]; omega
  have hx := List.getElem?_eq_getElem hlt
  have ft := fits_get fi hx
  have lt := ft.lt
  rw [List.drop_eq_getElem_cons hlt, atsL_cons]
  generalize L[i] = s at *
  obtain ⟨bb, cs, vc, vt, sb, ix, hc0, h1, h2, h3, ht, hle, hbs, hip⟩ := g.idx hx
  have hc := aK.cells hc0
  have cc := hbs.cell
  have ct := hip.cell
  have wt := hip.len
  obtain ⟨K1, hK1⟩ : ∃ K1, K1 = K ++ [ABlk.rw [.int .i64 s.id, vc, vt]] := ⟨_, rfl⟩
  have A1 : Adds K K1 := ⟨_, hK1⟩
  have cq : cellsOf K1 K.length = some [.int .i64 s.id, vc, vt] := by rw [hK1]; unfold cellsOf; simp
  have hK1 := hK1.symm
  have l0 := usedL0 (H := H) hip lt (m := s.tb.length) (j := 0) (K := K1) (w := w) (acc := acc)
  rw [show ((0 : Nat) : Int) = 0 from rfl, List.drop_zero] at l0
  rw [lo]
  unfold l8x1
  simp -implicitDefEqProofs (maxSteps := 5000000) only [go_sem, Nat.reduceShiftRight, Nat.reduceAnd, Nat.reduceBNe, Int.reduceEq, Nat.reduceAdd, Nat.reduceSub, Nat.reduceMul, Nat.reduceLeDiff, reduceIte, reduceCtorEq, Nat.reduceBEq, Nat.reduceEqDiff, wrap64, runC_loop, runC_range, callF_fn, callV_fn, callV_yld, yield_eq, yieldBody, yieldRaw, roundMid, roundEnd, rangeEnd, Bool.not_not, put_cons, put_nil, trim_same, at_zero, at_add, set_zero, set_add, store_one, write_zero, write_add, write_head, write_succ, splice_one, splice_more, List.drop_nil, List.take_nil, cell_int, cell_bool, fillS, splice_one, idxA, Ex.isNormal, List.set_nil, List.length_set, List.all_cons, List.all_nil, Bool.and_self, and_self, true_and, and_true, List.getElem?_nil, Int.reduceLT, Int.reduceLE, Int.reduceToNat, Int.toNat_zero, Int.toNat_one, Int.reduceAdd, Int.reduceSub, Int.reduceMul, Int.reduceNeg, Int.reduceBEq, Int.reduceBNe, Int.reduceGE, Int.reduceGT, Nat.reduceLT, trim_keep, under_fn, under_ptr, under_sl, Nat.lt_irrefl, not_lt_add, trim_tail, keepOk, ABlk.vals, Int.cast_ofNat_Int, decide_true, decide_false, List.all_cons, List.all_nil, Nat.zero_mul, Nat.mul_one, Nat.one_mul, runC_loop, x_loop, hd, ix, hc, ht, hle, cellsA_agg, cc.2, ct.2, hK1, cq, wt]
  unfold LS at l0
  generalize (envL prog).loop (runC (envX prog XS) (l8x0 (envX prog XS))) = LL at l0 ⊢
  refine outs_ctx (fun r => seqR (seqR (blockR 1 (blockR 2 r)) _) _) (l0 _ _ _ _ _ _ _ _ _ _ _ _ _ _ _ _ _ _ _ _ _ _ _ _ _ _ _ _ _ _ _ _ _ _ _ _ _ _ _ _ _ _ _ _ _ _ _ _ (aK.trans A1) (gw.frT (Fr.adds A1 (fun _ => False)) fun _ _ h => h) (by omega) (by omega)) ?_
  rintro e t K' ⟨rfl, a1, fv, rfl, g1⟩
  have key := ih (i + 1) K' (fv 3) (acc ++ s.tb.map (·.2))
  rw [List.append_assoc] at key
  simp -implicitDefEqProofs (maxSteps := 5000000) only [go_sem, Nat.reduceShiftRight, Nat.reduceAnd, Nat.reduceBNe, Int.reduceEq, Nat.reduceAdd, Nat.reduceSub, Nat.reduceMul, Nat.reduceLeDiff, reduceIte, reduceCtorEq, Nat.reduceBEq, Nat.reduceEqDiff, wrap64, runC_loop, runC_range, callF_fn, callV_fn, callV_yld, yield_eq, yieldBody, yieldRaw, roundMid, roundEnd, rangeEnd, Bool.not_not, put_cons, put_nil, trim_same, at_zero, at_add, set_zero, set_add, store_one, write_zero, write_add, write_head, write_succ, splice_one, splice_more, List.drop_nil, List.take_nil, cell_int, cell_bool, fillS, splice_one, idxA, Ex.isNormal, List.set_nil, List.length_set, List.all_cons, List.all_nil, Bool.and_self, and_self, true_and, and_true, List.getElem?_nil, Int.reduceLT, Int.reduceLE, Int.reduceToNat, Int.toNat_zero, Int.toNat_one, Int.reduceAdd, Int.reduceSub, Int.reduceMul, Int.reduceNeg, Int.reduceBEq, Int.reduceBNe, Int.reduceGE, Int.reduceGT, Nat.reduceLT, trim_keep, under_fn, under_ptr, under_sl, Nat.lt_irrefl, not_lt_add, trim_tail, keepOk, ABlk.vals, Int.cast_ofNat_Int, decide_true, decide_false, List.all_cons, List.all_nil, Nat.zero_mul, Nat.mul_one, Nat.one_mul, e2]
  exact key _ _ _ _ _ _ _ _ _ _ _ _ _ _ _ _ _ _ _ a1 g1 (by rw [List.length_append, List.length_map]; omega) (by omega)
end
section
variable {H : AHeap} {v : AV} {P : List PrS} (g : IsP H v P) (lp : P.length ≤ 1000)
include g lp
set_option maxHeartbeats 4000000 in
theorem usedL2 (x0 x1 x2 x4 x5 x6 x7 x8 x10 x11 x12 x13 x14 x15 x16 x17 x18 x19 x20 x21 x22 x23 x24 x25 x26 x27 x28 x29 x30 x31 x32 x48 x49 x50 x51 : AV) : ∀ (m i : Nat) (K : AHeap) (w : AV) (acc : List Int) (j9 j36 j37 j38 j39 j40 j41 j42 j43 j44 j45 j46 j47 : AV), Adds H K → FS K H.length w acc → acc.length + m ≤ 1000000 → i + m = P.length →
  Outs (LS l8x2 [x0, x1, x2, w, x4, x5, x6, x7, x8, j9, x10, x11, x12, x13, x14, x15, x16, x17, x18, x19, x20, x21, x22, x23, x24, x25, x26, x27, x28, x29, x30, x31, x32, v, .int .i64 (P.length : Int), .int .i64 (i : Int), j36, j37, j38, j39, j40, j41, j42, j43, j44, j45, j46, j47, x48, x49, x50, x51] K) fun e t K' => e = .exit 4 ∧ Adds H K' ∧ ∃ fv : Nat → AV, t = [x0, x1, x2, (fv 3), x4, x5, x6, x7, x8, (fv 9), x10, x11, x12, x13, x14, x15, x16, x17, x18, x19, x20, x21, x22, x23, x24, x25, x26, x27, x28, x29, x30, x31, x32, v, .int .i64 (P.length : Int), (fv 35), (fv 36), (fv 37), (fv 38), (fv 39), (fv 40), (fv 41), (fv 42), (fv 43), (fv 44), (fv 45), (fv 46), (fv 47), x48, x49, x50, x51] ∧ FS K' H.length (fv 3) (acc ++ planL (P.drop i)) := by
 intro m
 obtain ⟨L0, hL0⟩ : ∃ L, L = LS l8x2 := ⟨_, rfl⟩
 have lo := loop_open hL0
 rw [← hL0]
 induction m with
 | zero =>
  intro i K w acc j9 j36 j37 j38 j39 j40 j41 j42 j43 j44 j45 j46 j47 aK gw al hi
  obtain rfl : i = P.length := by omega
  have hd : decide ((P.length : Int) < (P.length : Int)) = false := by simp
  rw [List.drop_length, show planL [] = [] from rfl, List.append_nil, lo]
  unfold l8x2
  simp -implicitDefEqProofs (maxSteps := 5000000) only [go_sem, Nat.reduceShiftRight, Nat.reduceAnd, Nat.reduceBNe, Int.reduceEq, Nat.reduceAdd, Nat.reduceSub, Nat.reduceMul, Nat.reduceLeDiff, reduceIte, reduceCtorEq, Nat.reduceBEq, Nat.reduceEqDiff, hd, seqR_exit', outs_normal]
  exact ⟨aK, exF2 rfl gw⟩
 | succ m ih =>
  intro i K w acc j9 j36 j37 j38 j39 j40 j41 j42 j43 j44 j45 j46 j47 aK gw al hi
  have hlt : i < P.length := by omega
  have hd : decide ((i : Int) < (P.length : Int)) = true := decide_eq_true (by omega)
  have e2 : IntKind.i64.wrap ((i : Int) + 1) = ((i + 1 : Nat) : Int) := by rw [wrap64 (by omega) (by omega)]; omega
  have hx := List.getElem?_eq_getElem hlt
  rw [List.drop_eq_getElem_cons hlt]
  generalize P[i] = p at *
  have hpl : planL (p :: P.drop (i + 1)) = (if p.2 = 255 then [] else [p.2]) ++ planL (P.drop (i + 1)) := by
   unfold planL
   rw [List.filter_cons]
   by_cases h : p.2 = 255
   ·rw [if_neg (by simp [h]), if_pos h]; rfl
   ·rw [if_pos (by simp [h]), if_neg h]; rfl
  rw [hpl]
  obtain ⟨b2, c2, _, ix2, hc0, r1, r2, rt, rle⟩ := g.idx hx
  have hc2 := aK.cells hc0
  unfold prC at rt
  obtain ⟨K1, hK1⟩ : ∃ K1, K1 = K ++ [ABlk.rw [.int .i64 p.1, .int .i64 p.2]] := ⟨_, rfl⟩
  have A1 : Adds K K1 := ⟨_, hK1⟩
  have cq : cellsOf K1 K.length = some [.int .i64 p.1, .int .i64 p.2] := by rw [hK1]; unfold cellsOf; simp
  have gw1 : FS K1 H.length w acc := gw.frT (Fr.adds A1 (fun _ => False)) fun _ _ h => h
  have hK1' := hK1.symm
  by_cases h : p.2 = 255
  ·have nn : (p.2 != 255) = false := by simp [h]
   rw [if_pos h, List.nil_append]
   rw [lo]
   unfold l8x2
   simp -implicitDefEqProofs (maxSteps := 5000000) only [go_sem, Nat.reduceShiftRight, Nat.reduceAnd, Nat.reduceBNe, Int.reduceEq, Nat.reduceAdd, Nat.reduceSub, Nat.reduceMul, Nat.reduceLeDiff, reduceIte, reduceCtorEq, Nat.reduceBEq, Nat.reduceEqDiff, wrap64, runC_loop, runC_range, callF_fn, callV_fn, callV_yld, yield_eq, yieldBody, yieldRaw, roundMid, roundEnd, rangeEnd, Bool.not_not, put_cons, put_nil, trim_same, at_zero, at_add, set_zero, set_add, store_one, write_zero, write_add, write_head, write_succ, splice_one, splice_more, List.drop_nil, List.take_nil, cell_int, cell_bool, fillS, splice_one, idxA, Ex.isNormal, List.set_nil, List.length_set, List.all_cons, List.all_nil, Bool.and_self, and_self, true_and, and_true, List.getElem?_nil, Int.reduceLT, Int.reduceLE, Int.reduceToNat, Int.toNat_zero, Int.toNat_one, Int.reduceAdd, Int.reduceSub, Int.reduceMul, Int.reduceNeg, Int.reduceBEq, Int.reduceBNe, Int.reduceGE, Int.reduceGT, Nat.reduceLT, trim_keep, under_fn, under_ptr, under_sl, Nat.lt_irrefl, not_lt_add, trim_tail, keepOk, ABlk.vals, Int.cast_ofNat_Int, decide_true, decide_false, List.all_cons, List.all_nil, Nat.zero_mul, Nat.mul_one, Nat.one_mul, hd, ix2, hc2, rt, rle, cellsA_agg, hK1', cq, nn, e2]
   exact ih (i + 1) K1 w acc _ _ _ _ _ _ _ _ _ _ _ _ _ (aK.trans A1) gw1 (by omega) (by omega)
  ·have nn : (p.2 != 255) = true := by simp [h]
   rw [if_neg h]
   obtain ⟨K2, hK2⟩ : ∃ K2, K2 = K1 ++ [ABlk.rw [.int .i64 p.2]] := ⟨_, rfl⟩
   have A2 : Adds K1 K2 := ⟨_, hK2⟩
   have cs2 : cellsOf K2 K1.length = some [.int .i64 p.2] := by rw [hK2]; unfold cellsOf; simp
   obtain ⟨w', K3, ep, f3, fr3, sb3, l3⟩ := FS.push (gw.frT (Fr.adds (A1.trans A2) (fun _ => False)) fun _ _ h => h) cs2 (by omega) (by have := aK.len; have := (A1.trans A2).len; omega)
   have a3 : Adds H K3 := fr3.old (aK.trans (A1.trans A2)) fun b hb h => by have := (FS.out gw b h).1; omega
   have hK2 := hK2.symm
   rw [lo]
   unfold l8x2
   simp -implicitDefEqProofs (maxSteps := 5000000) only [go_sem, Nat.reduceShiftRight, Nat.reduceAnd, Nat.reduceBNe, Int.reduceEq, Nat.reduceAdd, Nat.reduceSub, Nat.reduceMul, Nat.reduceLeDiff, reduceIte, reduceCtorEq, Nat.reduceBEq, Nat.reduceEqDiff, wrap64, runC_loop, runC_range, callF_fn, callV_fn, callV_yld, yield_eq, yieldBody, yieldRaw, roundMid, roundEnd, rangeEnd, Bool.not_not, put_cons, put_nil, trim_same, at_zero, at_add, set_zero, set_add, store_one, write_zero, write_add, write_head, write_succ, splice_one, splice_more, List.drop_nil, List.take_nil, cell_int, cell_bool, fillS, splice_one, idxA, Ex.isNormal, List.set_nil, List.length_set, List.all_cons, List.all_nil, Bool.and_self, and_self, true_and, and_true, List.getElem?_nil, Int.reduceLT, Int.reduceLE, Int.reduceToNat, Int.toNat_zero, Int.toNat_one, Int.reduceAdd, Int.reduceSub, Int.reduceMul, Int.reduceNeg, Int.reduceBEq, Int.reduceBNe, Int.reduceGE, Int.reduceGT, Nat.reduceLT, trim_keep, under_fn, under_ptr, under_sl, Nat.lt_irrefl, not_lt_add, trim_tail, keepOk, ABlk.vals, Int.cast_ofNat_Int, decide_true, decide_false, List.all_cons, List.all_nil, Nat.zero_mul, Nat.mul_one, Nat.one_mul, hd, ix2, hc2, rt, rle, cellsA_agg, hK1', cq, nn, hK2, ep, e2]
   have key := ih (i + 1) K3 w' (acc ++ [p.2])
   rw [List.append_assoc, List.singleton_append] at key
   exact key _ _ _ _ _ _ _ _ _ _ _ _ _ a3 f3 (by rw [List.length_append, List.length_singleton]; omega) (by omega)
end
structure SA (H : AHeap) (cs : List AV) (L : List SnS) (P : List PrS) : Prop where
 ex : ∃ vd vs nx kd pd vp, cs = [vd, vs, .int .i64 nx, .int .i64 kd, .int .i64 pd, vp] ∧ IsC H vs L ∧ IsP H vp P ∧ cellsA vd = some [vd] ∧ vd.isCell = true
 fi : Fits L
 lp : P.length ≤ 1000
theorem SA.adds {H H' : AHeap} {cs : List AV} {L : List SnS} {P : List PrS} (s : SA H cs L P) (a : Adds H H') : SA H' cs L P := by
 obtain ⟨⟨vd, vs, nx, kd, pd, vp, e, h1, h2, h3⟩, h4, h5⟩ := s
 exact ⟨⟨vd, vs, nx, kd, pd, vp, e, h1.adds a, h2.adds a, h3⟩, h4, h5⟩
def usedS (L : List SnS) (P : List PrS) : List Int := usd (atsL L ++ planL P)
set_option maxHeartbeats 8000000 in
theorem usedC {H : AHeap} {cs : List AV} {L : List SnS} {P : List PrS} (s : SA H cs L P) : ∃ v' K, callBody prog (envX prog XS) 8 [.agg cs] H = some (v', K) ∧ Adds H K ∧ IS K v' (usedS L P) ∧ ∀ b, slb v' = some b → H.length ≤ b := by
 obtain ⟨⟨vd, vs, nx, kd, pd, vp, rfl, gs, gp, cd⟩, fi, lp⟩ := s
 obtain ⟨H1, hH1⟩ : ∃ K, K = H ++ [ABlk.rw [vd, vs, .int .i64 nx, .int .i64 kd, .int .i64 pd, vp]] := ⟨_, rfl⟩
 have A1 : Adds H H1 := ⟨_, hH1⟩
 have c1 : cellsOf H1 H.length = some [vd, vs, .int .i64 nx, .int .i64 kd, .int .i64 pd, vp] := by rw [hH1]; unfold cellsOf; simp
 have g1 := gs.adds A1
 have p1 := gp.adds A1
 have ws := g1.len
 have wp := p1.len
 have cs1 := gs.cell
 have cp1 := gp.cell
 have fl := fi.1
 have al := atsL_len (L := L) fun x hx => (fi.2 x hx).lt
 have l1 := usedL1 g1 fi (m := L.length) (i := 0) (K := H1) (w := .nilSl) (acc := [])
 rw [show ((0 : Nat) : Int) = 0 from rfl, List.drop_zero, List.nil_append] at l1
 have hH1' := hH1.symm
 have key : Outs (runC (envX prog XS) (b8 (envX prog XS)) ([.agg [vd, vs, .int .i64 nx, .int .i64 kd, .int .i64 pd, vp]] ++ List.replicate (52 - [AV.agg [vd, vs, .int .i64 nx, .int .i64 kd, .int .i64 pd, vp]].length) .undef) H) fun e' t K => ∃ w, Adds H K ∧ IS K w (usedS L P) ∧ (∀ b, slb w = some b → H.length ≤ b) ∧ fin [.tmp 2] (some (e', t, K)) = some (w, K) := by
  unfold b8
  generalize hQ : (fun (e' : Ex) (t : T) (K : AHeap) => ∃ w, Adds H K ∧ IS K w (usedS L P) ∧ (∀ b, slb w = some b → H.length ≤ b) ∧ fin [.tmp 2] (some (e', t, K)) = some (w, K)) = Q
  simp -implicitDefEqProofs (maxSteps := 5000000) only [go_sem, Nat.reduceShiftRight, Nat.reduceAnd, Nat.reduceBNe, Int.reduceEq, Nat.reduceAdd, Nat.reduceSub, Nat.reduceMul, Nat.reduceLeDiff, reduceIte, reduceCtorEq, Nat.reduceBEq, Nat.reduceEqDiff, wrap64, runC_loop, runC_range, callF_fn, callV_fn, callV_yld, yield_eq, yieldBody, yieldRaw, roundMid, roundEnd, rangeEnd, Bool.not_not, put_cons, put_nil, trim_same, at_zero, at_add, set_zero, set_add, store_one, write_zero, write_add, write_head, write_succ, splice_one, splice_more, List.drop_nil, List.take_nil, cell_int, cell_bool, fillS, splice_one, idxA, Ex.isNormal, List.set_nil, List.length_set, List.all_cons, List.all_nil, Bool.and_self, and_self, true_and, and_true, List.getElem?_nil, Int.reduceLT, Int.reduceLE, Int.reduceToNat, Int.toNat_zero, Int.toNat_one, Int.reduceAdd, Int.reduceSub, Int.reduceMul, Int.reduceNeg, Int.reduceBEq, Int.reduceBNe, Int.reduceGE, Int.reduceGT, Nat.reduceLT, trim_keep, under_fn, under_ptr, under_sl, Nat.lt_irrefl, not_lt_add, trim_tail, keepOk, ABlk.vals, Int.cast_ofNat_Int, decide_true, decide_false, List.all_cons, List.all_nil, Nat.zero_mul, Nat.mul_one, Nat.one_mul, runC_loop, x_loop, cellsA_agg, cd.2, cs1.2, cp1.2, hH1', c1, ws]
  unfold LS at l1
  generalize (envL prog).loop (runC (envX prog XS) (l8x1 (envX prog XS))) = LL at l1 ⊢
  refine outs_ctx (fun r => seqR (blockR 0 r) _) (l1 _ _ _ _ _ _ _ _ _ _ _ _ _ _ _ _ _ _ _ _ _ _ _ _ _ _ _ _ _ _ _ _ _ _ _ _ _ _ _ _ _ _ _ _ _ _ _ _ (Adds.refl H1) (.inl ⟨rfl, rfl⟩) (by simp) (by omega)) ?_
  rintro e t K2 ⟨rfl, A2, fv, rfl, f2⟩
  have c2 := A2.cells c1
  have l2 := usedL2 (H := H1) p1 lp (m := P.length) (i := 0) (K := K2) (w := fv 3) (acc := atsL L)
  rw [show ((0 : Nat) : Int) = 0 from rfl, List.drop_zero] at l2
  simp -implicitDefEqProofs (maxSteps := 5000000) only [go_sem, Nat.reduceShiftRight, Nat.reduceAnd, Nat.reduceBNe, Int.reduceEq, Nat.reduceAdd, Nat.reduceSub, Nat.reduceMul, Nat.reduceLeDiff, reduceIte, reduceCtorEq, Nat.reduceBEq, Nat.reduceEqDiff, wrap64, runC_loop, runC_range, callF_fn, callV_fn, callV_yld, yield_eq, yieldBody, yieldRaw, roundMid, roundEnd, rangeEnd, Bool.not_not, put_cons, put_nil, trim_same, at_zero, at_add, set_zero, set_add, store_one, write_zero, write_add, write_head, write_succ, splice_one, splice_more, List.drop_nil, List.take_nil, cell_int, cell_bool, fillS, splice_one, idxA, Ex.isNormal, List.set_nil, List.length_set, List.all_cons, List.all_nil, Bool.and_self, and_self, true_and, and_true, List.getElem?_nil, Int.reduceLT, Int.reduceLE, Int.reduceToNat, Int.toNat_zero, Int.toNat_one, Int.reduceAdd, Int.reduceSub, Int.reduceMul, Int.reduceNeg, Int.reduceBEq, Int.reduceBNe, Int.reduceGE, Int.reduceGT, Nat.reduceLT, trim_keep, under_fn, under_ptr, under_sl, Nat.lt_irrefl, not_lt_add, trim_tail, keepOk, ABlk.vals, Int.cast_ofNat_Int, decide_true, decide_false, List.all_cons, List.all_nil, Nat.zero_mul, Nat.mul_one, Nat.one_mul, runC_loop, x_loop, c2, wp]
  unfold LS at l2
  generalize (envL prog).loop (runC (envX prog XS) (l8x2 (envX prog XS))) = LL at l2 ⊢
  refine outs_ctx (fun r => seqR (blockR 4 r) _) (l2 _ _ _ _ _ _ _ _ _ _ _ _ _ _ _ _ _ _ _ _ _ _ _ _ _ _ _ _ _ _ _ _ _ _ _ _ _ _ _ _ _ _ _ _ _ _ _ _ A2 f2 (by omega) (by omega)) ?_
  rintro e t K3 ⟨rfl, A3, fw, rfl, f3⟩
  have pl := planL_len P
  obtain ⟨K4, es, f4, fr4, l4⟩ := xs_sort f3 (by rw [List.length_append]; omega)
  obtain ⟨v', K5, ec, i5, sb5, fr5, l5⟩ := compactC f4 (by rw [srt_len, List.length_append]; omega)
  have o3 := FS.out f3
  have A5 : Adds H1 K5 := (fr4.trans fr5 (fun _ _ h => h)).old A3 fun b hb h => by have := (o3 b h).1; omega
  simp -implicitDefEqProofs (maxSteps := 5000000) only [go_sem, Nat.reduceShiftRight, Nat.reduceAnd, Nat.reduceBNe, Int.reduceEq, Nat.reduceAdd, Nat.reduceSub, Nat.reduceMul, Nat.reduceLeDiff, reduceIte, reduceCtorEq, Nat.reduceBEq, Nat.reduceEqDiff, wrap64, runC_loop, runC_range, callF_fn, callV_fn, callV_yld, yield_eq, yieldBody, yieldRaw, roundMid, roundEnd, rangeEnd, Bool.not_not, put_cons, put_nil, trim_same, at_zero, at_add, set_zero, set_add, store_one, write_zero, write_add, write_head, write_succ, splice_one, splice_more, List.drop_nil, List.take_nil, cell_int, cell_bool, fillS, splice_one, idxA, Ex.isNormal, List.set_nil, List.length_set, List.all_cons, List.all_nil, Bool.and_self, and_self, true_and, and_true, List.getElem?_nil, Int.reduceLT, Int.reduceLE, Int.reduceToNat, Int.toNat_zero, Int.toNat_one, Int.reduceAdd, Int.reduceSub, Int.reduceMul, Int.reduceNeg, Int.reduceBEq, Int.reduceBNe, Int.reduceGE, Int.reduceGT, Nat.reduceLT, trim_keep, under_fn, under_ptr, under_sl, Nat.lt_irrefl, not_lt_add, trim_tail, keepOk, ABlk.vals, Int.cast_ofNat_Int, decide_true, decide_false, List.all_cons, List.all_nil, Nat.zero_mul, Nat.mul_one, Nat.one_mul, es, xs_call, ec, outs_normal]
  subst hQ
  refine ⟨v', A1.trans A5, i5, fun b hb => by have := (o3 b (sb5 b hb)).1; have := A1.len; omega, ?_⟩
  simp -implicitDefEqProofs (maxSteps := 5000000) only [go_sem, Nat.reduceShiftRight, Nat.reduceAnd, Nat.reduceBNe, Int.reduceEq, Nat.reduceAdd, Nat.reduceSub, Nat.reduceMul, Nat.reduceLeDiff, reduceIte, reduceCtorEq, Nat.reduceBEq, Nat.reduceEqDiff, wrap64, runC_loop, runC_range, callF_fn, callV_fn, callV_yld, yield_eq, yieldBody, yieldRaw, roundMid, roundEnd, rangeEnd, Bool.not_not, put_cons, put_nil, trim_same, at_zero, at_add, set_zero, set_add, store_one, write_zero, write_add, write_head, write_succ, splice_one, splice_more, List.drop_nil, List.take_nil, cell_int, cell_bool, fillS, splice_one, idxA, Ex.isNormal, List.set_nil, List.length_set, List.all_cons, List.all_nil, Bool.and_self, and_self, true_and, and_true, List.getElem?_nil, Int.reduceLT, Int.reduceLE, Int.reduceToNat, Int.toNat_zero, Int.toNat_one, Int.reduceAdd, Int.reduceSub, Int.reduceMul, Int.reduceNeg, Int.reduceBEq, Int.reduceBNe, Int.reduceGE, Int.reduceGT, Nat.reduceLT, trim_keep, under_fn, under_ptr, under_sl, Nat.lt_irrefl, not_lt_add, trim_tail, keepOk, ABlk.vals, Int.cast_ofNat_Int, decide_true, decide_false, List.all_cons, List.all_nil, Nat.zero_mul, Nat.mul_one, Nat.one_mul]
 obtain ⟨e', t, K, hr, w, aK, bs, wb, hf⟩ := key
 obtain ⟨K', e, a, b⟩ := is_end aK bs wb
 exact ⟨w, K', by rw [d8, hr, hf]; exact e, a, b, wb⟩
end Go.Proofs.Ytfioahnogphnfaa.G12
end
section
namespace Go.Proofs.Ytfioahnogphnfaa.G12
open Go Go.Proofs.Ytfioahnogphnfaa.Eng
noncomputable def XU : Over := XS.up prog 8
theorem xu_ok : XU.Ok prog := up_ok goodP xs_ok _
theorem xu_call (f : Nat) (args : List AV) (h : AHeap) (eu : (f == 8) = false) (es : (f == 15) = false) (ed : (f == 12) = false) (em : (f == 25) = false) (e0 : (f == 37) = false) (e1 : (f == 52) = false) (e2 : (f == 61) = false) : (envX prog XU).call f args h = (envL prog).call f args h := by
 unfold XU Over.up; rw [x_miss _ _ eu, xs_call _ _ _ es ed em e0 e1 e2]
theorem xu_used {args : List AV} {h : AHeap} {r : AV × AHeap} (e : callBody prog (envX prog XS) 8 args h = some r) : (envX prog XU).call 8 args h = some r := x_hit e
theorem xu_drop {args : List AV} {h : AHeap} {r : AV × AHeap} (e : callBody prog (envX prog X3) 12 args h = some r) : (envX prog XU).call 12 args h = some r := by
 unfold XU Over.up; rw [x_miss _ _ (by decide)]; exact xs_drop e
noncomputable abbrev LU (l : Env → CT) := (envL prog).loop (runC (envX prog XU) (l (envX prog XU)))
def freeN (u : List Int) (a : Int) : Int := if a < 1 then 0 else a - (wth a u : Int)
theorem wth_le (a : Int) (u : List Int) : wth a u ≤ u.length := List.length_filter_le _ _
section
variable {K : AHeap} {v : AV} {u : List Int} (g : IS K v u) (lu : u.length ≤ 1000000) (a : Int) (ha : a ≤ 9223372036854775807) (h1 : 1 ≤ a)
include g lu ha h1
set_option maxHeartbeats 4000000 in
theorem freeL (x0 x2 x3 x4 x6 x8 x9 x10 x11 x28 : AV) : ∀ (m i : Nat) (j7 j15 j16 j17 j18 j19 j20 j21 j22 j23 j24 j25 j26 j27 : AV), i + m = u.length →
  Outs (LU l9x0 [x0, .int .i64 a, x2, x3, x4, .int .i64 (a - (wth a (u.take i) : Int)), x6, j7, x8, x9, x10, x11, v, .int .i64 (u.length : Int), .int .i64 (i : Int), j15, j16, j17, j18, j19, j20, j21, j22, j23, j24, j25, j26, j27, x28] K) fun e t K' => e = .exit 0 ∧ K' = K ∧ ∃ fv : Nat → AV, t = [x0, .int .i64 a, x2, x3, x4, (fv 5), x6, (fv 7), x8, x9, x10, x11, v, .int .i64 (u.length : Int), (fv 14), (fv 15), (fv 16), (fv 17), (fv 18), (fv 19), (fv 20), (fv 21), (fv 22), (fv 23), (fv 24), (fv 25), (fv 26), (fv 27), x28] ∧ fv 5 = .int .i64 (a - (wth a u : Int)) := by
 intro m
 obtain ⟨L0, hL0⟩ : ∃ L, L = LU l9x0 := ⟨_, rfl⟩
 have lo := loop_open hL0
 rw [← hL0]
 induction m with
 | zero =>
  intro i j7 j15 j16 j17 j18 j19 j20 j21 j22 j23 j24 j25 j26 j27 hi
  obtain rfl : i = u.length := by omega
  have hd : decide ((u.length : Int) < (u.length : Int)) = false := by simp
  rw [lo, List.take_length]
  unfold l9x0
  simp -implicitDefEqProofs (maxSteps := 5000000) only [go_sem, Nat.reduceShiftRight, Nat.reduceAnd, Nat.reduceBNe, Int.reduceEq, Nat.reduceAdd, Nat.reduceSub, Nat.reduceMul, Nat.reduceLeDiff, reduceIte, reduceCtorEq, Nat.reduceBEq, Nat.reduceEqDiff, hd, seqR_exit', outs_normal]
  exact exF2 rfl rfl
 | succ m ih =>
  intro i j7 j15 j16 j17 j18 j19 j20 j21 j22 j23 j24 j25 j26 j27 hi
  have hlt : i < u.length := by omega
  have hd : decide ((i : Int) < (u.length : Int)) = true := decide_eq_true (by omega)
  have e2 : IntKind.i64.wrap ((i : Int) + 1) = ((i + 1 : Nat) : Int) := by rw [wrap64 (by omega) (by omega)]; omega
  have hx := List.getElem?_eq_getElem hlt
  have tk : u.take (i + 1) = u.take i ++ [u[i]] := by rw [List.take_add_one, hx]; rfl
  have wle := wth_le a (u.take i)
  rw [List.length_take] at wle
  have key := ih (i + 1)
  have hw : wth a (u.take (i + 1)) = wth a (u.take i) + (if 0 ≤ u[i] ∧ u[i] < a then 1 else 0) := by
   rw [tk, wth_app, wth_cons, wth_nil]; omega
  rw [hw] at key
  generalize u[i] = x at *
  obtain ⟨ad, ix, ld⟩ := g.idx hx .i64
  have s1 : IntKind.i64.wrap (a - (wth a (u.take i) : Int) - 1) = a - ((wth a (u.take i) + 1 : Nat) : Int) := by rw [wrap64 (by omega) (by omega)]; omega
  rw [lo]
  unfold l9x0
  by_cases c0 : x ≥ 0
  ·have d0 := decide_eq_true c0
   by_cases c1 : x < a
   ·have d1 := decide_eq_true c1
    rw [if_pos ⟨c0, c1⟩] at key
    simp -implicitDefEqProofs (maxSteps := 5000000) only [go_sem, Nat.reduceShiftRight, Nat.reduceAnd, Nat.reduceBNe, Int.reduceEq, Nat.reduceAdd, Nat.reduceSub, Nat.reduceMul, Nat.reduceLeDiff, reduceIte, reduceCtorEq, Nat.reduceBEq, Nat.reduceEqDiff, wrap64, runC_loop, runC_range, callF_fn, callV_fn, callV_yld, yield_eq, yieldBody, yieldRaw, roundMid, roundEnd, rangeEnd, Bool.not_not, put_cons, put_nil, trim_same, at_zero, at_add, set_zero, set_add, store_one, write_zero, write_add, write_head, write_succ, splice_one, splice_more, List.drop_nil, List.take_nil, cell_int, cell_bool, fillS, splice_one, idxA, Ex.isNormal, List.set_nil, List.length_set, List.all_cons, List.all_nil, Bool.and_self, and_self, true_and, and_true, List.getElem?_nil, Int.reduceLT, Int.reduceLE, Int.reduceToNat, Int.toNat_zero, Int.toNat_one, Int.reduceAdd, Int.reduceSub, Int.reduceMul, Int.reduceNeg, Int.reduceBEq, Int.reduceBNe, Int.reduceGE, Int.reduceGT, Nat.reduceLT, trim_keep, under_fn, under_ptr, under_sl, Nat.lt_irrefl, not_lt_add, trim_tail, keepOk, ABlk.vals, Int.cast_ofNat_Int, decide_true, decide_false, List.all_cons, List.all_nil, Nat.zero_mul, Nat.mul_one, Nat.one_mul, hd, ix, ld, d0, d1, s1, e2]
    exact key _ _ _ _ _ _ _ _ _ _ _ _ _ _ (by omega)
   ·have d1 := decide_eq_false c1
    rw [if_neg (by omega), Nat.add_zero] at key
    simp -implicitDefEqProofs (maxSteps := 5000000) only [go_sem, Nat.reduceShiftRight, Nat.reduceAnd, Nat.reduceBNe, Int.reduceEq, Nat.reduceAdd, Nat.reduceSub, Nat.reduceMul, Nat.reduceLeDiff, reduceIte, reduceCtorEq, Nat.reduceBEq, Nat.reduceEqDiff, wrap64, runC_loop, runC_range, callF_fn, callV_fn, callV_yld, yield_eq, yieldBody, yieldRaw, roundMid, roundEnd, rangeEnd, Bool.not_not, put_cons, put_nil, trim_same, at_zero, at_add, set_zero, set_add, store_one, write_zero, write_add, write_head, write_succ, splice_one, splice_more, List.drop_nil, List.take_nil, cell_int, cell_bool, fillS, splice_one, idxA, Ex.isNormal, List.set_nil, List.length_set, List.all_cons, List.all_nil, Bool.and_self, and_self, true_and, and_true, List.getElem?_nil, Int.reduceLT, Int.reduceLE, Int.reduceToNat, Int.toNat_zero, Int.toNat_one, Int.reduceAdd, Int.reduceSub, Int.reduceMul, Int.reduceNeg, Int.reduceBEq, Int.reduceBNe, Int.reduceGE, Int.reduceGT, Nat.reduceLT, trim_keep, under_fn, under_ptr, under_sl, Nat.lt_irrefl, not_lt_add, trim_tail, keepOk, ABlk.vals, Int.cast_ofNat_Int, decide_true, decide_false, List.all_cons, List.all_nil, Nat.zero_mul, Nat.mul_one, Nat.one_mul, hd, ix, ld, d0, d1, e2]
    exact key _ _ _ _ _ _ _ _ _ _ _ _ _ _ (by omega)
  ·have d0 := decide_eq_false c0
   rw [if_neg (by omega), Nat.add_zero] at key
   simp -implicitDefEqProofs (maxSteps := 5000000) only [go_sem, Nat.reduceShiftRight, Nat.reduceAnd, Nat.reduceBNe, Int.reduceEq, Nat.reduceAdd, Nat.reduceSub, Nat.reduceMul, Nat.reduceLeDiff, reduceIte, reduceCtorEq, Nat.reduceBEq, Nat.reduceEqDiff, wrap64, runC_loop, runC_range, callF_fn, callV_fn, callV_yld, yield_eq, yieldBody, yieldRaw, roundMid, roundEnd, rangeEnd, Bool.not_not, put_cons, put_nil, trim_same, at_zero, at_add, set_zero, set_add, store_one, write_zero, write_add, write_head, write_succ, splice_one, splice_more, List.drop_nil, List.take_nil, cell_int, cell_bool, fillS, splice_one, idxA, Ex.isNormal, List.set_nil, List.length_set, List.all_cons, List.all_nil, Bool.and_self, and_self, true_and, and_true, List.getElem?_nil, Int.reduceLT, Int.reduceLE, Int.reduceToNat, Int.toNat_zero, Int.toNat_one, Int.reduceAdd, Int.reduceSub, Int.reduceMul, Int.reduceNeg, Int.reduceBEq, Int.reduceBNe, Int.reduceGE, Int.reduceGT, Nat.reduceLT, trim_keep, under_fn, under_ptr, under_sl, Nat.lt_irrefl, not_lt_add, trim_tail, keepOk, ABlk.vals, Int.cast_ofNat_Int, decide_true, decide_false, List.all_cons, List.all_nil, Nat.zero_mul, Nat.mul_one, Nat.one_mul, hd, ix, ld, d0, e2]
   exact key _ _ _ _ _ _ _ _ _ _ _ _ _ _ (by omega)
end
theorem usedS_len {L : List SnS} {P : List PrS} (fi : Fits L) (lp : P.length ≤ 1000) : (usedS L P).length ≤ 1000000 := by
 have h1 := usd_len (atsL L ++ planL P)
 have h2 := atsL_len (L := L) fun x hx => (fi.2 x hx).lt
 have h3 := planL_len P
 have h4 := fi.1
 rw [List.length_append] at h1
 unfold usedS; omega
theorem SA.cells {H : AHeap} {cs : List AV} {L : List SnS} {P : List PrS} (s : SA H cs L P) : cs.length = 6 ∧ cs.all AV.isCell = true ∧ ∃ vd vs nx kd pd vp, cs = [vd, vs, .int .i64 nx, .int .i64 kd, .int .i64 pd, vp] ∧ vd.isCell = true ∧ vs.isCell = true ∧ vp.isCell = true := by
 obtain ⟨⟨vd, vs, nx, kd, pd, vp, rfl, h1, h2, h3⟩, _, _⟩ := s
 refine ⟨rfl, ?_, vd, vs, nx, kd, pd, vp, rfl, h3.2, h1.cell.2, h2.cell.2⟩
 simp only [List.all_cons, List.all_nil, h3.2, h1.cell.2, h2.cell.2, Bool.and_true, Bool.true_and]; rfl
set_option maxHeartbeats 8000000 in
theorem freeC {H : AHeap} {cs : List AV} {L : List SnS} {P : List PrS} (s : SA H cs L P) (a : Int) (ha : a ≤ 9223372036854775807) : callBody prog (envX prog XU) 9 [.agg cs, .int .i64 a] H = some (.int .i64 (freeN (usedS L P) a), H) := by
 have lu := usedS_len s.fi s.lp
 obtain ⟨H1, hH1⟩ : ∃ K, K = H ++ [ABlk.rw cs] := ⟨_, rfl⟩
 have A1 : Adds H H1 := ⟨_, hH1⟩
 have c1 : cellsOf H1 H.length = some cs := by rw [hH1]; unfold cellsOf; simp
 obtain ⟨v, K2, eu, A2, i2, _⟩ := usedC (s.adds A1)
 have eu := xu_used eu
 obtain ⟨_, hc, vd, vs, nx, kd, pd, vp, rfl, k1, k2, k3⟩ := s.cells
 have wl := i2.len
 have hH1 := hH1.symm
 have key : Outs (runC (envX prog XU) (b9 (envX prog XU)) ([.agg [vd, vs, .int .i64 nx, .int .i64 kd, .int .i64 pd, vp], .int .i64 a] ++ List.replicate (29 - [AV.agg [vd, vs, .int .i64 nx, .int .i64 kd, .int .i64 pd, vp], .int .i64 a].length) .undef) H) fun e' t K => Adds H K ∧ fin [.tmp 4] (some (e', t, K)) = some (.int .i64 (freeN (usedS L P) a), K) := by
  unfold b9
  generalize hQ : (fun (e' : Ex) (t : T) (K : AHeap) => Adds H K ∧ fin [.tmp 4] (some (e', t, K)) = some (AV.int .i64 (freeN (usedS L P) a), K)) = Q
  by_cases h1 : a < 1
  ·have d1 := decide_eq_true h1
   simp -implicitDefEqProofs (maxSteps := 5000000) only [go_sem, Nat.reduceShiftRight, Nat.reduceAnd, Nat.reduceBNe, Int.reduceEq, Nat.reduceAdd, Nat.reduceSub, Nat.reduceMul, Nat.reduceLeDiff, reduceIte, reduceCtorEq, Nat.reduceBEq, Nat.reduceEqDiff, wrap64, runC_loop, runC_range, callF_fn, callV_fn, callV_yld, yield_eq, yieldBody, yieldRaw, roundMid, roundEnd, rangeEnd, Bool.not_not, put_cons, put_nil, trim_same, at_zero, at_add, set_zero, set_add, store_one, write_zero, write_add, write_head, write_succ, splice_one, splice_more, List.drop_nil, List.take_nil, cell_int, cell_bool, fillS, splice_one, idxA, Ex.isNormal, List.set_nil, List.length_set, List.all_cons, List.all_nil, Bool.and_self, and_self, true_and, and_true, List.getElem?_nil, Int.reduceLT, Int.reduceLE, Int.reduceToNat, Int.toNat_zero, Int.toNat_one, Int.reduceAdd, Int.reduceSub, Int.reduceMul, Int.reduceNeg, Int.reduceBEq, Int.reduceBNe, Int.reduceGE, Int.reduceGT, Nat.reduceLT, trim_keep, under_fn, under_ptr, under_sl, Nat.lt_irrefl, not_lt_add, trim_tail, keepOk, ABlk.vals, Int.cast_ofNat_Int, decide_true, decide_false, List.all_cons, List.all_nil, Nat.zero_mul, Nat.mul_one, Nat.one_mul, cellsA_agg, k1, k2, k3, hH1, d1, outs_normal]
   subst hQ
   refine ⟨A1, ?_⟩
   rw [show freeN (usedS L P) a = 0 by unfold freeN; rw [if_pos h1]]
   simp -implicitDefEqProofs (maxSteps := 5000000) only [go_sem, Nat.reduceShiftRight, Nat.reduceAnd, Nat.reduceBNe, Int.reduceEq, Nat.reduceAdd, Nat.reduceSub, Nat.reduceMul, Nat.reduceLeDiff, reduceIte, reduceCtorEq, Nat.reduceBEq, Nat.reduceEqDiff, wrap64, runC_loop, runC_range, callF_fn, callV_fn, callV_yld, yield_eq, yieldBody, yieldRaw, roundMid, roundEnd, rangeEnd, Bool.not_not, put_cons, put_nil, trim_same, at_zero, at_add, set_zero, set_add, store_one, write_zero, write_add, write_head, write_succ, splice_one, splice_more, List.drop_nil, List.take_nil, cell_int, cell_bool, fillS, splice_one, idxA, Ex.isNormal, List.set_nil, List.length_set, List.all_cons, List.all_nil, Bool.and_self, and_self, true_and, and_true, List.getElem?_nil, Int.reduceLT, Int.reduceLE, Int.reduceToNat, Int.toNat_zero, Int.toNat_one, Int.reduceAdd, Int.reduceSub, Int.reduceMul, Int.reduceNeg, Int.reduceBEq, Int.reduceBNe, Int.reduceGE, Int.reduceGT, Nat.reduceLT, trim_keep, under_fn, under_ptr, under_sl, Nat.lt_irrefl, not_lt_add, trim_tail, keepOk, ABlk.vals, Int.cast_ofNat_Int, decide_true, decide_false, List.all_cons, List.all_nil, Nat.zero_mul, Nat.mul_one, Nat.one_mul]
  ·have d1 := decide_eq_false h1
   have l0 := freeL i2 lu a ha (by omega) (m := (usedS L P).length) (i := 0)
   rw [show ((0 : Nat) : Int) = 0 from rfl, List.take_zero, wth_nil, show a - ((0 : Nat) : Int) = a by omega] at l0
   simp -implicitDefEqProofs (maxSteps := 5000000) only [go_sem, Nat.reduceShiftRight, Nat.reduceAnd, Nat.reduceBNe, Int.reduceEq, Nat.reduceAdd, Nat.reduceSub, Nat.reduceMul, Nat.reduceLeDiff, reduceIte, reduceCtorEq, Nat.reduceBEq, Nat.reduceEqDiff, wrap64, runC_loop, runC_range, callF_fn, callV_fn, callV_yld, yield_eq, yieldBody, yieldRaw, roundMid, roundEnd, rangeEnd, Bool.not_not, put_cons, put_nil, trim_same, at_zero, at_add, set_zero, set_add, store_one, write_zero, write_add, write_head, write_succ, splice_one, splice_more, List.drop_nil, List.take_nil, cell_int, cell_bool, fillS, splice_one, idxA, Ex.isNormal, List.set_nil, List.length_set, List.all_cons, List.all_nil, Bool.and_self, and_self, true_and, and_true, List.getElem?_nil, Int.reduceLT, Int.reduceLE, Int.reduceToNat, Int.toNat_zero, Int.toNat_one, Int.reduceAdd, Int.reduceSub, Int.reduceMul, Int.reduceNeg, Int.reduceBEq, Int.reduceBNe, Int.reduceGE, Int.reduceGT, Nat.reduceLT, trim_keep, under_fn, under_ptr, under_sl, Nat.lt_irrefl, not_lt_add, trim_tail, keepOk, ABlk.vals, Int.cast_ofNat_Int, decide_true, decide_false, List.all_cons, List.all_nil, Nat.zero_mul, Nat.mul_one, Nat.one_mul, runC_loop, x_loop, cellsA_agg, k1, k2, k3, hH1, d1, c1, eu, wl]
   unfold LU at l0
   generalize (envL prog).loop (runC (envX prog XU) (l9x0 (envX prog XU))) = LL at l0 ⊢
   refine outs_ctx (fun r => seqR (blockR 0 r) _) (l0 _ _ _ _ _ _ _ _ _ _ _ _ _ _ _ _ _ _ _ _ _ _ _ _ (by omega)) ?_
   rintro e t K3 ⟨rfl, rfl, fv, rfl, f5⟩
   simp -implicitDefEqProofs (maxSteps := 5000000) only [go_sem, Nat.reduceShiftRight, Nat.reduceAnd, Nat.reduceBNe, Int.reduceEq, Nat.reduceAdd, Nat.reduceSub, Nat.reduceMul, Nat.reduceLeDiff, reduceIte, reduceCtorEq, Nat.reduceBEq, Nat.reduceEqDiff, wrap64, runC_loop, runC_range, callF_fn, callV_fn, callV_yld, yield_eq, yieldBody, yieldRaw, roundMid, roundEnd, rangeEnd, Bool.not_not, put_cons, put_nil, trim_same, at_zero, at_add, set_zero, set_add, store_one, write_zero, write_add, write_head, write_succ, splice_one, splice_more, List.drop_nil, List.take_nil, cell_int, cell_bool, fillS, splice_one, idxA, Ex.isNormal, List.set_nil, List.length_set, List.all_cons, List.all_nil, Bool.and_self, and_self, true_and, and_true, List.getElem?_nil, Int.reduceLT, Int.reduceLE, Int.reduceToNat, Int.toNat_zero, Int.toNat_one, Int.reduceAdd, Int.reduceSub, Int.reduceMul, Int.reduceNeg, Int.reduceBEq, Int.reduceBNe, Int.reduceGE, Int.reduceGT, Nat.reduceLT, trim_keep, under_fn, under_ptr, under_sl, Nat.lt_irrefl, not_lt_add, trim_tail, keepOk, ABlk.vals, Int.cast_ofNat_Int, decide_true, decide_false, List.all_cons, List.all_nil, Nat.zero_mul, Nat.mul_one, Nat.one_mul, f5, outs_normal]
   subst hQ
   refine ⟨A1.trans A2, ?_⟩
   rw [show freeN (usedS L P) a = a - (wth a (usedS L P) : Int) by unfold freeN; rw [if_neg h1]]
   simp -implicitDefEqProofs (maxSteps := 5000000) only [go_sem, Nat.reduceShiftRight, Nat.reduceAnd, Nat.reduceBNe, Int.reduceEq, Nat.reduceAdd, Nat.reduceSub, Nat.reduceMul, Nat.reduceLeDiff, reduceIte, reduceCtorEq, Nat.reduceBEq, Nat.reduceEqDiff, wrap64, runC_loop, runC_range, callF_fn, callV_fn, callV_yld, yield_eq, yieldBody, yieldRaw, roundMid, roundEnd, rangeEnd, Bool.not_not, put_cons, put_nil, trim_same, at_zero, at_add, set_zero, set_add, store_one, write_zero, write_add, write_head, write_succ, splice_one, splice_more, List.drop_nil, List.take_nil, cell_int, cell_bool, fillS, splice_one, idxA, Ex.isNormal, List.set_nil, List.length_set, List.all_cons, List.all_nil, Bool.and_self, and_self, true_and, and_true, List.getElem?_nil, Int.reduceLT, Int.reduceLE, Int.reduceToNat, Int.toNat_zero, Int.toNat_one, Int.reduceAdd, Int.reduceSub, Int.reduceMul, Int.reduceNeg, Int.reduceBEq, Int.reduceBNe, Int.reduceGE, Int.reduceGT, Nat.reduceLT, trim_keep, under_fn, under_ptr, under_sl, Nat.lt_irrefl, not_lt_add, trim_tail, keepOk, ABlk.vals, Int.cast_ofNat_Int, decide_true, decide_false, List.all_cons, List.all_nil, Nat.zero_mul, Nat.mul_one, Nat.one_mul]
 obtain ⟨e', t, K, hr, aK, hf⟩ := key
 rw [d9, hr, hf]; exact aK.trimS rfl
noncomputable def XF : Over := XU.up prog 9
theorem xf_ok : XF.Ok prog := up_ok goodP xu_ok _
noncomputable def XG : Over := XF.up prog 31
theorem xg_ok : XG.Ok prog := up_ok goodP xf_ok _
theorem xf_call (f : Nat) (args : List AV) (h : AHeap) (ef : (f == 9) = false) (eu : (f == 8) = false) (es : (f == 15) = false) (ed : (f == 12) = false) (em : (f == 25) = false) (e0 : (f == 37) = false) (e1 : (f == 52) = false) (e2 : (f == 61) = false) : (envX prog XF).call f args h = (envL prog).call f args h := by
 unfold XF Over.up; rw [x_miss _ _ ef, xu_call _ _ _ eu es ed em e0 e1 e2]
theorem xf_used {args : List AV} {h : AHeap} {r : AV × AHeap} (e : callBody prog (envX prog XS) 8 args h = some r) : (envX prog XF).call 8 args h = some r := by
 unfold XF Over.up; rw [x_miss _ _ (by decide)]; exact xu_used e
theorem xf_free {args : List AV} {h : AHeap} {r : AV × AHeap} (e : callBody prog (envX prog XU) 9 args h = some r) : (envX prog XF).call 9 args h = some r := x_hit e
theorem xf_drop {args : List AV} {h : AHeap} {r : AV × AHeap} (e : callBody prog (envX prog X3) 12 args h = some r) : (envX prog XF).call 12 args h = some r := by
 unfold XF Over.up; rw [x_miss _ _ (by decide)]; exact xu_drop e
theorem xg_call (f : Nat) (args : List AV) (h : AHeap) (eg : (f == 31) = false) (ef : (f == 9) = false) (eu : (f == 8) = false) (es : (f == 15) = false) (ed : (f == 12) = false) (em : (f == 25) = false) (e0 : (f == 37) = false) (e1 : (f == 52) = false) (e2 : (f == 61) = false) : (envX prog XG).call f args h = (envL prog).call f args h := by
 unfold XG Over.up; rw [x_miss _ _ eg, xf_call _ _ _ ef eu es ed em e0 e1 e2]
theorem xg_used {args : List AV} {h : AHeap} {r : AV × AHeap} (e : callBody prog (envX prog XS) 8 args h = some r) : (envX prog XG).call 8 args h = some r := by
 unfold XG Over.up; rw [x_miss _ _ (by decide)]; exact xf_used e
theorem xg_free {args : List AV} {h : AHeap} {r : AV × AHeap} (e : callBody prog (envX prog XU) 9 args h = some r) : (envX prog XG).call 9 args h = some r := by
 unfold XG Over.up; rw [x_miss _ _ (by decide)]; exact xf_free e
theorem xg_drop {args : List AV} {h : AHeap} {r : AV × AHeap} (e : callBody prog (envX prog X3) 12 args h = some r) : (envX prog XG).call 12 args h = some r := by
 unfold XG Over.up; rw [x_miss _ _ (by decide)]; exact xf_drop e
theorem xg_hit {args : List AV} {h : AHeap} {r : AV × AHeap} (e : callBody prog (envX prog XF) 31 args h = some r) : (envX prog XG).call 31 args h = some r := x_hit e
theorem freeFn {H : AHeap} {cs : List AV} {L : List SnS} {P : List PrS} (s : SA H cs L P) (a : Int) : (envL prog).call 17 [.agg cs, .int .i64 a] H = some (.fn 31 [.ptr H.length 0, .ptr (H.length + 1) 0], H ++ [.rw cs, .rw [.int .i64 a]]) := by
 obtain ⟨_, hc, vd, vs, nx, kd, pd, vp, rfl, k1, k2, k3⟩ := s.cells
 rw [c17]
 unfold b17
 simp -implicitDefEqProofs (maxSteps := 5000000) only [go_sem, Nat.reduceShiftRight, Nat.reduceAnd, Nat.reduceBNe, Int.reduceEq, Nat.reduceAdd, Nat.reduceSub, Nat.reduceMul, Nat.reduceLeDiff, reduceIte, reduceCtorEq, Nat.reduceBEq, Nat.reduceEqDiff, wrap64, runC_loop, runC_range, callF_fn, callV_fn, callV_yld, yield_eq, yieldBody, yieldRaw, roundMid, roundEnd, rangeEnd, Bool.not_not, put_cons, put_nil, trim_same, at_zero, at_add, set_zero, set_add, store_one, write_zero, write_add, write_head, write_succ, splice_one, splice_more, List.drop_nil, List.take_nil, cell_int, cell_bool, fillS, splice_one, idxA, Ex.isNormal, List.set_nil, List.length_set, List.all_cons, List.all_nil, Bool.and_self, and_self, true_and, and_true, List.getElem?_nil, Int.reduceLT, Int.reduceLE, Int.reduceToNat, Int.toNat_zero, Int.toNat_one, Int.reduceAdd, Int.reduceSub, Int.reduceMul, Int.reduceNeg, Int.reduceBEq, Int.reduceBNe, Int.reduceGE, Int.reduceGT, Nat.reduceLT, trim_keep, under_fn, under_ptr, under_sl, Nat.lt_irrefl, not_lt_add, trim_tail, keepOk, ABlk.vals, Int.cast_ofNat_Int, decide_true, decide_false, List.all_cons, List.all_nil, Nat.zero_mul, Nat.mul_one, Nat.one_mul, cellsA_agg, k1, k2, k3]
end Go.Proofs.Ytfioahnogphnfaa.G12
end
section
namespace Go.Proofs.Ytfioahnogphnfaa.G12
open Go Go.Proofs.Ytfioahnogphnfaa.Eng
theorem _root_.Go.Proofs.Ytfioahnogphnfaa.Eng.Adds.old {H K : AHeap} (a : Adds H K) (b : Nat) (hb : b < H.length) : K[b]? = H[b]? := by obtain ⟨X, rfl⟩ := a; exact List.getElem?_append_left hb
noncomputable abbrev LF (l : Env → CT) := (envL prog).loop (runC (envX prog XF) (l (envX prog XF)))
noncomputable abbrev TakL (s : LoopState) (e : Ex) (t : T) : ABlk := .loop ⟨s, e, t, [26], kaq10x0, kbq10x0⟩
structure TakY (H : AHeap) (cs : List AV) (a n : Int) (acc : List Int) (s : LoopState) (e : Ex) (t : T) (w : AV) (K : AHeap) : Prop where
 old : ∀ b, b < H.length → K[b]? = H[b]?
 len : H.length + 6 ≤ K.length
 nb : K[H.length + 1]? = some (.rw [.int .i64 n])
 wb : K[H.length + 2]? = some (.rw [w])
 sb : K[H.length + 3]? = some (.rw cs)
 ab : K[H.length + 4]? = some (.rw [.int .i64 a])
 lp : K[H.length + 5]? = some (TakL s e t)
 fs : FS K (H.length + 6) w acc
theorem TakY.step {H K K' : AHeap} {cs : List AV} {a n : Int} {acc acc' : List Int} {s s' : LoopState} {e e' : Ex} {t : T} {w w' : AV} (y : TakY H cs a n acc s e t w K) (h : ∀ b, b < H.length + 6 → b ≠ H.length + 2 → b ≠ H.length + 5 → K'[b]? = K[b]?) (l : H.length + 6 ≤ K'.length) (wb : K'[H.length + 2]? = some (.rw [w'])) (lp : K'[H.length + 5]? = some (TakL s' e' t)) (fs : FS K' (H.length + 6) w' acc') : TakY H cs a n acc' s' e' t w' K' :=
 ⟨fun b hb => by rw [h b (by omega) (by omega) (by omega)]; exact y.old b hb, l, by rw [h _ (by omega) (by omega) (by omega)]; exact y.nb, wb, by rw [h _ (by omega) (by omega) (by omega)]; exact y.sb, by rw [h _ (by omega) (by omega) (by omega)]; exact y.ab, lp, fs⟩
section
variable {H : AHeap} {cs : List AV} {a n : Int} {acc : List Int} {T : T} {w : AV}
set_option maxHeartbeats 4000000 in
theorem takRound {K : AHeap} (ht : T.length = 36) (t5 : getT T 5 = .ptr (H.length + 1) 0) (t8 : getT T 8 = .ptr (H.length + 2) 0) (y : TakY H cs a n acc .ready .normal T w K) (la : acc.length ≤ 1000000) (x : Int) :
  ∃ K', K.length ≤ K'.length ∧ (((acc.length : Int) = n ∧ (envL prog).yield (H.length + 5) [.int .i64 x] K = some (.bool false, K') ∧ TakY H cs a n acc .done (.exit 1) T w K') ∨ ((acc.length : Int) ≠ n ∧ ∃ w', (envL prog).yield (H.length + 5) [.int .i64 x] K = some (.bool true, K') ∧ TakY H cs a n (acc ++ [x]) .ready .normal T w' K' ∧ ∀ b, slb w' = some b → K.length ≤ b)) ∧ ∀ b, b < K.length → b ≠ H.length + 2 → b ≠ H.length + 5 → slb w ≠ some b → K'[b]? = K[b]? := by
 have kl := y.len
 have wl := y.fs.len
 obtain ⟨Kb, hKb⟩ : ∃ Kb, Kb = K.set (H.length + 5) (TakL .busy .normal T) := ⟨_, rfl⟩
 have lb : Kb.length = K.length := by rw [hKb, List.length_set]
 have fb : ∀ b, b ≠ H.length + 5 → Kb[b]? = K[b]? := fun b hn => by rw [hKb]; exact at_set_ne _ _ _ _ hn
 have b1 : Kb[H.length + 1]? = some (.rw [.int .i64 n]) := by rw [fb _ (by omega)]; exact y.nb
 have b2 : Kb[H.length + 2]? = some (.rw [w]) := by rw [fb _ (by omega)]; exact y.wb
 have b5 : Kb[H.length + 5]? = some (TakL .busy .normal T) := by rw [hKb]; exact at_set _ _ _ (by omega)
 have frb : Fr K Kb (fun b => b = H.length + 5) := by rw [hKb]; exact Fr.set _ _ (F := fun b => b = H.length + 5) rfl
 have wg := FS.out y.fs
 have fsb : FS Kb (H.length + 6) w acc := y.fs.frT frb fun b hb h => by have := (wg b hb).1; omega
 have c1 := cells_rw b1
 have c2 := cells_rw b2
 obtain ⟨K2, hK2⟩ : ∃ K2, K2 = Kb ++ [ABlk.rw [.int .i64 x]] := ⟨_, rfl⟩
 have A2 : Adds Kb K2 := ⟨_, hK2⟩
 have cs2 : cellsOf K2 Kb.length = some [.int .i64 x] := by rw [hK2]; unfold cellsOf; simp
 obtain ⟨w', K3, ep, f3, fr3, sb3, l3⟩ := FS.push (fsb.frT (Fr.adds A2 (fun _ => False)) fun _ _ h => h) cs2 (by omega) (by have := A2.len; omega)
 have cw' : cellsA w' = some [w'] ∧ w'.isCell = true := by
  rcases f3 with ⟨_, rfl⟩ | ⟨_, _, _, rfl, _⟩ <;> exact ⟨rfl, rfl⟩
 have l2 : K2.length = K.length + 1 := by rw [hK2, List.length_append, lb]; rfl
 have at3 : ∀ z, z < K.length → slb w ≠ some z → K3[z]? = Kb[z]? := fun z hz hn => by
  rw [fr3.2 z (by omega) hn, hK2, List.getElem?_append_left (by omega)]
 have wn : ∀ z, z < H.length + 6 → slb w ≠ some z := fun z hz h => by have := (wg z h).1; omega
 have w3 : K3[H.length + 2]? = some (.rw [w]) := by rw [at3 _ (by omega) (wn _ (by omega))]; exact b2
 have wr := write_one (y := w') w3 cw'.2
 obtain ⟨Kc, hKc⟩ : ∃ Kc, Kc = K3.set (H.length + 2) (ABlk.rw [w']) := ⟨_, rfl⟩
 rw [← hKc] at wr
 have c3 : Kc.length = K.length + 2 := by rw [hKc, List.length_set, l3]; omega
 have hK2' := hK2.symm
 have hb : Outs (runC (envL prog) (bq10x0 (envL prog)) ((T.set 26 (.int .i64 x)).set 9 (.int .i64 x)) Kb) fun e _ K2 => (((acc.length : Int) = n ∧ e = .exit 1 ∧ K2 = Kb) ∨ ((acc.length : Int) ≠ n ∧ e = .normal ∧ K2 = Kc)) := by
  unfold bq10x0
  by_cases hn : (acc.length : Int) = n
  ·have db : ((acc.length : Int) == n) = true := by simp [hn]
   simp -implicitDefEqProofs (maxSteps := 5000000) only [go_sem, Nat.reduceShiftRight, Nat.reduceAnd, Nat.reduceBNe, Int.reduceEq, Nat.reduceAdd, Nat.reduceSub, Nat.reduceMul, Nat.reduceLeDiff, reduceIte, reduceCtorEq, Nat.reduceBEq, Nat.reduceEqDiff, wrap64, runC_loop, runC_range, callF_fn, callV_fn, callV_yld, yield_eq, yieldBody, yieldRaw, roundMid, roundEnd, rangeEnd, Bool.not_not, put_cons, put_nil, trim_same, at_zero, at_add, set_zero, set_add, store_one, write_zero, write_add, write_head, write_succ, splice_one, splice_more, List.drop_nil, List.take_nil, cell_int, cell_bool, fillS, splice_one, idxA, Ex.isNormal, List.set_nil, List.length_set, List.all_cons, List.all_nil, Bool.and_self, and_self, true_and, and_true, List.getElem?_nil, Int.reduceLT, Int.reduceLE, Int.reduceToNat, Int.toNat_zero, Int.toNat_one, Int.reduceAdd, Int.reduceSub, Int.reduceMul, Int.reduceNeg, Int.reduceBEq, Int.reduceBNe, Int.reduceGE, Int.reduceGT, Nat.reduceLT, trim_keep, under_fn, under_ptr, under_sl, Nat.lt_irrefl, not_lt_add, trim_tail, keepOk, ABlk.vals, Int.cast_ofNat_Int, decide_true, decide_false, List.all_cons, List.all_nil, Nat.zero_mul, Nat.mul_one, Nat.one_mul, getT_set, ht, t5, t8, List.length_set, Nat.reduceLT, c1, c2, wl, db, outs_normal]
   exact .inl hn
  ·have db : ((acc.length : Int) == n) = false := by simp [hn]
   simp -implicitDefEqProofs (maxSteps := 5000000) only [go_sem, Nat.reduceShiftRight, Nat.reduceAnd, Nat.reduceBNe, Int.reduceEq, Nat.reduceAdd, Nat.reduceSub, Nat.reduceMul, Nat.reduceLeDiff, reduceIte, reduceCtorEq, Nat.reduceBEq, Nat.reduceEqDiff, wrap64, runC_loop, runC_range, callF_fn, callV_fn, callV_yld, yield_eq, yieldBody, yieldRaw, roundMid, roundEnd, rangeEnd, Bool.not_not, put_cons, put_nil, trim_same, at_zero, at_add, set_zero, set_add, store_one, write_zero, write_add, write_head, write_succ, splice_one, splice_more, List.drop_nil, List.take_nil, cell_int, cell_bool, fillS, splice_one, idxA, Ex.isNormal, List.set_nil, List.length_set, List.all_cons, List.all_nil, Bool.and_self, and_self, true_and, and_true, List.getElem?_nil, Int.reduceLT, Int.reduceLE, Int.reduceToNat, Int.toNat_zero, Int.toNat_one, Int.reduceAdd, Int.reduceSub, Int.reduceMul, Int.reduceNeg, Int.reduceBEq, Int.reduceBNe, Int.reduceGE, Int.reduceGT, Nat.reduceLT, trim_keep, under_fn, under_ptr, under_sl, Nat.lt_irrefl, not_lt_add, trim_tail, keepOk, ABlk.vals, Int.cast_ofNat_Int, decide_true, decide_false, List.all_cons, List.all_nil, Nat.zero_mul, Nat.mul_one, Nat.one_mul, getT_set, ht, t5, t8, List.length_set, Nat.reduceLT, c1, c2, wl, db, hK2', ep, cw'.1, wr, outs_normal]
   exact .inr hn
 obtain ⟨e, t2, K2', er, r⟩ := hb
 have ey := yield_two (P := prog) (l := H.length + 5) (args := [.int .i64 x]) (K := K) (eaq10x0 _) (ebq10x0 _) y.lp rfl (t1 := (T.set 26 (.int .i64 x)).set 9 (.int .i64 x)) (K1 := K) (by
  unfold aq10x0
  simp -implicitDefEqProofs (maxSteps := 5000000) only [go_sem, Nat.reduceShiftRight, Nat.reduceAnd, Nat.reduceBNe, Int.reduceEq, Nat.reduceAdd, Nat.reduceSub, Nat.reduceMul, Nat.reduceLeDiff, reduceIte, reduceCtorEq, Nat.reduceBEq, Nat.reduceEqDiff, wrap64, runC_loop, runC_range, callF_fn, callV_fn, callV_yld, yield_eq, yieldBody, yieldRaw, roundMid, roundEnd, rangeEnd, Bool.not_not, put_cons, put_nil, trim_same, at_zero, at_add, set_zero, set_add, store_one, write_zero, write_add, write_head, write_succ, splice_one, splice_more, List.drop_nil, List.take_nil, cell_int, cell_bool, fillS, splice_one, idxA, Ex.isNormal, List.set_nil, List.length_set, List.all_cons, List.all_nil, Bool.and_self, and_self, true_and, and_true, List.getElem?_nil, Int.reduceLT, Int.reduceLE, Int.reduceToNat, Int.toNat_zero, Int.toNat_one, Int.reduceAdd, Int.reduceSub, Int.reduceMul, Int.reduceNeg, Int.reduceBEq, Int.reduceBNe, Int.reduceGE, Int.reduceGT, Nat.reduceLT, trim_keep, under_fn, under_ptr, under_sl, Nat.lt_irrefl, not_lt_add, trim_tail, keepOk, ABlk.vals, Int.cast_ofNat_Int, decide_true, decide_false, List.all_cons, List.all_nil, Nat.zero_mul, Nat.mul_one, Nat.one_mul, putParams, getT_set, ht, List.length_set, Nat.reduceLT]) y.lp (ex := e) (t2 := t2) (K2 := K2') (by rw [← hKb]; exact er) (by
  rcases r with ⟨_, _, rfl⟩ | ⟨_, _, rfl⟩
  ·exact b5
  ·rw [hKc, at_set_ne _ _ _ _ (by omega), at3 _ (by omega) (wn _ (by omega))]; exact b5)
 have hK1 : ∀ k, K[H.length + 2]? = some k → ∀ a ∈ k.vals, ∀ x, slb a = some x → x < K.length := fun k hk a ha x hx => by
  rw [y.wb] at hk; injection hk with hk; subst hk
  rw [List.mem_singleton.1 ha] at hx; exact (wg x hx).2
 rcases r with ⟨hn, rfl, rfl⟩ | ⟨hn, rfl, rfl⟩
 ·rw [show Ex.isNormal (.exit 1) = false from rfl] at ey
  simp only [Bool.false_eq_true, if_false] at ey
  obtain ⟨K4, et, h4⟩ := trim_two K (.bool false) (K2'.set (H.length + 5) (TakL .done (.exit 1) T))
  rw [et] at ey
  have l4 := two_len h4 (by rw [List.length_set]; omega)
  have a4 := fun {z} (hz : z < K.length) => two_at h4 hz
  have fs3 : FS (K2'.set (H.length + 5) (TakL .done (.exit 1) T)) (H.length + 6) w acc := fsb.frT (Fr.set _ _ (F := fun z => z = H.length + 5) rfl) fun z hz h => by have := (wg z hz).1; omega
  have fs4 : FS K4 (H.length + 6) w acc := two_gr h4 fs3 (b := H.length + 2) (vs := [w]) (by omega) (by rw [at_set_ne _ _ _ _ (by omega)]; exact b2) (by simp) hK1
  exact ⟨K4, l4, .inl ⟨hn, ey, y.step (fun b hb h2 h5 => by rw [a4 (by omega), at_set_ne _ _ _ _ h5, fb b h5]) (by omega) (by rw [a4 (by omega), at_set_ne _ _ _ _ (by omega)]; exact b2) (by rw [a4 (by omega), at_set _ _ _ (by omega)]) fs4⟩, fun b hb h2 h5 _ => by rw [a4 hb, at_set_ne _ _ _ _ h5, fb b h5]⟩
 ·rw [show Ex.isNormal .normal = true from rfl] at ey
  simp only [if_true] at ey
  obtain ⟨K4, et, h4⟩ := trim_two K (.bool true) (K2'.set (H.length + 5) (TakL .ready .normal T))
  rw [et] at ey
  have l4 := two_len h4 (by rw [List.length_set]; omega)
  have a4 := fun {z} (hz : z < K.length) => two_at h4 hz
  have og := FS.out f3
  have fsc : FS K2' (H.length + 6) w' (acc ++ [x]) := f3.frT (by rw [hKc]; exact Fr.set _ _ (F := fun z => z = H.length + 2) rfl) fun z hz h => by have := (og z hz).1; omega
  have fs3 : FS (K2'.set (H.length + 5) (TakL .ready .normal T)) (H.length + 6) w' (acc ++ [x]) := fsc.frT (Fr.set _ _ (F := fun z => z = H.length + 5) rfl) fun z hz h => by have := (og z hz).1; omega
  have wc : K2'[H.length + 2]? = some (.rw [w']) := by rw [hKc]; exact at_set _ _ _ (by omega)
  have fs4 : FS K4 (H.length + 6) w' (acc ++ [x]) := two_gr h4 fs3 (b := H.length + 2) (vs := [w']) (by omega) (by rw [at_set_ne _ _ _ _ (by omega)]; exact wc) (by simp) hK1
  have co : ∀ z, z < K.length → z ≠ H.length + 2 → z ≠ H.length + 5 → slb w ≠ some z → K4[z]? = K[z]? := fun z hz h2 h5 hw => by
   rw [a4 hz, at_set_ne _ _ _ _ h5, hKc, at_set_ne _ _ _ _ h2, at3 z hz hw]; exact fb z h5
  exact ⟨K4, l4, .inr ⟨hn, w', ey, y.step (fun b hb h2 h5 => co b (by omega) h2 h5 (wn b hb)) (by omega) (by rw [a4 (by omega), at_set_ne _ _ _ _ (by omega)]; exact wc) (by rw [a4 (by omega), at_set _ _ _ (by omega)]) fs4, fun b hb => by rw [sb3] at hb; injection hb with hb; omega⟩, co⟩
end
theorem freeB_pre (u : List Int) (n : Nat) : ∀ m, (freeB u (n + m)).take (freeB u n).length = freeB u n
 | 0 => List.take_length
 | m + 1 => by
  have ih := freeB_pre u n m
  have hl : (freeB u n).length ≤ (freeB u (n + m)).length := by
   have := congrArg List.length ih
   rw [List.length_take] at this; omega
  rw [← Nat.add_assoc, freeB, List.take_append_of_le_length hl, ih]
section
variable {H : AHeap} {cs : List AV} {a n : Int} {T : T} (ht : T.length = 36) (t5 : getT T 5 = .ptr (H.length + 1) 0) (t8 : getT T 8 = .ptr (H.length + 2) 0) {v : AV} {u : List Int} (up : u.Pairwise (· < ·)) (lu : u.length ≤ 1000000) (hn : 0 ≤ n ∧ n ≤ 4096) {A : Nat} (hA : (A : Int) = a) (hA2 : a ≤ 9223372036854775807)
include ht t5 t8 up lu hn hA hA2
structure Beside (H K : AHeap) (v w : AV) (u : List Int) : Prop where
 is : IS K v u
 lo : ∀ b, slb v = some b → H.length + 6 ≤ b
 ne : ∀ b, slb v = some b → slb w ≠ some b
set_option maxHeartbeats 8000000 in
theorem fre1L (x1 x3 x8 x9 : AV) : ∀ (m i : Nat) (K : AHeap) (w : AV) (j6 j7 j10 j11 j12 j13 j14 j15 j16 j17 j18 j19 j20 j21 j22 j23 j24 j25 j26 j27 j28 : AV), TakY H cs a n (freeB u i) .ready .normal T w K → Beside H K v w u → ((freeB u i).length : Int) ≤ n → i + m = A →
  Outs (LF l31x0 [.yld (H.length + 5), x1, .ptr (H.length + 4) 0, x3, v, .int .i64 (i : Int), j6, j7, x8, x9, j10, j11, j12, j13, j14, j15, j16, j17, j18, j19, j20, j21, j22, j23, j24, j25, j26, j27, j28] K) fun e t K' => K.length ≤ K'.length ∧ ((e = .exit 0 ∧ ((freeB u A).length : Int) ≤ n ∧ ∃ w', TakY H cs a n (freeB u A) .ready .normal T w' K') ∨ (e = .ret ∧ ∃ w', TakY H cs a n ((freeB u A).take n.toNat) .done (.exit 1) T w' K')) := by
 intro m
 obtain ⟨L0, hL0⟩ : ∃ L, L = LF l31x0 := ⟨_, rfl⟩
 have lo := loop_open hL0
 rw [← hL0]
 induction m with
 | zero =>
  intro i K w j6 j7 j10 j11 j12 j13 j14 j15 j16 j17 j18 j19 j20 j21 j22 j23 j24 j25 j26 j27 j28 y bs ln hi
  obtain rfl : i = A := by omega
  have ca := cells_rw y.ab
  have hd : decide ((i : Int) < a) = false := decide_eq_false (by omega)
  rw [lo]
  unfold l31x0
  simp -implicitDefEqProofs (maxSteps := 5000000) only [go_sem, Nat.reduceShiftRight, Nat.reduceAnd, Nat.reduceBNe, Int.reduceEq, Nat.reduceAdd, Nat.reduceSub, Nat.reduceMul, Nat.reduceLeDiff, reduceIte, reduceCtorEq, Nat.reduceBEq, Nat.reduceEqDiff, wrap64, runC_loop, runC_range, callF_fn, callV_fn, callV_yld, yield_eq, yieldBody, yieldRaw, roundMid, roundEnd, rangeEnd, Bool.not_not, put_cons, put_nil, trim_same, at_zero, at_add, set_zero, set_add, store_one, write_zero, write_add, write_head, write_succ, splice_one, splice_more, List.drop_nil, List.take_nil, cell_int, cell_bool, fillS, splice_one, idxA, Ex.isNormal, List.set_nil, List.length_set, List.all_cons, List.all_nil, Bool.and_self, and_self, true_and, and_true, List.getElem?_nil, Int.reduceLT, Int.reduceLE, Int.reduceToNat, Int.toNat_zero, Int.toNat_one, Int.reduceAdd, Int.reduceSub, Int.reduceMul, Int.reduceNeg, Int.reduceBEq, Int.reduceBNe, Int.reduceGE, Int.reduceGT, Nat.reduceLT, trim_keep, under_fn, under_ptr, under_sl, Nat.lt_irrefl, not_lt_add, trim_tail, keepOk, ABlk.vals, Int.cast_ofNat_Int, decide_true, decide_false, List.all_cons, List.all_nil, Nat.zero_mul, Nat.mul_one, Nat.one_mul, ca, hd, seqR_exit', outs_normal]
  exact .inl ⟨ln, w, y⟩
 | succ m ih =>
  intro i K w j6 j7 j10 j11 j12 j13 j14 j15 j16 j17 j18 j19 j20 j21 j22 j23 j24 j25 j26 j27 j28 y bs ln hi
  have ca := cells_rw y.ab
  have hd : decide ((i : Int) < a) = true := decide_eq_true (by omega)
  have e2 : IntKind.i64.wrap ((i : Int) + 1) = ((i + 1 : Nat) : Int) := by rw [wrap64 (by omega) (by omega)]; omega
  obtain ⟨q, eb⟩ := searchC bs.is up lu (i : Int)
  by_cases hu : (i : Int) ∈ u
  ·rw [decide_eq_true hu] at eb
   have hf : freeB u (i + 1) = freeB u i := by rw [freeB, if_pos hu, List.append_nil]
   rw [lo]
   unfold l31x0
   simp -implicitDefEqProofs (maxSteps := 5000000) only [go_sem, Nat.reduceShiftRight, Nat.reduceAnd, Nat.reduceBNe, Int.reduceEq, Nat.reduceAdd, Nat.reduceSub, Nat.reduceMul, Nat.reduceLeDiff, reduceIte, reduceCtorEq, Nat.reduceBEq, Nat.reduceEqDiff, wrap64, runC_loop, runC_range, callF_fn, callV_fn, callV_yld, yield_eq, yieldBody, yieldRaw, roundMid, roundEnd, rangeEnd, Bool.not_not, put_cons, put_nil, trim_same, at_zero, at_add, set_zero, set_add, store_one, write_zero, write_add, write_head, write_succ, splice_one, splice_more, List.drop_nil, List.take_nil, cell_int, cell_bool, fillS, splice_one, idxA, Ex.isNormal, List.set_nil, List.length_set, List.all_cons, List.all_nil, Bool.and_self, and_self, true_and, and_true, List.getElem?_nil, Int.reduceLT, Int.reduceLE, Int.reduceToNat, Int.toNat_zero, Int.toNat_one, Int.reduceAdd, Int.reduceSub, Int.reduceMul, Int.reduceNeg, Int.reduceBEq, Int.reduceBNe, Int.reduceGE, Int.reduceGT, Nat.reduceLT, trim_keep, under_fn, under_ptr, under_sl, Nat.lt_irrefl, not_lt_add, trim_tail, keepOk, ABlk.vals, Int.cast_ofNat_Int, decide_true, decide_false, List.all_cons, List.all_nil, Nat.zero_mul, Nat.mul_one, Nat.one_mul, xf_call, ca, hd, eb, e2]
   exact ih (i + 1) K w _ _ _ _ _ _ _ _ _ _ _ _ _ _ _ _ _ _ _ _ _ (by rw [hf]; exact y) bs (by rw [hf]; exact ln) (by omega)
  ·rw [decide_eq_false hu] at eb
   have hf : freeB u (i + 1) = freeB u i ++ [(i : Int)] := by rw [freeB, if_neg hu]
   obtain ⟨K', l', h, co⟩ := takRound ht t5 t8 y (by omega) (i : Int)
   rcases h with ⟨hl, ey, yd⟩ | ⟨hl, w', ey, yd, wn⟩
   ·rw [lo]
    unfold l31x0
    simp -implicitDefEqProofs (maxSteps := 5000000) only [go_sem, Nat.reduceShiftRight, Nat.reduceAnd, Nat.reduceBNe, Int.reduceEq, Nat.reduceAdd, Nat.reduceSub, Nat.reduceMul, Nat.reduceLeDiff, reduceIte, reduceCtorEq, Nat.reduceBEq, Nat.reduceEqDiff, wrap64, runC_loop, runC_range, callF_fn, callV_fn, callV_yld, Bool.not_not, put_cons, put_nil, trim_same, at_zero, at_add, set_zero, set_add, store_one, write_zero, write_add, write_head, write_succ, splice_one, splice_more, List.drop_nil, List.take_nil, cell_int, cell_bool, fillS, splice_one, idxA, Ex.isNormal, List.set_nil, List.length_set, List.all_cons, List.all_nil, Bool.and_self, and_self, true_and, and_true, List.getElem?_nil, Int.reduceLT, Int.reduceLE, Int.reduceToNat, Int.toNat_zero, Int.toNat_one, Int.reduceAdd, Int.reduceSub, Int.reduceMul, Int.reduceNeg, Int.reduceBEq, Int.reduceBNe, Int.reduceGE, Int.reduceGT, Nat.reduceLT, trim_keep, under_fn, under_ptr, under_sl, Nat.lt_irrefl, not_lt_add, trim_tail, keepOk, ABlk.vals, Int.cast_ofNat_Int, decide_true, decide_false, List.all_cons, List.all_nil, Nat.zero_mul, Nat.mul_one, Nat.one_mul, x_yield, xf_call, ca, hd, eb, ey, seqR_ret, outs_normal]
    refine ⟨l', .inr ⟨w, ?_⟩⟩
    have hp := freeB_pre u i (A - i)
    rw [show i + (A - i) = A by omega, show (freeB u i).length = n.toNat by omega] at hp
    rw [hp]; exact yd
   ·have ln' : ((freeB u (i + 1)).length : Int) ≤ n := by rw [hf, List.length_append, List.length_singleton]; omega
    have bl := bs.lo
    have isl : IS K' v u := by
     have : Fr K K' (fun z => z = H.length + 2 ∨ z = H.length + 5 ∨ slb w = some z) := ⟨l', fun b hb hn => co b hb (fun h => hn (.inl h)) (fun h => hn (.inr (.inl h))) (fun h => hn (.inr (.inr h)))⟩
     rcases bs.is with g | ⟨b, o, l, e, c, rfl, hc, gg, hle⟩
     ·exact .inl g
     ·have hb := bl b rfl
      have hne := bs.ne b rfl
      exact .inr ⟨b, o, l, e, c, rfl, this.cells hc (by rintro (h | h | h) <;> first | omega | exact hne h), gg, hle⟩
    have ne' : ∀ b, slb v = some b → slb w' ≠ some b := fun b hb hw => by
     have hbK : b < K.length := by
      rcases bs.is with ⟨rfl, _⟩ | ⟨b', o, l, e, c, rfl, hc, _⟩
      ·cases hb
      ·injection hb with hb; subst hb; exact lt_of_cells hc
     have := wn b hw; omega
    rw [lo]
    unfold l31x0
    simp -implicitDefEqProofs (maxSteps := 5000000) only [go_sem, Nat.reduceShiftRight, Nat.reduceAnd, Nat.reduceBNe, Int.reduceEq, Nat.reduceAdd, Nat.reduceSub, Nat.reduceMul, Nat.reduceLeDiff, reduceIte, reduceCtorEq, Nat.reduceBEq, Nat.reduceEqDiff, wrap64, runC_loop, runC_range, callF_fn, callV_fn, callV_yld, Bool.not_not, put_cons, put_nil, trim_same, at_zero, at_add, set_zero, set_add, store_one, write_zero, write_add, write_head, write_succ, splice_one, splice_more, List.drop_nil, List.take_nil, cell_int, cell_bool, fillS, splice_one, idxA, Ex.isNormal, List.set_nil, List.length_set, List.all_cons, List.all_nil, Bool.and_self, and_self, true_and, and_true, List.getElem?_nil, Int.reduceLT, Int.reduceLE, Int.reduceToNat, Int.toNat_zero, Int.toNat_one, Int.reduceAdd, Int.reduceSub, Int.reduceMul, Int.reduceNeg, Int.reduceBEq, Int.reduceBNe, Int.reduceGE, Int.reduceGT, Nat.reduceLT, trim_keep, under_fn, under_ptr, under_sl, Nat.lt_irrefl, not_lt_add, trim_tail, keepOk, ABlk.vals, Int.cast_ofNat_Int, decide_true, decide_false, List.all_cons, List.all_nil, Nat.zero_mul, Nat.mul_one, Nat.one_mul, x_yield, xf_call, ca, hd, eb, ey, e2]
    exact (ih (i + 1) K' w' _ _ _ _ _ _ _ _ _ _ _ _ _ _ _ _ _ _ _ _ _ (by rw [hf]; exact yd) ⟨isl, bl, ne'⟩ ln' (by omega)).mono fun e t K2 ⟨q1, q2⟩ => ⟨by omega, q2⟩
set_option maxHeartbeats 8000000 in
theorem free1C {L : List SnS} {P : List PrS} (s : SA H cs L P) (hu : u = usedS L P) {K0 : AHeap} (y : TakY H cs a n [] .ready .normal T .nilSl K0) : ∃ K1, callBody prog (envX prog XF) 31 [.yld (H.length + 5), .ptr (H.length + 3) 0, .ptr (H.length + 4) 0] K0 = trim K0 (some (.tup [], K1)) ∧ K0.length ≤ K1.length ∧ ((((freeB u A).length : Int) ≤ n ∧ ∃ w', TakY H cs a n (freeB u A) .ready .normal T w' K1) ∨ ∃ w', TakY H cs a n ((freeB u A).take n.toNat) .done (.exit 1) T w' K1) := by
 have kl := y.len
 have aH : Adds H K0 := Adds.of_get (by omega) y.old
 have s0 := s.adds aH
 obtain ⟨v1, K2, eu, A2, i2, wb⟩ := usedC s0
 have eu := xf_used eu
 rw [← hu] at i2
 have y2 : TakY H cs a n (freeB u 0) .ready .normal T .nilSl K2 := ⟨fun b hb => by rw [A2.old b (by omega)]; exact y.old b hb, by have := A2.len; omega, A2.at y.nb, A2.at y.wb, A2.at y.sb, A2.at y.ab, A2.at y.lp, .inl ⟨rfl, rfl⟩⟩
 have l0 := fre1L (H := H) (cs := cs) (a := a) (n := n) (T := T) (v := v1) ht t5 t8 up lu hn hA hA2 (m := A) (i := 0) (K := K2) (w := .nilSl)
 rw [show ((0 : Nat) : Int) = 0 from rfl] at l0
 have cS := cells_rw y.sb
 obtain ⟨_, hc, vd, vs, nx, kd, pd, vp, rfl, k1, k2, k3⟩ := s.cells
 have key : Outs (runC (envX prog XF) (b31 (envX prog XF)) ([.yld (H.length + 5), .ptr (H.length + 3) 0, .ptr (H.length + 4) 0] ++ List.replicate (29 - [AV.yld (H.length + 5), .ptr (H.length + 3) 0, .ptr (H.length + 4) 0].length) .undef) K0) fun e' t K' => (K2.length ≤ K'.length ∧ ((((freeB u A).length : Int) ≤ n ∧ ∃ w', TakY H [vd, vs, .int .i64 nx, .int .i64 kd, .int .i64 pd, vp] a n (freeB u A) .ready .normal T w' K') ∨ ∃ w', TakY H [vd, vs, .int .i64 nx, .int .i64 kd, .int .i64 pd, vp] a n ((freeB u A).take n.toNat) .done (.exit 1) T w' K')) ∧ fin [] (some (e', t, K')) = some (.tup [], K') := by
  unfold b31
  generalize hQ : (fun (e' : Ex) (t : List AV) (K' : AHeap) => (K2.length ≤ K'.length ∧ ((((freeB u A).length : Int) ≤ n ∧ ∃ w', TakY H [vd, vs, .int .i64 nx, .int .i64 kd, .int .i64 pd, vp] a n (freeB u A) .ready .normal T w' K') ∨ ∃ w', TakY H [vd, vs, .int .i64 nx, .int .i64 kd, .int .i64 pd, vp] a n ((freeB u A).take n.toNat) .done (.exit 1) T w' K')) ∧ fin [] (some (e', t, K')) = some (AV.tup [], K')) = Q1
  simp -implicitDefEqProofs (maxSteps := 5000000) only [go_sem, Nat.reduceShiftRight, Nat.reduceAnd, Nat.reduceBNe, Int.reduceEq, Nat.reduceAdd, Nat.reduceSub, Nat.reduceMul, Nat.reduceLeDiff, reduceIte, reduceCtorEq, Nat.reduceBEq, Nat.reduceEqDiff, wrap64, runC_loop, runC_range, callF_fn, callV_fn, callV_yld, yield_eq, yieldBody, yieldRaw, roundMid, roundEnd, rangeEnd, Bool.not_not, put_cons, put_nil, trim_same, at_zero, at_add, set_zero, set_add, store_one, write_zero, write_add, write_head, write_succ, splice_one, splice_more, List.drop_nil, List.take_nil, cell_int, cell_bool, fillS, splice_one, idxA, Ex.isNormal, List.set_nil, List.length_set, List.all_cons, List.all_nil, Bool.and_self, and_self, true_and, and_true, List.getElem?_nil, Int.reduceLT, Int.reduceLE, Int.reduceToNat, Int.toNat_zero, Int.toNat_one, Int.reduceAdd, Int.reduceSub, Int.reduceMul, Int.reduceNeg, Int.reduceBEq, Int.reduceBNe, Int.reduceGE, Int.reduceGT, Nat.reduceLT, trim_keep, under_fn, under_ptr, under_sl, Nat.lt_irrefl, not_lt_add, trim_tail, keepOk, ABlk.vals, Int.cast_ofNat_Int, decide_true, decide_false, List.all_cons, List.all_nil, Nat.zero_mul, Nat.mul_one, Nat.one_mul, runC_loop, x_loop, cS, eu]
  unfold LF at l0
  generalize (envL prog).loop (runC (envX prog XF) (l31x0 (envX prog XF))) = L0 at l0 ⊢
  refine outs_ctx (fun r => blockR 0 r) (l0 _ _ _ _ _ _ _ _ _ _ _ _ _ _ _ _ _ _ _ _ _ _ _ _ _ y2 ⟨i2, fun b hb => by have := wb b hb; omega, fun b _ h => by cases h⟩ (by show ((0 : Nat) : Int) ≤ n; omega) (by omega)) ?_
  rintro e t K' ⟨hl, ⟨rfl, h⟩ | ⟨rfl, h⟩⟩
  ·simp -implicitDefEqProofs (maxSteps := 5000000) only [go_sem, Nat.reduceShiftRight, Nat.reduceAnd, Nat.reduceBNe, Int.reduceEq, Nat.reduceAdd, Nat.reduceSub, Nat.reduceMul, Nat.reduceLeDiff, reduceIte, reduceCtorEq, Nat.reduceBEq, Nat.reduceEqDiff, outs_normal]
   subst hQ
   exact ⟨⟨hl, .inl h⟩, rfl⟩
  ·simp -implicitDefEqProofs (maxSteps := 5000000) only [go_sem, Nat.reduceShiftRight, Nat.reduceAnd, Nat.reduceBNe, Int.reduceEq, Nat.reduceAdd, Nat.reduceSub, Nat.reduceMul, Nat.reduceLeDiff, reduceIte, reduceCtorEq, Nat.reduceBEq, Nat.reduceEqDiff, outs_normal]
   subst hQ
   exact ⟨⟨hl, .inr h⟩, rfl⟩
 obtain ⟨e', t, K', hr, ⟨h1, h2⟩, hf⟩ := key
 exact ⟨K', by rw [d31, hr, hf], by have := A2.len; omega, h2⟩
end
end Go.Proofs.Ytfioahnogphnfaa.G12
end
section
namespace Go.Proofs.Ytfioahnogphnfaa.G12
open Go Go.Proofs.Ytfioahnogphnfaa.Eng
theorem freeN_len {u : List Int} (up : u.Pairwise (· < ·)) (A : Nat) : freeN u (A : Int) = ((freeB u A).length : Int) := by
 have h := free_all (up_nodup up) A
 unfold freeN
 split
 ·obtain rfl : A = 0 := by omega
  rfl
 ·omega
section
variable {H : AHeap} {cs : List AV} {L : List SnS} {P : List PrS} (s : SA H cs L P) {n : Int} {A : Nat} (hA2 : (A : Int) ≤ 9223372036854775807) (hn : 0 ≤ n ∧ n ≤ 4096) (hf : n ≤ ((freeB (usedS L P) A).length : Int))
include s hA2 hn hf
set_option maxHeartbeats 8000000 in
theorem takRange {T : T} (ht : T.length = 36) (t5 : getT T 5 = .ptr (H.length + 1) 0) (t8 : getT T 8 = .ptr (H.length + 2) 0) (tf : getT T 25 = .fn 31 [.ptr (H.length + 3) 0, .ptr (H.length + 4) 0]) :
  Outs (runC (envX prog XG) (.range (X 25) [26] kaq10x0 kbq10x0) T (H ++ [ABlk.rw cs, .rw [.int .i64 n], .rw [.nilSl], .rw cs, .rw [.int .i64 (A : Int)]])) fun e t K => t = T ∧ (e = .normal ∨ e = .exit 1) ∧ ∃ w, TakY H cs (A : Int) n ((freeB (usedS L P) A).take n.toNat) .exhausted e T w K := by
 obtain ⟨G, hG⟩ : ∃ G, G = H ++ [ABlk.rw cs, .rw [.int .i64 n], .rw [.nilSl], .rw cs, .rw [.int .i64 (A : Int)]] := ⟨_, rfl⟩
 obtain ⟨K0, hK0⟩ : ∃ K0, K0 = G ++ [TakL .ready .normal T] := ⟨_, rfl⟩
 have lG : G.length = H.length + 5 := by rw [hG]; simp
 have l0 : K0.length = H.length + 6 := by rw [hK0, List.length_append, lG]; rfl
 have y0 : TakY H cs (A : Int) n [] .ready .normal T .nilSl K0 := ⟨fun z hz => by rw [hK0, hG, List.getElem?_append_left (by simp; omega), List.getElem?_append_left hz], by omega, by rw [hK0, hG]; simp, by rw [hK0, hG]; simp, by rw [hK0, hG]; simp, by rw [hK0, hG]; simp, by rw [hK0, ← lG]; simp, .inl ⟨rfl, rfl⟩⟩
 rw [← hG]
 have cf : ∀ K, callF (envX prog XG) (X 25 T) [.yld G.length] K = (envX prog XG).call 31 [.yld (H.length + 5), .ptr (H.length + 3) 0, .ptr (H.length + 4) 0] K := fun K => by
  rw [lG, X_ap, tf]; rfl
 obtain ⟨K1, ec, hl, h1⟩ := free1C ht t5 t8 (show (usedS L P).Pairwise (· < ·) from usd_up _) (usedS_len s.fi s.lp) hn (a := (A : Int)) rfl hA2 s rfl y0
 obtain ⟨K4, et, h4⟩ := trim_two K0 (.tup []) K1
 rw [et] at ec
 have ec := xg_hit ec
 have hK1 : ∀ k, K0[H.length + 2]? = some k → ∀ a ∈ k.vals, ∀ x, slb a = some x → x < K0.length := fun k hk a ha x hx => by
  rw [y0.wb] at hk; injection hk with hk; subst hk
  rw [List.mem_singleton.1 ha] at hx; cases hx
 have fin : ∀ {e : Ex} {st : LoopState} {w : AV} {acc : List Int}, TakY H cs (A : Int) n acc st e T w K1 → st ≠ .busy → runC (envX prog XG) (.range (X 25) [26] kaq10x0 kbq10x0) T G = some (e, T, K4.set (H.length + 5) (TakL .exhausted e T)) ∧ TakY H cs (A : Int) n acc .exhausted e T w (K4.set (H.length + 5) (TakL .exhausted e T)) := by
  intro e st w acc y hs
  have hl := y.len
  have a4 := fun {z} (hz : z < K0.length) => two_at h4 hz
  have l4 := two_len h4 (by omega)
  have f4 : FS K4 (H.length + 6) w acc := two_gr h4 y.fs (by omega) y.wb (by simp) hK1
  have := range_all (E := envX prog XG) (f := X 25) (ps := [26]) (ka := kaq10x0) (kb := kbq10x0) (t := T) (h := G) (K := K4) (e := e) (st := st) (v := .tup []) (by rw [cf]; rw [hK0] at ec; exact ec) (by rw [lG, a4 (by omega)]; exact y.lp) hs
  rw [lG] at this
  refine ⟨this, y.step (fun b hb h3 h5 => by rw [at_set_ne _ _ _ _ (by omega), a4 (by omega)]) (by rw [List.length_set]; omega) (by rw [at_set_ne _ _ _ _ (by omega), a4 (by omega)]; exact y.wb) (at_set _ _ _ (by omega)) (f4.frT (Fr.set _ _ (F := fun b => b = H.length + 5) rfl) fun b hb h => by have := (FS.out f4 b hb).1; omega)⟩
 rcases h1 with ⟨hl, w, y⟩ | ⟨w, y⟩
 ·obtain ⟨e1, e2⟩ := fin y (by decide)
  rw [e1, List.take_of_length_le (show (freeB (usedS L P) A).length ≤ n.toNat by omega)]
  exact ⟨_, _, _, rfl, rfl, .inl rfl, w, e2⟩
 ·obtain ⟨e1, e2⟩ := fin y (by decide)
  rw [e1]
  exact ⟨_, _, _, rfl, rfl, .inr rfl, w, e2⟩
end
theorem tup_end {H K : AHeap} {w : AV} {e : Int} {zs : List Int} (a : Adds H K) (g : IS K w zs) (wb : ∀ b, slb w = some b → H.length ≤ b) : ∃ K', trim H (some (.tup [w, .int .i64 e], K)) = some (.tup [w, .int .i64 e], K') ∧ Adds H K' ∧ IS K' w zs := by
 rcases trim_adds (v := .tup [w, .int .i64 e]) a with e | ⟨u, e⟩
 ·exact ⟨K, e, a, g⟩
 ·refine ⟨H, e, Adds.refl H, ?_⟩
  have u2 : w.under H.length = true := by
   have : underAll H.length [w, .int .i64 _] = true := u
   simp only [underAll, Bool.and_eq_true] at this
   exact this.1
  rcases g with g | ⟨b, o, l, ex, cs, rfl, _⟩
  ·exact .inl g
  ·have := wb b rfl
   have := slb_under u2 rfl
   omega
def takeS (u : List Int) (A : Nat) (n : Int) : List Int × Int := if n < 0 ∨ 4096 < n then ([], 1) else if ((freeB u A).length : Int) < n then ([], 12) else ((freeB u A).take n.toNat, 0)
set_option maxHeartbeats 8000000 in
theorem takeC {H : AHeap} {cs : List AV} {L : List SnS} {P : List PrS} (s : SA H cs L P) (A : Nat) (hA2 : (A : Int) ≤ 9223372036854775807) (n : Int) : ∃ w K, callBody prog (envX prog XG) 10 [.agg cs, .int .i64 (A : Int), .int .i64 n] H = some (.tup [w, .int .i64 (takeS (usedS L P) A n).2], K) ∧ Adds H K ∧ IS K w (takeS (usedS L P) A n).1 := by
 obtain ⟨H1, hH1⟩ : ∃ K, K = H ++ [ABlk.rw cs, .rw [.int .i64 n]] := ⟨_, rfl⟩
 have A1 : Adds H H1 := ⟨_, hH1⟩
 have c1 : cellsOf H1 H.length = some cs := by rw [hH1]; unfold cellsOf; simp
 have n1 : cellsOf H1 (H.length + 1) = some [.int .i64 n] := by rw [hH1]; unfold cellsOf; simp
 have ef := xg_free (freeC (s.adds A1) (A : Int) hA2)
 rw [freeN_len (show (usedS L P).Pairwise (· < ·) from usd_up _)] at ef
 obtain ⟨H2, hH2⟩ : ∃ K, K = H1 ++ [ABlk.rw [.nilSl]] := ⟨_, rfl⟩
 have A2 : Adds H1 H2 := ⟨_, hH2⟩
 have c2 := A2.cells c1
 have l2 : H2.length = H.length + 3 := by rw [hH2, hH1]; simp
 have en := freeFn (s.adds (A1.trans A2)) (A : Int)
 rw [l2] at en
 have hr := fun hn hf (T : T) => takRange s hA2 (n := n) hn hf (T := T)
 obtain ⟨_, hc, vd, vs, nx, kd, pd, vp, rfl, k1, k2, k3⟩ := s.cells
 obtain ⟨r1, r2⟩ : ∃ r, takeS (usedS L P) A n = r := ⟨_, rfl⟩
 have key : Outs (runC (envX prog XG) (b10 (envX prog XG)) ([.agg [vd, vs, .int .i64 nx, .int .i64 kd, .int .i64 pd, vp], .int .i64 (A : Int), .int .i64 n] ++ List.replicate (36 - [AV.agg [vd, vs, .int .i64 nx, .int .i64 kd, .int .i64 pd, vp], .int .i64 (A : Int), .int .i64 n].length) .undef) H) fun e' t K => ∃ w, Adds H K ∧ IS K w (takeS (usedS L P) A n).1 ∧ (∀ b, slb w = some b → H.length ≤ b) ∧ fin [.tmp 6, .tmp 7] (some (e', t, K)) = some (.tup [w, .int .i64 (takeS (usedS L P) A n).2], K) := by
  unfold b10
  generalize hQ : (fun (e' : Ex) (t : T) (K : AHeap) => ∃ w, Adds H K ∧ IS K w (takeS (usedS L P) A n).1 ∧ (∀ b, slb w = some b → H.length ≤ b) ∧ fin [.tmp 6, .tmp 7] (some (e', t, K)) = some (AV.tup [w, .int .i64 (takeS (usedS L P) A n).2], K)) = Q
  have hH1' := hH1.symm
  have hH2' := hH2.symm
  by_cases h1 : n < 0
  ·have d1 := decide_eq_true h1
   have hs : takeS (usedS L P) A n = ([], 1) := by unfold takeS; rw [if_pos (.inl h1)]
   simp -implicitDefEqProofs (maxSteps := 5000000) only [go_sem, Nat.reduceShiftRight, Nat.reduceAnd, Nat.reduceBNe, Int.reduceEq, Nat.reduceAdd, Nat.reduceSub, Nat.reduceMul, Nat.reduceLeDiff, reduceIte, reduceCtorEq, Nat.reduceBEq, Nat.reduceEqDiff, wrap64, runC_loop, runC_range, callF_fn, callV_fn, callV_yld, yield_eq, yieldBody, yieldRaw, roundMid, roundEnd, rangeEnd, Bool.not_not, put_cons, put_nil, trim_same, at_zero, at_add, set_zero, set_add, store_one, write_zero, write_add, write_head, write_succ, splice_one, splice_more, List.drop_nil, List.take_nil, cell_int, cell_bool, fillS, splice_one, idxA, Ex.isNormal, List.set_nil, List.length_set, List.all_cons, List.all_nil, Bool.and_self, and_self, true_and, and_true, List.getElem?_nil, Int.reduceLT, Int.reduceLE, Int.reduceToNat, Int.toNat_zero, Int.toNat_one, Int.reduceAdd, Int.reduceSub, Int.reduceMul, Int.reduceNeg, Int.reduceBEq, Int.reduceBNe, Int.reduceGE, Int.reduceGT, Nat.reduceLT, trim_keep, under_fn, under_ptr, under_sl, Nat.lt_irrefl, not_lt_add, trim_tail, keepOk, ABlk.vals, Int.cast_ofNat_Int, decide_true, decide_false, List.all_cons, List.all_nil, Nat.zero_mul, Nat.mul_one, Nat.one_mul, cellsA_agg, k1, k2, k3, hH1', n1, d1, outs_normal]
   subst hQ
   rw [hs]
   refine ⟨.nilSl, A1, .inl ⟨rfl, rfl⟩, fun b h => (by cases h), ?_⟩
   simp -implicitDefEqProofs (maxSteps := 5000000) only [go_sem, Nat.reduceShiftRight, Nat.reduceAnd, Nat.reduceBNe, Int.reduceEq, Nat.reduceAdd, Nat.reduceSub, Nat.reduceMul, Nat.reduceLeDiff, reduceIte, reduceCtorEq, Nat.reduceBEq, Nat.reduceEqDiff, wrap64, runC_loop, runC_range, callF_fn, callV_fn, callV_yld, yield_eq, yieldBody, yieldRaw, roundMid, roundEnd, rangeEnd, Bool.not_not, put_cons, put_nil, trim_same, at_zero, at_add, set_zero, set_add, store_one, write_zero, write_add, write_head, write_succ, splice_one, splice_more, List.drop_nil, List.take_nil, cell_int, cell_bool, fillS, splice_one, idxA, Ex.isNormal, List.set_nil, List.length_set, List.all_cons, List.all_nil, Bool.and_self, and_self, true_and, and_true, List.getElem?_nil, Int.reduceLT, Int.reduceLE, Int.reduceToNat, Int.toNat_zero, Int.toNat_one, Int.reduceAdd, Int.reduceSub, Int.reduceMul, Int.reduceNeg, Int.reduceBEq, Int.reduceBNe, Int.reduceGE, Int.reduceGT, Nat.reduceLT, trim_keep, under_fn, under_ptr, under_sl, Nat.lt_irrefl, not_lt_add, trim_tail, keepOk, ABlk.vals, Int.cast_ofNat_Int, decide_true, decide_false, List.all_cons, List.all_nil, Nat.zero_mul, Nat.mul_one, Nat.one_mul]
  have d1 := decide_eq_false h1
  by_cases h2 : n > 4096
  ·have d2 := decide_eq_true h2
   have hs : takeS (usedS L P) A n = ([], 1) := by unfold takeS; rw [if_pos (.inr h2)]
   simp -implicitDefEqProofs (maxSteps := 5000000) only [go_sem, Nat.reduceShiftRight, Nat.reduceAnd, Nat.reduceBNe, Int.reduceEq, Nat.reduceAdd, Nat.reduceSub, Nat.reduceMul, Nat.reduceLeDiff, reduceIte, reduceCtorEq, Nat.reduceBEq, Nat.reduceEqDiff, wrap64, runC_loop, runC_range, callF_fn, callV_fn, callV_yld, yield_eq, yieldBody, yieldRaw, roundMid, roundEnd, rangeEnd, Bool.not_not, put_cons, put_nil, trim_same, at_zero, at_add, set_zero, set_add, store_one, write_zero, write_add, write_head, write_succ, splice_one, splice_more, List.drop_nil, List.take_nil, cell_int, cell_bool, fillS, splice_one, idxA, Ex.isNormal, List.set_nil, List.length_set, List.all_cons, List.all_nil, Bool.and_self, and_self, true_and, and_true, List.getElem?_nil, Int.reduceLT, Int.reduceLE, Int.reduceToNat, Int.toNat_zero, Int.toNat_one, Int.reduceAdd, Int.reduceSub, Int.reduceMul, Int.reduceNeg, Int.reduceBEq, Int.reduceBNe, Int.reduceGE, Int.reduceGT, Nat.reduceLT, trim_keep, under_fn, under_ptr, under_sl, Nat.lt_irrefl, not_lt_add, trim_tail, keepOk, ABlk.vals, Int.cast_ofNat_Int, decide_true, decide_false, List.all_cons, List.all_nil, Nat.zero_mul, Nat.mul_one, Nat.one_mul, cellsA_agg, k1, k2, k3, hH1', n1, d1, d2, outs_normal]
   subst hQ
   rw [hs]
   refine ⟨.nilSl, A1, .inl ⟨rfl, rfl⟩, fun b h => (by cases h), ?_⟩
   simp -implicitDefEqProofs (maxSteps := 5000000) only [go_sem, Nat.reduceShiftRight, Nat.reduceAnd, Nat.reduceBNe, Int.reduceEq, Nat.reduceAdd, Nat.reduceSub, Nat.reduceMul, Nat.reduceLeDiff, reduceIte, reduceCtorEq, Nat.reduceBEq, Nat.reduceEqDiff, wrap64, runC_loop, runC_range, callF_fn, callV_fn, callV_yld, yield_eq, yieldBody, yieldRaw, roundMid, roundEnd, rangeEnd, Bool.not_not, put_cons, put_nil, trim_same, at_zero, at_add, set_zero, set_add, store_one, write_zero, write_add, write_head, write_succ, splice_one, splice_more, List.drop_nil, List.take_nil, cell_int, cell_bool, fillS, splice_one, idxA, Ex.isNormal, List.set_nil, List.length_set, List.all_cons, List.all_nil, Bool.and_self, and_self, true_and, and_true, List.getElem?_nil, Int.reduceLT, Int.reduceLE, Int.reduceToNat, Int.toNat_zero, Int.toNat_one, Int.reduceAdd, Int.reduceSub, Int.reduceMul, Int.reduceNeg, Int.reduceBEq, Int.reduceBNe, Int.reduceGE, Int.reduceGT, Nat.reduceLT, trim_keep, under_fn, under_ptr, under_sl, Nat.lt_irrefl, not_lt_add, trim_tail, keepOk, ABlk.vals, Int.cast_ofNat_Int, decide_true, decide_false, List.all_cons, List.all_nil, Nat.zero_mul, Nat.mul_one, Nat.one_mul]
  have d2 := decide_eq_false h2
  by_cases h3 : n > ((freeB (usedS L P) A).length : Int)
  ·have d3 := decide_eq_true h3
   have hs : takeS (usedS L P) A n = ([], 12) := by unfold takeS; rw [if_neg (by omega), if_pos h3]
   simp -implicitDefEqProofs (maxSteps := 5000000) only [go_sem, Nat.reduceShiftRight, Nat.reduceAnd, Nat.reduceBNe, Int.reduceEq, Nat.reduceAdd, Nat.reduceSub, Nat.reduceMul, Nat.reduceLeDiff, reduceIte, reduceCtorEq, Nat.reduceBEq, Nat.reduceEqDiff, wrap64, runC_loop, runC_range, callF_fn, callV_fn, callV_yld, yield_eq, yieldBody, yieldRaw, roundMid, roundEnd, rangeEnd, Bool.not_not, put_cons, put_nil, trim_same, at_zero, at_add, set_zero, set_add, store_one, write_zero, write_add, write_head, write_succ, splice_one, splice_more, List.drop_nil, List.take_nil, cell_int, cell_bool, fillS, splice_one, idxA, Ex.isNormal, List.set_nil, List.length_set, List.all_cons, List.all_nil, Bool.and_self, and_self, true_and, and_true, List.getElem?_nil, Int.reduceLT, Int.reduceLE, Int.reduceToNat, Int.toNat_zero, Int.toNat_one, Int.reduceAdd, Int.reduceSub, Int.reduceMul, Int.reduceNeg, Int.reduceBEq, Int.reduceBNe, Int.reduceGE, Int.reduceGT, Nat.reduceLT, trim_keep, under_fn, under_ptr, under_sl, Nat.lt_irrefl, not_lt_add, trim_tail, keepOk, ABlk.vals, Int.cast_ofNat_Int, decide_true, decide_false, List.all_cons, List.all_nil, Nat.zero_mul, Nat.mul_one, Nat.one_mul, cellsA_agg, k1, k2, k3, hH1', c1, n1, d1, d2, ef, d3, outs_normal]
   subst hQ
   rw [hs]
   refine ⟨.nilSl, A1, .inl ⟨rfl, rfl⟩, fun b h => (by cases h), ?_⟩
   simp -implicitDefEqProofs (maxSteps := 5000000) only [go_sem, Nat.reduceShiftRight, Nat.reduceAnd, Nat.reduceBNe, Int.reduceEq, Nat.reduceAdd, Nat.reduceSub, Nat.reduceMul, Nat.reduceLeDiff, reduceIte, reduceCtorEq, Nat.reduceBEq, Nat.reduceEqDiff, wrap64, runC_loop, runC_range, callF_fn, callV_fn, callV_yld, yield_eq, yieldBody, yieldRaw, roundMid, roundEnd, rangeEnd, Bool.not_not, put_cons, put_nil, trim_same, at_zero, at_add, set_zero, set_add, store_one, write_zero, write_add, write_head, write_succ, splice_one, splice_more, List.drop_nil, List.take_nil, cell_int, cell_bool, fillS, splice_one, idxA, Ex.isNormal, List.set_nil, List.length_set, List.all_cons, List.all_nil, Bool.and_self, and_self, true_and, and_true, List.getElem?_nil, Int.reduceLT, Int.reduceLE, Int.reduceToNat, Int.toNat_zero, Int.toNat_one, Int.reduceAdd, Int.reduceSub, Int.reduceMul, Int.reduceNeg, Int.reduceBEq, Int.reduceBNe, Int.reduceGE, Int.reduceGT, Nat.reduceLT, trim_keep, under_fn, under_ptr, under_sl, Nat.lt_irrefl, not_lt_add, trim_tail, keepOk, ABlk.vals, Int.cast_ofNat_Int, decide_true, decide_false, List.all_cons, List.all_nil, Nat.zero_mul, Nat.mul_one, Nat.one_mul]
  have d3 := decide_eq_false h3
  have hs : takeS (usedS L P) A n = ((freeB (usedS L P) A).take n.toNat, 0) := by unfold takeS; rw [if_neg (by omega), if_neg h3]
  have hr := hr (by omega) (by omega)
  have eG : H2 ++ [ABlk.rw [vd, vs, .int .i64 nx, .int .i64 kd, .int .i64 pd, vp], .rw [.int .i64 (A : Int)]] = H ++ [ABlk.rw [vd, vs, .int .i64 nx, .int .i64 kd, .int .i64 pd, vp], .rw [.int .i64 n], .rw [.nilSl], .rw [vd, vs, .int .i64 nx, .int .i64 kd, .int .i64 pd, vp], .rw [.int .i64 (A : Int)]] := by rw [hH2, hH1]; simp
  rw [eG] at en
  have lh1 : H1.length = H.length + 2 := by rw [hH1]; simp
  simp -implicitDefEqProofs (maxSteps := 5000000) only [go_sem, Nat.reduceShiftRight, Nat.reduceAnd, Nat.reduceBNe, Int.reduceEq, Nat.reduceAdd, Nat.reduceSub, Nat.reduceMul, Nat.reduceLeDiff, reduceIte, reduceCtorEq, Nat.reduceBEq, Nat.reduceEqDiff, wrap64, runC_loop, callF_fn, callV_fn, callV_yld, Bool.not_not, put_cons, put_nil, trim_same, at_zero, at_add, set_zero, set_add, store_one, write_zero, write_add, write_head, write_succ, splice_one, splice_more, List.drop_nil, List.take_nil, cell_int, cell_bool, fillS, splice_one, idxA, Ex.isNormal, List.set_nil, List.length_set, List.all_cons, List.all_nil, Bool.and_self, and_self, true_and, and_true, List.getElem?_nil, Int.reduceLT, Int.reduceLE, Int.reduceToNat, Int.toNat_zero, Int.toNat_one, Int.reduceAdd, Int.reduceSub, Int.reduceMul, Int.reduceNeg, Int.reduceBEq, Int.reduceBNe, Int.reduceGE, Int.reduceGT, Nat.reduceLT, trim_keep, under_fn, under_ptr, under_sl, Nat.lt_irrefl, not_lt_add, trim_tail, keepOk, ABlk.vals, Int.cast_ofNat_Int, decide_true, decide_false, List.all_cons, List.all_nil, Nat.zero_mul, Nat.mul_one, Nat.one_mul, cellsA_agg, k1, k2, k3, hH1', c1, n1, d1, d2, ef, d3, hH2', lh1, c2, xg_call, en]
  refine outs_ctx (fun r => seqR (blockR 1 r) _) (hr _ rfl rfl rfl rfl) ?_
  rintro e t K ⟨rfl, h, w, y⟩
  have aK : Adds H K := Adds.of_get (by have := y.len; omega) y.old
  have cw := cells_rw y.wb
  rcases h with rfl | rfl <;>
  ·simp -implicitDefEqProofs (maxSteps := 5000000) only [go_sem, Nat.reduceShiftRight, Nat.reduceAnd, Nat.reduceBNe, Int.reduceEq, Nat.reduceAdd, Nat.reduceSub, Nat.reduceMul, Nat.reduceLeDiff, reduceIte, reduceCtorEq, Nat.reduceBEq, Nat.reduceEqDiff, wrap64, runC_loop, runC_range, callF_fn, callV_fn, callV_yld, yield_eq, yieldBody, yieldRaw, roundMid, roundEnd, rangeEnd, Bool.not_not, put_cons, put_nil, trim_same, at_zero, at_add, set_zero, set_add, store_one, write_zero, write_add, write_head, write_succ, splice_one, splice_more, List.drop_nil, List.take_nil, cell_int, cell_bool, fillS, splice_one, idxA, Ex.isNormal, List.set_nil, List.length_set, List.all_cons, List.all_nil, Bool.and_self, and_self, true_and, and_true, List.getElem?_nil, Int.reduceLT, Int.reduceLE, Int.reduceToNat, Int.toNat_zero, Int.toNat_one, Int.reduceAdd, Int.reduceSub, Int.reduceMul, Int.reduceNeg, Int.reduceBEq, Int.reduceBNe, Int.reduceGE, Int.reduceGT, Nat.reduceLT, trim_keep, under_fn, under_ptr, under_sl, Nat.lt_irrefl, not_lt_add, trim_tail, keepOk, ABlk.vals, Int.cast_ofNat_Int, decide_true, decide_false, List.all_cons, List.all_nil, Nat.zero_mul, Nat.mul_one, Nat.one_mul, cw, outs_normal]
   subst hQ
   rw [hs]
   refine ⟨w, aK, GR.is y.fs, fun b hb => by have := (FS.out y.fs b hb).1; omega, ?_⟩
   simp -implicitDefEqProofs (maxSteps := 5000000) only [go_sem, Nat.reduceShiftRight, Nat.reduceAnd, Nat.reduceBNe, Int.reduceEq, Nat.reduceAdd, Nat.reduceSub, Nat.reduceMul, Nat.reduceLeDiff, reduceIte, reduceCtorEq, Nat.reduceBEq, Nat.reduceEqDiff, wrap64, runC_loop, runC_range, callF_fn, callV_fn, callV_yld, yield_eq, yieldBody, yieldRaw, roundMid, roundEnd, rangeEnd, Bool.not_not, put_cons, put_nil, trim_same, at_zero, at_add, set_zero, set_add, store_one, write_zero, write_add, write_head, write_succ, splice_one, splice_more, List.drop_nil, List.take_nil, cell_int, cell_bool, fillS, splice_one, idxA, Ex.isNormal, List.set_nil, List.length_set, List.all_cons, List.all_nil, Bool.and_self, and_self, true_and, and_true, List.getElem?_nil, Int.reduceLT, Int.reduceLE, Int.reduceToNat, Int.toNat_zero, Int.toNat_one, Int.reduceAdd, Int.reduceSub, Int.reduceMul, Int.reduceNeg, Int.reduceBEq, Int.reduceBNe, Int.reduceGE, Int.reduceGT, Nat.reduceLT, trim_keep, under_fn, under_ptr, under_sl, Nat.lt_irrefl, not_lt_add, trim_tail, keepOk, ABlk.vals, Int.cast_ofNat_Int, decide_true, decide_false, List.all_cons, List.all_nil, Nat.zero_mul, Nat.mul_one, Nat.one_mul]
 obtain ⟨e', t, K, hr, w, aK, bs, wb, hf⟩ := key
 obtain ⟨K', e, a, b⟩ := tup_end aK bs wb
 exact ⟨w, K', by rw [d10, hr, hf]; exact e, a, b⟩
noncomputable def XT : Over := XG.up prog 10
theorem xt_ok : XT.Ok prog := up_ok goodP xg_ok _
theorem xt_call (f : Nat) (args : List AV) (h : AHeap) (et : (f == 10) = false) (eg : (f == 31) = false) (ef : (f == 9) = false) (eu : (f == 8) = false) (es : (f == 15) = false) (ed : (f == 12) = false) (em : (f == 25) = false) (e0 : (f == 37) = false) (e1 : (f == 52) = false) (e2 : (f == 61) = false) : (envX prog XT).call f args h = (envL prog).call f args h := by
 unfold XT Over.up; rw [x_miss _ _ et, xg_call _ _ _ eg ef eu es ed em e0 e1 e2]
theorem xt_used {args : List AV} {h : AHeap} {r : AV × AHeap} (e : callBody prog (envX prog XS) 8 args h = some r) : (envX prog XT).call 8 args h = some r := by
 unfold XT Over.up; rw [x_miss _ _ (by decide)]; exact xg_used e
theorem xt_free {args : List AV} {h : AHeap} {r : AV × AHeap} (e : callBody prog (envX prog XU) 9 args h = some r) : (envX prog XT).call 9 args h = some r := by
 unfold XT Over.up; rw [x_miss _ _ (by decide)]; exact xg_free e
theorem xt_drop {args : List AV} {h : AHeap} {r : AV × AHeap} (e : callBody prog (envX prog X3) 12 args h = some r) : (envX prog XT).call 12 args h = some r := by
 unfold XT Over.up; rw [x_miss _ _ (by decide)]; exact xg_drop e
theorem xt_take {args : List AV} {h : AHeap} {r : AV × AHeap} (e : callBody prog (envX prog XG) 10 args h = some r) : (envX prog XT).call 10 args h = some r := x_hit e
end Go.Proofs.Ytfioahnogphnfaa.G12
end
section
namespace Go.Proofs.Ytfioahnogphnfaa.G12
open Go Go.Proofs.Ytfioahnogphnfaa.Eng
def LW : List SnS := [⟨0, [], [(1, 2), (3, 0)]⟩]
def PW : List PrS := [(0, 4), (1, 255)]
def csW : List AV := [.nilSl, .sl 1 0 3 1 1 true, .int .i64 0, .int .i64 2, .int .i64 0, .sl 2 0 2 2 2 true]
def KW : AHeap := [.rw [.int .i64 1, .int .i64 2, .int .i64 3, .int .i64 0], .rw [.int .i64 0, .nilSl, .sl 0 0 2 2 2 true], .rw [.int .i64 0, .int .i64 4, .int .i64 1, .int .i64 255], .rw csW]
theorem saW : SA KW csW LW PW := by
 refine ⟨⟨.nilSl, .sl 1 0 3 1 1 true, 0, 2, 0, .sl 2 0 2 2 2 true, rfl, ?_, .inr ⟨2, 2, true, rfl, by decide, rfl⟩, rfl, rfl⟩, ⟨by decide, fun s hs => ?_⟩, by decide⟩
 ·refine .inr ⟨1, 1, true, [[.int .i64 0, .nilSl, .sl 0 0 2 2 2 true]], [], rfl, by decide, rfl, rfl, fun i r s h1 h2 => ?_⟩
  match i with
  | 0 =>
   simp only [LW, List.getElem?_cons_zero, Option.some.injEq] at h1 h2
   subst h1; subst h2
   exact ⟨_, _, rfl, .inl ⟨rfl, rfl⟩, .inr ⟨0, 2, true, rfl, by decide, rfl⟩⟩
  | n + 1 => simp [LW] at h2
 ·simp only [LW, List.mem_singleton] at hs
  subst hs
  exact ⟨by unfold IsU8; decide, by decide, by decide⟩
theorem usedW : usedS LW PW = [0, 2, 4] := up_ext (usd_up _) (by decide) fun x => by
 unfold usedS
 rw [usd_mem, show atsL LW ++ planL PW = [2, 0, 4] by decide]
 simp only [List.mem_cons, List.mem_nil_iff, or_false]
 omega
set_option maxHeartbeats 8000000 in
theorem wakesC : ∃ h1, callBody prog (envX prog XT) 7 [] [] = some (.bool true, h1) := by
 obtain ⟨w1, K1, e1, A1, i1⟩ := takeC saW 6 (by decide) 2
 have e1 := xt_take e1
 rw [usedW, show takeS [0, 2, 4] 6 2 = ([1, 3], 0) by decide +kernel] at e1 i1
 have s1 := saW.adds A1
 obtain ⟨w2, K2, e2, A2, i2⟩ := takeC s1 6 (by decide) 4
 have e2 := xt_take e2
 rw [usedW, show takeS [0, 2, 4] 6 4 = ([], 12) by decide +kernel] at e2 i2
 have s2 := s1.adds A2
 obtain ⟨w3, K3, e3, A3, i3, _⟩ := usedC s2
 have e3 := xt_used e3
 rw [usedW] at i3
 have s3 := s2.adds A3
 have A4 : Adds K3 (K3 ++ [ABlk.rw [.int .i64 0, .int .i64 2, .int .i64 4]]) := ⟨_, rfl⟩
 have e4 := Bt.intsC (A4.is i3) (w := .sl K3.length 0 1 3 3 true) (IS.block (zs := [0, 2, 4]) (b := K3.length) (by simp; rfl)) (by decide)
 have s4 := s3.adds A4
 have e5 := xt_free (freeC s4 6 (by decide))
 rw [usedW, show freeN [0, 2, 4] 6 = 3 by decide +kernel] at e5
 obtain ⟨K4, hK4⟩ : ∃ K, K = K3 ++ [ABlk.rw [.int .i64 0, .int .i64 2, .int .i64 4]] := ⟨_, rfl⟩
 rw [← hK4] at e4 e5 A4
 have A5 : Adds K4 (K4 ++ [ABlk.rw [.int .i64 1, .int .i64 3]]) := ⟨_, rfl⟩
 have e6 := Bt.intsC ((((A2.trans A3).trans A4).trans A5).is i1) (w := .sl K4.length 0 1 2 2 true) (IS.block (zs := [1, 3]) (b := K4.length) (by simp; rfl)) (by decide)
 have c3 : ∀ {X : AHeap}, Adds KW X → cellsOf X 3 = some csW := fun a => a.cells rfl
 have q0 : cellsOf KW 3 = some csW := rfl
 have q1 := c3 A1
 have q2 := c3 (A1.trans A2)
 have q4 := c3 (((A1.trans A2).trans A3).trans A4)
 have hK4 := hK4.symm
 unfold csW at e1 e2 e3 e5 q0 q1 q2 q4
 unfold KW at e1 q0
 unfold csW at e1 q0
 rw [show ((6 : Nat) : Int) = 6 from rfl] at e1 e2
 rw [d7]
 have key : Outs (runC (envX prog XT) (b7 (envX prog XT)) ([] ++ List.replicate (48 - ([] : List AV).length) .undef) []) fun e t h1 => fin [.tmp 0] (some (e, t, h1)) = some (AV.bool true, h1) := by
  unfold b7
  generalize hQ : (fun (e : Ex) (t : T) (h1 : AHeap) => fin [.tmp 0] (some (e, t, h1)) = some (AV.bool true, h1)) = Q
  simp -implicitDefEqProofs (maxSteps := 5000000) only [go_sem, Nat.reduceShiftRight, Nat.reduceAnd, Nat.reduceBNe, Int.reduceEq, Nat.reduceAdd, Nat.reduceSub, Nat.reduceMul, Nat.reduceLeDiff, reduceIte, reduceCtorEq, Nat.reduceBEq, Nat.reduceEqDiff, wrap64, runC_loop, runC_range, callF_fn, callV_fn, callV_yld, yield_eq, yieldBody, yieldRaw, roundMid, roundEnd, rangeEnd, Bool.not_not, put_cons, put_nil, trim_same, at_zero, at_add, set_zero, set_add, store_one, write_zero, write_add, write_head, write_succ, splice_one, splice_more, List.drop_nil, List.take_nil, cell_int, cell_bool, fillS, splice_one, idxA, Ex.isNormal, List.set_nil, List.length_set, List.all_cons, List.all_nil, Bool.and_self, and_self, true_and, and_true, List.getElem?_nil, Int.reduceLT, Int.reduceLE, Int.reduceToNat, Int.toNat_zero, Int.toNat_one, Int.reduceAdd, Int.reduceSub, Int.reduceMul, Int.reduceNeg, Int.reduceBEq, Int.reduceBNe, Int.reduceGE, Int.reduceGT, Nat.reduceLT, trim_keep, under_fn, under_ptr, under_sl, Nat.lt_irrefl, not_lt_add, trim_tail, keepOk, ABlk.vals, Int.cast_ofNat_Int, decide_true, decide_false, List.all_cons, List.all_nil, Nat.zero_mul, Nat.mul_one, Nat.one_mul, xt_call, cellsA_agg, q0, e1, q1, e2, q2, e3, hK4, e4, q4, e5, e6, outs_normal]
  subst hQ
  simp -implicitDefEqProofs (maxSteps := 5000000) only [go_sem, Nat.reduceShiftRight, Nat.reduceAnd, Nat.reduceBNe, Int.reduceEq, Nat.reduceAdd, Nat.reduceSub, Nat.reduceMul, Nat.reduceLeDiff, reduceIte, reduceCtorEq, Nat.reduceBEq, Nat.reduceEqDiff]
 unfold b7 at key ⊢
 exact of_outs key
noncomputable def X4 : Over := XT.with 7 wakeR
theorem x4_ok : X4.Ok prog := with_ok xt_ok (wake_ok goodP xt_ok wakesC.choose_spec)
theorem x4_call (f : Nat) (args : List AV) (h : AHeap) (ew : (f == 7) = false) (et : (f == 10) = false) (eg : (f == 31) = false) (ef : (f == 9) = false) (eu : (f == 8) = false) (es : (f == 15) = false) (ed : (f == 12) = false) (em : (f == 25) = false) (e0 : (f == 37) = false) (e1 : (f == 52) = false) (e2 : (f == 61) = false) : (envX prog X4).call f args h = (envL prog).call f args h := by
 unfold X4; rw [x_miss _ _ ew, xt_call _ _ _ et eg ef eu es ed em e0 e1 e2]
theorem x4_wakes (h : AHeap) : (envX prog X4).call 7 [] h = some (.bool true, h) := x_hit rfl
theorem x4_used {args : List AV} {h : AHeap} {r : AV × AHeap} (e : callBody prog (envX prog XS) 8 args h = some r) : (envX prog X4).call 8 args h = some r := by
 unfold X4; rw [x_miss _ _ (by decide)]; exact xt_used e
theorem x4_free {args : List AV} {h : AHeap} {r : AV × AHeap} (e : callBody prog (envX prog XU) 9 args h = some r) : (envX prog X4).call 9 args h = some r := by
 unfold X4; rw [x_miss _ _ (by decide)]; exact xt_free e
theorem x4_drop {args : List AV} {h : AHeap} {r : AV × AHeap} (e : callBody prog (envX prog X3) 12 args h = some r) : (envX prog X4).call 12 args h = some r := by
 unfold X4; rw [x_miss _ _ (by decide)]; exact xt_drop e
noncomputable abbrev LZ (l : Env → CT) := (envL prog).loop (runC (envX prog X4) (l (envX prog X4)))
end Go.Proofs.Ytfioahnogphnfaa.G12
end
section
namespace Go.Proofs.Ytfioahnogphnfaa.G12
open Go Go.Proofs.Ytfioahnogphnfaa.Eng
section
variable {H : AHeap} {vd vs vp : AV} {nx kd pd : Int} {L : List SnS} {P : List PrS} {nd : Nat} (gs : IsC H vs L) (gp : IsP H vp P) (wd : lenSl vd = some (.int .i64 (nd : Int))) (cd : vd.isCell = true) (fb : L.length ≤ 9223372036854775807 ∧ ∀ s ∈ L, s.ch.length ≤ 9223372036854775807 ∧ s.tb.length ≤ 9223372036854775807)
include gs gp wd cd fb
end
section
variable {K : AHeap} {v : AV} {u : List Int} (g : IS K v u) (up : u.Pairwise (· < ·)) (lu : u.length ≤ 1000000) (A : Nat) (hA : A ≤ 1000000)
include g up lu hA
end
end Go.Proofs.Ytfioahnogphnfaa.G12
end
section
namespace Go.Proofs.Ytfioahnogphnfaa.G12
open Go Go.Proofs.Ytfioahnogphnfaa.Eng
section
variable {K : AHeap} {v l : AV} {u : List Int} (g : IS K v u) (lu : u.length ≤ 1000000) {A k : Nat} (hA : A ≤ 1000000) (hk : k ≤ (freeB u A).length) (gl : IS K l ((freeB u A).take k))
include g lu hA hk gl
end
theorem tmod_nat' {n m : Int} (h : 0 ≤ n) (hm : 0 < m) : ∃ i : Nat, n.tmod m = i ∧ (i : Int) < m := by
 have := tmod_nat h hm
 exact ⟨(n.tmod m).toNat, (Int.toNat_of_nonneg this.1).symm, by rw [Int.toNat_of_nonneg this.1]; exact this.2⟩
end Go.Proofs.Ytfioahnogphnfaa.G12
end
section
namespace Go.Proofs.Ytfioahnogphnfaa.G12
open Go Go.Proofs.Ytfioahnogphnfaa.Eng
theorem nodup_append {l m : List Int} : (l ++ m).Nodup ↔ l.Nodup ∧ m.Nodup ∧ ∀ x ∈ l, x ∉ m := by
 rw [List.nodup_append]
 constructor
 ·rintro ⟨a, b, c⟩; exact ⟨a, b, fun x hx hm => c x hx x hm rfl⟩
 ·rintro ⟨a, b, c⟩; exact ⟨a, b, fun x hx y hy e => c x hx (e ▸ hy)⟩
theorem tb_nodup {bl ar : Int} : ∀ {l : List PrS}, GoodL bl ar l → (l.map (·.2)).Nodup
 | [], _ => List.nodup_nil
 | p :: l, g => by
  obtain ⟨u1, u2⟩ := asc_cons.1 g.up
  rw [List.map_cons, List.nodup_cons]
  refine ⟨fun h => ?_, tb_nodup ⟨fun q hq => g.rng q (by simp [hq]), u2, fun q hq r hr => g.inj q (by simp [hq]) r (by simp [hr])⟩⟩
  obtain ⟨q, hq, e⟩ := List.mem_map.1 h
  have := g.inj q (by simp [hq]) p (by simp) e
  have lt := u1 q hq
  rw [this] at lt; omega
theorem atsL_mem {L : List SnS} {a : Int} : a ∈ atsL L ↔ ∃ s ∈ L, ∃ p ∈ s.tb, p.2 = a := by
 unfold atsL
 rw [List.mem_flatten]
 constructor
 ·rintro ⟨l, hl, ha⟩
  obtain ⟨s, hs, rfl⟩ := List.mem_map.1 hl
  obtain ⟨p, hp, rfl⟩ := List.mem_map.1 ha
  exact ⟨s, hs, p, hp, rfl⟩
 ·rintro ⟨s, hs, p, hp, rfl⟩
  exact ⟨_, List.mem_map.2 ⟨s, hs, rfl⟩, List.mem_map.2 ⟨p, hp, rfl⟩⟩
theorem ats_nodup {bl ar : Int} : ∀ {L : List SnS}, GoodC bl ar L → (atsL L).Nodup
 | [], _ => List.nodup_nil
 | s :: L, g => by
  have ap := g.ap
  rw [List.pairwise_cons] at ap
  rw [atsL_cons, nodup_append]
  refine ⟨tb_nodup (g.one s (by simp)).tb, ats_nodup (good_tail g), fun x hx hm => ?_⟩
  obtain ⟨p, hp, rfl⟩ := List.mem_map.1 hx
  obtain ⟨u, hu, q, hq, e⟩ := atsL_mem.1 hm
  exact ap.1 u hu p hp q hq e.symm
theorem used_len {bl ar : Int} {L : List SnS} (g : GoodC bl ar L) : (usedS L []).length = (atsL L).length := by
 unfold usedS
 rw [show planL [] = [] from rfl, List.append_nil]
 exact usd_nodup (ats_nodup g)
theorem used_mem {L : List SnS} {a : Int} : a ∈ usedS L [] ↔ ∃ s ∈ L, ∃ p ∈ s.tb, p.2 = a := by
 unfold usedS
 rw [usd_mem, show planL [] = [] from rfl, List.append_nil, atsL_mem]
theorem atsL_app (A B : List SnS) : atsL (A ++ B) = atsL A ++ atsL B := by unfold atsL; rw [List.map_append, List.flatten_append]
def meet (a b : List PrS) : Nat := (b.filter fun p => decide (0 ≤ idxS a p.1)).length
theorem meet_cons (a : List PrS) (p : PrS) (b : List PrS) : meet a (p :: b) = (if 0 ≤ idxS a p.1 then 1 else 0) + meet a b := by
 unfold meet
 rw [List.filter_cons]
 by_cases h : 0 ≤ idxS a p.1
 ·rw [if_pos (by simp [h]), if_pos h, List.length_cons]; omega
 ·rw [if_neg (by simp [h]), if_neg h]; omega
theorem meet_le (a b : List PrS) : meet a b ≤ b.length := List.length_filter_le _ _
theorem tmerge_freed (a : List PrS) : ∀ (b k : List PrS) (f : List Int), (tmerge a b k f).2.length = f.length + meet a b
 | [], k, f => by unfold tmerge meet; simp
 | p :: b, k, f => by
  rw [tmerge, meet_cons]
  split
  ·rw [tmerge_freed a b]; simp; omega
  ·rw [tmerge_freed a b]; omega
theorem join_len {s u : SnS} {bl ar : Int} (h1 : GoodL bl ar s.tb) (h2 : GoodL bl ar u.tb) : (joinS s u).tb.length + meet s.tb u.tb = s.tb.length + u.tb.length := by
 have := (tmerge_mem (a := s.tb) u.tb s.tb [] h1.up h2.up (fun p hp => .inl hp) (fun p hp => hp)).2.2.2
 rw [tmerge_freed] at this
 show (tmerge s.tb u.tb s.tb []).1.length + _ = _
 simp only [List.length_nil] at this
 omega
def freedN (L : List SnS) (k : Nat) : Nat := match k with
 | 0 => ((L[0]?).map fun s => s.tb.length).getD 0
 | n + 1 => match L[n]?, L[n + 1]? with
  | some s, some u => meet s.tb u.tb
  | _, _ => 0
theorem drop_used {bl ar : Int} {L : List SnS} (g : GoodC bl ar L) {k : Nat} (hk : k < L.length) : (usedS (dropN L k) []).length + freedN L k = (usedS L []).length ∧ ∀ x ∈ usedS (dropN L k) [], x ∈ usedS L [] := by
 have gd := (good_drop g hk).1
 rw [used_len g, used_len gd]
 cases k with
 | zero =>
  cases L with
  | nil => simp at hk
  | cons s L =>
   refine ⟨?_, fun x hx => ?_⟩
   ·show (atsL L).length + s.tb.length = _
    rw [atsL_cons, List.length_append, List.length_map]; omega
   ·obtain ⟨u, hu, p, hp, e⟩ := used_mem.1 hx
    exact used_mem.2 ⟨u, List.mem_cons_of_mem _ hu, p, hp, e⟩
 | succ n =>
  obtain ⟨A, s, u, B, rfl, hA, e⟩ := drop_split hk
  have os := g.one s (by simp)
  have ou := g.one u (by simp)
  have e1 : (A ++ s :: u :: B)[n]? = some s := by rw [List.getElem?_append_right (by omega), hA, Nat.sub_self]; rfl
  have e2 : (A ++ s :: u :: B)[n + 1]? = some u := by rw [List.getElem?_append_right (by omega), hA, show n + 1 - n = 1 by omega]; rfl
  have fe : freedN (A ++ s :: u :: B) (n + 1) = meet s.tb u.tb := by simp only [freedN, e1, e2]
  have jl := join_len os.tb ou.tb
  rw [fe, e]
  refine ⟨?_, fun x hx => ?_⟩
  ·rw [atsL_app, atsL_app, atsL_cons, atsL_cons, atsL_cons]
   simp only [List.length_append, List.length_map]
   omega
  ·obtain ⟨t1, t2⟩ := tm_mem os.tb ou.tb
   obtain ⟨y, hy, p, hp, e⟩ := used_mem.1 hx
   rcases List.mem_append.1 hy with h | h
   ·exact used_mem.2 ⟨y, by simp [h], p, hp, e⟩
   ·rcases List.mem_cons.1 h with rfl | h
    ·rcases (t2 p).1 hp with h | ⟨h, _⟩
     ·exact used_mem.2 ⟨s, by simp, p, h, e⟩
     ·exact used_mem.2 ⟨u, by simp, p, h, e⟩
    ·exact used_mem.2 ⟨y, by simp [h], p, hp, e⟩
theorem used_rng {bl ar : Int} {L : List SnS} (g : GoodC bl ar L) {x : Int} (h : x ∈ usedS L []) : 0 ≤ x ∧ x < ar := by
 obtain ⟨s, hs, p, hp, rfl⟩ := used_mem.1 h
 exact ((g.one s hs).tb.rng p hp).2
theorem wth_all {a : Int} {u : List Int} (h : ∀ x ∈ u, 0 ≤ x ∧ x < a) : wth a u = u.length := by
 unfold wth
 rw [List.filter_eq_self.2 fun x hx => by have := h x hx; simp [this.1, this.2]]
end Go.Proofs.Ytfioahnogphnfaa.G12
end
section
namespace Go.Proofs.Ytfioahnogphnfaa.G12
open Go Go.Proofs.Ytfioahnogphnfaa.Eng
theorem newN10 : Bt.newN 10 = 2 := by decide
theorem good10 {L : List SnS} (hL : ∀ s ∈ L, IsU8 s.ch) {s : SnS} (hs : s ∈ L) (h1 : Bt.goodS s.ch 10 = true) (h2 : tgood s.tb 10 200 = true) : s.Fit := by
 have g := good_iff.1 h2
 exact ⟨hL s hs, by rw [(goodS_iff.1 h1).1, newN10]; omega, by have := asc_short (n := 10) g.up fun p hp => (g.rng p hp).1; omega⟩
theorem chv_one {H : AHeap} {v : AV} {L : List SnS} (g : IsC H v L) {n : Nat} {s : SnS} (hs : L[n]? = some s) : ∃ w, sliceS 3 v (some (.int .i64 (n : Int))) (some (.int .i64 ((n + 1 : Nat) : Int))) none = some w ∧ ChV H w [s] := by
 have lt := (List.getElem?_eq_some_iff.1 hs).1
 have g0 := g
 rcases g with ⟨_, rfl⟩ | ⟨b, c, e, rows, X, rfl, hn, hc, hr⟩
 ·simp at lt
 ·refine ⟨.sl b (0 + n * 3) 3 (n + 1 - n) (c - n) e, ?_, ⟨rfl, rfl⟩, ?_, fun i x hx => ?_⟩
  ·unfold sliceS asI
   simp only [ne_eq, not_true, if_false, Option.bind_some, Int.toNat_natCast]
   rw [if_pos ⟨by omega, by omega, by omega⟩]
  ·show some (AV.int .i64 ((n + 1 - n : Nat) : Int)) = _
   rw [show n + 1 - n = 1 by omega]; rfl
  ·have hi := (List.getElem?_eq_some_iff.1 hx).1
   obtain rfl : i = 0 := by simpa using hi
   simp only [List.getElem?_cons_zero, Option.some.injEq] at hx
   subst hx
   obtain ⟨b', cs, vc, vt, sb, ix, hc', h1, h2, h3, ht, hle, hbs, hip⟩ := g0.idx hs
   injection sb with sb; subst sb
   refine ⟨b, n * 3, cs, vc, vt, ?_, hc', ht, hle, hbs, hip⟩
   rw [idx_sl, if_pos ⟨by omega, by omega, by omega⟩]; simp
theorem holdS_one (s : SnS) (b : Int) : holdS [s] 0 b = if 0 ≤ idxS s.tb b then (fnd s.tb b, true) else (0, false) := by
 unfold holdS
 rw [if_neg (by omega)]
 show holdF b [s] = _
 rw [holdF]
 split <;> rfl
section
variable {K : AHeap} {v : AV} {L : List SnS} (g : IsC K v L) (fi : Fits L)
include g fi
set_option maxHeartbeats 4000000 in
theorem frL0 {n : Nat} {s u : SnS} (hs : L[n]? = some s) (hu : L[n + 1]? = some u) (x1 x2 x3 x4 x6 x7 x8 x13 x14 x15 x16 x17 x18 x19 x20 x21 x22 x23 x24 x25 x26 x27 x28 x29 x30 x31 x32 x33 x34 x35 x36 x37 x38 x39 x40 x41 x42 x43 x44 x45 x46 x47 x48 x85 x86 x87 x88 x89 x90 x91 x92 x93 x94 x95 x96 x97 x98 x99 x100 x101 x102 x103 x104 x105 x106 x107 x108 x109 x110 x111 x112 x113 x114 x115 x116 x117 x118 x119 x120 x121 x122 x123 x124 x125 x126 x127 x128 x129 x130 x131 x132 x133 x134 x135 x136 x137 x138 x139 : AV) : ∀ (m j r : Nat) (j11 j12 j49 j50 j51 j52 j53 j54 j55 j56 j57 j58 j59 j60 j61 j62 j63 j64 j65 j66 j67 j68 j69 j70 j71 j72 j73 j74 j75 j76 j77 j78 j79 j80 j81 j82 j83 j84 : AV), j + m = u.tb.length → r = m + meet s.tb (u.tb.take j) →
  Outs (LZ l5x0 [v, x1, x2, x3, x4, .int .i64 ((n + 1 : Nat) : Int), x6, x7, x8, .int .i64 (r : Int), .int .i64 (j : Int), j11, j12, x13, x14, x15, x16, x17, x18, x19, x20, x21, x22, x23, x24, x25, x26, x27, x28, x29, x30, x31, x32, x33, x34, x35, x36, x37, x38, x39, x40, x41, x42, x43, x44, x45, x46, x47, x48, j49, j50, j51, j52, j53, j54, j55, j56, j57, j58, j59, j60, j61, j62, j63, j64, j65, j66, j67, j68, j69, j70, j71, j72, j73, j74, j75, j76, j77, j78, j79, j80, j81, j82, j83, j84, x85, x86, x87, x88, x89, x90, x91, x92, x93, x94, x95, x96, x97, x98, x99, x100, x101, x102, x103, x104, x105, x106, x107, x108, x109, x110, x111, x112, x113, x114, x115, x116, x117, x118, x119, x120, x121, x122, x123, x124, x125, x126, x127, x128, x129, x130, x131, x132, x133, x134, x135, x136, x137, x138, x139] K) fun e t K' => e = .exit 0 ∧ K' = K ∧ ∃ fv : Nat → AV, t = [v, x1, x2, x3, x4, .int .i64 ((n + 1 : Nat) : Int), x6, x7, x8, (fv 9), (fv 10), (fv 11), (fv 12), x13, x14, x15, x16, x17, x18, x19, x20, x21, x22, x23, x24, x25, x26, x27, x28, x29, x30, x31, x32, x33, x34, x35, x36, x37, x38, x39, x40, x41, x42, x43, x44, x45, x46, x47, x48, (fv 49), (fv 50), (fv 51), (fv 52), (fv 53), (fv 54), (fv 55), (fv 56), (fv 57), (fv 58), (fv 59), (fv 60), (fv 61), (fv 62), (fv 63), (fv 64), (fv 65), (fv 66), (fv 67), (fv 68), (fv 69), (fv 70), (fv 71), (fv 72), (fv 73), (fv 74), (fv 75), (fv 76), (fv 77), (fv 78), (fv 79), (fv 80), (fv 81), (fv 82), (fv 83), (fv 84), x85, x86, x87, x88, x89, x90, x91, x92, x93, x94, x95, x96, x97, x98, x99, x100, x101, x102, x103, x104, x105, x106, x107, x108, x109, x110, x111, x112, x113, x114, x115, x116, x117, x118, x119, x120, x121, x122, x123, x124, x125, x126, x127, x128, x129, x130, x131, x132, x133, x134, x135, x136, x137, x138, x139] ∧ fv 9 = .int .i64 (meet s.tb u.tb : Int) := by
 intro m
 obtain ⟨L0, hL0⟩ : ∃ L, L = LZ l5x0 := ⟨_, rfl⟩
 have lo := loop_open hL0
 have fl := fi.1
 have nl := (List.getElem?_eq_some_iff.1 hu).1
 have ftu := (fits_get fi hu).lt
 have fts := fits_get fi hs
 obtain ⟨bb, cs, vc, vt, sb, ix, hc, h1, h2, h3, ht, hle, hbs, hip⟩ := g.idx hu
 have wl := hip.len
 obtain ⟨w, sl, cv⟩ := chv_one g hs
 have f1 : Fits [s] := ⟨by simp, fun x hx => by rw [List.mem_singleton.1 hx]; exact fts⟩
 have dk : decide (((n + 1 : Nat) : Int) > 0) = true := decide_eq_true (by omega)
 have s1 : IntKind.i64.wrap (((n + 1 : Nat) : Int) - 1) = (n : Int) := by rw [wrap64 (by omega) (by omega)]; omega
 rw [← hL0]
 induction m with
 | zero =>
  intro j r j11 j12 j49 j50 j51 j52 j53 j54 j55 j56 j57 j58 j59 j60 j61 j62 j63 j64 j65 j66 j67 j68 j69 j70 j71 j72 j73 j74 j75 j76 j77 j78 j79 j80 j81 j82 j83 j84 hj hr
  obtain rfl : j = u.tb.length := by omega
  have hd : decide ((u.tb.length : Int) < (u.tb.length : Int)) = false := by simp
  rw [List.take_length, Nat.zero_add] at hr
  rw [lo]
  unfold l5x0
  simp -implicitDefEqProofs (maxSteps := 5000000) only [go_sem, Nat.reduceShiftRight, Nat.reduceAnd, Nat.reduceBNe, Int.reduceEq, Nat.reduceAdd, Nat.reduceSub, Nat.reduceMul, Nat.reduceLeDiff, reduceIte, reduceCtorEq, Nat.reduceBEq, Nat.reduceEqDiff, wrap64, runC_loop, runC_range, callF_fn, callV_fn, callV_yld, yield_eq, yieldBody, yieldRaw, roundMid, roundEnd, rangeEnd, Bool.not_not, put_cons, put_nil, trim_same, at_zero, at_add, set_zero, set_add, store_one, write_zero, write_add, write_head, write_succ, splice_one, splice_more, List.drop_nil, List.take_nil, cell_int, cell_bool, fillS, splice_one, idxA, Ex.isNormal, List.set_nil, List.length_set, List.all_cons, List.all_nil, Bool.and_self, and_self, true_and, and_true, List.getElem?_nil, Int.reduceLT, Int.reduceLE, Int.reduceToNat, Int.toNat_zero, Int.toNat_one, Int.reduceAdd, Int.reduceSub, Int.reduceMul, Int.reduceNeg, Int.reduceBEq, Int.reduceBNe, Int.reduceGE, Int.reduceGT, Nat.reduceLT, trim_keep, under_fn, under_ptr, under_sl, Nat.lt_irrefl, not_lt_add, trim_tail, keepOk, ABlk.vals, Int.cast_ofNat_Int, decide_true, decide_false, List.all_cons, List.all_nil, Nat.zero_mul, Nat.mul_one, Nat.one_mul, ix, hc, h3, wl, hd, seqR_exit', outs_normal]
  exact exF2 rfl (by rw [hr]; rfl)
 | succ m ih =>
  intro j r j11 j12 j49 j50 j51 j52 j53 j54 j55 j56 j57 j58 j59 j60 j61 j62 j63 j64 j65 j66 j67 j68 j69 j70 j71 j72 j73 j74 j75 j76 j77 j78 j79 j80 j81 j82 j83 j84 hj hr
  have hlt : j < u.tb.length := by omega
  have hd : decide ((j : Int) < (u.tb.length : Int)) = true := decide_eq_true (by omega)
  have e2 : IntKind.i64.wrap ((j : Int) + 1) = ((j + 1 : Nat) : Int) := by rw [wrap64 (by omega) (by omega)]; omega
  have hx := List.getElem?_eq_getElem hlt
  have tk : u.tb.take (j + 1) = u.tb.take j ++ [u.tb[j]] := by rw [List.take_add_one, hx]; rfl
  have mt : meet s.tb (u.tb.take (j + 1)) = meet s.tb (u.tb.take j) + (if 0 ≤ idxS s.tb u.tb[j].1 then 1 else 0) := by
   rw [tk]
   unfold meet
   rw [List.filter_append, List.length_append]
   congr 1
   rw [List.filter_cons]
   by_cases h : 0 ≤ idxS s.tb u.tb[j].1
   ·rw [if_pos (by simp [h]), if_pos h]; rfl
   ·rw [if_neg (by simp [h]), if_neg h]; rfl
  have ml := meet_le s.tb (u.tb.take j)
  rw [List.length_take] at ml
  have key := ih (j + 1)
  rw [mt] at key
  have rle : r ≤ 1000000 := by omega
  generalize u.tb[j] = p at *
  obtain ⟨b2, c2, _, ix2, hc2, r1, r2, _, _⟩ := hip.idx hx
  have eh := holderV cv f1 p.1 0
  rw [holdS_one] at eh
  rw [lo]
  unfold l5x0
  by_cases h : 0 ≤ idxS s.tb p.1
  ·rw [if_pos h] at eh key
   simp -implicitDefEqProofs (maxSteps := 5000000) only [go_sem, Nat.reduceShiftRight, Nat.reduceAnd, Nat.reduceBNe, Int.reduceEq, Nat.reduceAdd, Nat.reduceSub, Nat.reduceMul, Nat.reduceLeDiff, reduceIte, reduceCtorEq, Nat.reduceBEq, Nat.reduceEqDiff, wrap64, runC_loop, runC_range, callF_fn, callV_fn, callV_yld, yield_eq, yieldBody, yieldRaw, roundMid, roundEnd, rangeEnd, Bool.not_not, put_cons, put_nil, trim_same, at_zero, at_add, set_zero, set_add, store_one, write_zero, write_add, write_head, write_succ, splice_one, splice_more, List.drop_nil, List.take_nil, cell_int, cell_bool, fillS, splice_one, idxA, Ex.isNormal, List.set_nil, List.length_set, List.all_cons, List.all_nil, Bool.and_self, and_self, true_and, and_true, List.getElem?_nil, Int.reduceLT, Int.reduceLE, Int.reduceToNat, Int.toNat_zero, Int.toNat_one, Int.reduceAdd, Int.reduceSub, Int.reduceMul, Int.reduceNeg, Int.reduceBEq, Int.reduceBNe, Int.reduceGE, Int.reduceGT, Nat.reduceLT, trim_keep, under_fn, under_ptr, under_sl, Nat.lt_irrefl, not_lt_add, trim_tail, keepOk, ABlk.vals, Int.cast_ofNat_Int, decide_true, decide_false, List.all_cons, List.all_nil, Nat.zero_mul, Nat.mul_one, Nat.one_mul, x4_call, ix, hc, h3, wl, hd, dk, s1, sl, ix2, hc2, r1, eh, e2]
   exact key r _ _ _ _ _ _ _ _ _ _ _ _ _ _ _ _ _ _ _ _ _ _ _ _ _ _ _ _ _ _ _ _ _ _ _ _ _ _ (by omega) (by omega)
  ·rw [if_neg h] at eh key
   have s2 : IntKind.i64.wrap ((r : Int) - 1) = ((r - 1 : Nat) : Int) := by rw [wrap64 (by omega) (by omega)]; omega
   simp -implicitDefEqProofs (maxSteps := 5000000) only [go_sem, Nat.reduceShiftRight, Nat.reduceAnd, Nat.reduceBNe, Int.reduceEq, Nat.reduceAdd, Nat.reduceSub, Nat.reduceMul, Nat.reduceLeDiff, reduceIte, reduceCtorEq, Nat.reduceBEq, Nat.reduceEqDiff, wrap64, runC_loop, runC_range, callF_fn, callV_fn, callV_yld, yield_eq, yieldBody, yieldRaw, roundMid, roundEnd, rangeEnd, Bool.not_not, put_cons, put_nil, trim_same, at_zero, at_add, set_zero, set_add, store_one, write_zero, write_add, write_head, write_succ, splice_one, splice_more, List.drop_nil, List.take_nil, cell_int, cell_bool, fillS, splice_one, idxA, Ex.isNormal, List.set_nil, List.length_set, List.all_cons, List.all_nil, Bool.and_self, and_self, true_and, and_true, List.getElem?_nil, Int.reduceLT, Int.reduceLE, Int.reduceToNat, Int.toNat_zero, Int.toNat_one, Int.reduceAdd, Int.reduceSub, Int.reduceMul, Int.reduceNeg, Int.reduceBEq, Int.reduceBNe, Int.reduceGE, Int.reduceGT, Nat.reduceLT, trim_keep, under_fn, under_ptr, under_sl, Nat.lt_irrefl, not_lt_add, trim_tail, keepOk, ABlk.vals, Int.cast_ofNat_Int, decide_true, decide_false, List.all_cons, List.all_nil, Nat.zero_mul, Nat.mul_one, Nat.one_mul, x4_call, ix, hc, h3, wl, hd, dk, s1, sl, ix2, hc2, r1, eh, s2, e2]
   exact key (r - 1) _ _ _ _ _ _ _ _ _ _ _ _ _ _ _ _ _ _ _ _ _ _ _ _ _ _ _ _ _ _ _ _ _ _ _ _ _ _ (by omega) (by omega)
end
section
variable {K : AHeap} {va vb : AV} {was now : List Int} (ga : IS K va was) (gb : IS K vb now) (ua : was.Pairwise (· < ·)) (ub : now.Pairwise (· < ·)) (la : was.length ≤ 1000000) (lb : now.length ≤ 1000000)
include ga gb ua ub la lb
set_option maxHeartbeats 4000000 in
theorem frL1 {j p : Nat} {y : Int} (hy : now[j]? = some y) (hp : was[p]? = some y) (x0 x1 x2 x3 x4 x5 x6 x9 x10 x11 x12 x15 x16 x17 x18 x19 x20 x21 x22 x23 x24 x25 x26 x27 x28 x29 x30 x31 x32 x33 x34 x35 x36 x37 x38 x39 x40 x41 x42 x43 x44 x45 x46 x47 x48 x49 x50 x51 x52 x53 x54 x55 x56 x57 x58 x59 x60 x61 x62 x63 x64 x65 x66 x67 x68 x69 x70 x71 x72 x73 x74 x75 x76 x77 x78 x79 x80 x81 x82 x83 x84 x85 x86 x87 x88 x89 x90 x91 x92 x93 x94 x95 x96 x97 x98 x99 x100 x101 x102 x103 x104 x105 x106 x124 x125 x126 x127 x128 x129 x130 x131 x132 x133 x134 x135 x136 x137 x138 x139 : AV) : ∀ (m i : Nat) (j107 j108 j109 j110 j111 j112 j113 j114 j115 j116 j117 j118 j119 j120 j121 j122 j123 : AV), i + m = p →
  Outs (LZ l5x1 [x0, x1, x2, x3, x4, x5, x6, va, vb, x9, x10, x11, x12, .int .i64 (i : Int), .int .i64 (j : Int), x15, x16, x17, x18, x19, x20, x21, x22, x23, x24, x25, x26, x27, x28, x29, x30, x31, x32, x33, x34, x35, x36, x37, x38, x39, x40, x41, x42, x43, x44, x45, x46, x47, x48, x49, x50, x51, x52, x53, x54, x55, x56, x57, x58, x59, x60, x61, x62, x63, x64, x65, x66, x67, x68, x69, x70, x71, x72, x73, x74, x75, x76, x77, x78, x79, x80, x81, x82, x83, x84, x85, x86, x87, x88, x89, x90, x91, x92, x93, x94, x95, x96, x97, x98, x99, x100, x101, x102, x103, x104, x105, x106, j107, j108, j109, j110, j111, j112, j113, j114, j115, j116, j117, j118, j119, j120, j121, j122, j123, x124, x125, x126, x127, x128, x129, x130, x131, x132, x133, x134, x135, x136, x137, x138, x139] K) fun e t K' => e = .exit 4 ∧ K' = K ∧ ∃ fv : Nat → AV, t = [x0, x1, x2, x3, x4, x5, x6, va, vb, x9, x10, x11, x12, (fv 13), .int .i64 (j : Int), x15, x16, x17, x18, x19, x20, x21, x22, x23, x24, x25, x26, x27, x28, x29, x30, x31, x32, x33, x34, x35, x36, x37, x38, x39, x40, x41, x42, x43, x44, x45, x46, x47, x48, x49, x50, x51, x52, x53, x54, x55, x56, x57, x58, x59, x60, x61, x62, x63, x64, x65, x66, x67, x68, x69, x70, x71, x72, x73, x74, x75, x76, x77, x78, x79, x80, x81, x82, x83, x84, x85, x86, x87, x88, x89, x90, x91, x92, x93, x94, x95, x96, x97, x98, x99, x100, x101, x102, x103, x104, x105, x106, (fv 107), (fv 108), (fv 109), (fv 110), (fv 111), (fv 112), (fv 113), (fv 114), (fv 115), (fv 116), (fv 117), (fv 118), (fv 119), (fv 120), (fv 121), (fv 122), (fv 123), x124, x125, x126, x127, x128, x129, x130, x131, x132, x133, x134, x135, x136, x137, x138, x139] ∧ fv 13 = .int .i64 (p : Int) := by
 intro m
 obtain ⟨L0, hL0⟩ : ∃ L, L = LZ l5x1 := ⟨_, rfl⟩
 have lo := loop_open hL0
 have wl := ga.len
 have pl := (List.getElem?_eq_some_iff.1 hp).1
 obtain ⟨ay, iy, ly⟩ := gb.idx hy .i64
 rw [← hL0]
 induction m with
 | zero =>
  intro i j107 j108 j109 j110 j111 j112 j113 j114 j115 j116 j117 j118 j119 j120 j121 j122 j123 hi
  obtain rfl : i = p := by omega
  have hd : decide ((i : Int) < (was.length : Int)) = true := decide_eq_true (by omega)
  have dn : decide (y < y) = false := by simp
  obtain ⟨a, ix, ld⟩ := ga.idx hp .i64
  rw [lo]
  unfold l5x1
  simp -implicitDefEqProofs (maxSteps := 5000000) only [go_sem, Nat.reduceShiftRight, Nat.reduceAnd, Nat.reduceBNe, Int.reduceEq, Nat.reduceAdd, Nat.reduceSub, Nat.reduceMul, Nat.reduceLeDiff, reduceIte, reduceCtorEq, Nat.reduceBEq, Nat.reduceEqDiff, wrap64, runC_loop, runC_range, callF_fn, callV_fn, callV_yld, yield_eq, yieldBody, yieldRaw, roundMid, roundEnd, rangeEnd, Bool.not_not, put_cons, put_nil, trim_same, at_zero, at_add, set_zero, set_add, store_one, write_zero, write_add, write_head, write_succ, splice_one, splice_more, List.drop_nil, List.take_nil, cell_int, cell_bool, fillS, splice_one, idxA, Ex.isNormal, List.set_nil, List.length_set, List.all_cons, List.all_nil, Bool.and_self, and_self, true_and, and_true, List.getElem?_nil, Int.reduceLT, Int.reduceLE, Int.reduceToNat, Int.toNat_zero, Int.toNat_one, Int.reduceAdd, Int.reduceSub, Int.reduceMul, Int.reduceNeg, Int.reduceBEq, Int.reduceBNe, Int.reduceGE, Int.reduceGT, Nat.reduceLT, trim_keep, under_fn, under_ptr, under_sl, Nat.lt_irrefl, not_lt_add, trim_tail, keepOk, ABlk.vals, Int.cast_ofNat_Int, decide_true, decide_false, List.all_cons, List.all_nil, Nat.zero_mul, Nat.mul_one, Nat.one_mul, wl, hd, ix, ld, iy, ly, dn, seqR_exit', outs_normal]
  exact exF2 rfl rfl
 | succ m ih =>
  intro i j107 j108 j109 j110 j111 j112 j113 j114 j115 j116 j117 j118 j119 j120 j121 j122 j123 hi
  have il : i < was.length := by omega
  have hd : decide ((i : Int) < (was.length : Int)) = true := decide_eq_true (by omega)
  have e2 : IntKind.i64.wrap ((i : Int) + 1) = ((i + 1 : Nat) : Int) := by rw [wrap64 (by omega) (by omega)]; omega
  have hx := List.getElem?_eq_getElem il
  have lt : was[i] < y := by
   have := List.pairwise_iff_getElem.1 ua i p il pl (by omega)
   rw [List.getElem?_eq_getElem pl] at hp
   injection hp with hp
   omega
  generalize was[i] = x at *
  obtain ⟨a, ix, ld⟩ := ga.idx hx .i64
  have dn := decide_eq_true lt
  rw [lo]
  unfold l5x1
  simp -implicitDefEqProofs (maxSteps := 5000000) only [go_sem, Nat.reduceShiftRight, Nat.reduceAnd, Nat.reduceBNe, Int.reduceEq, Nat.reduceAdd, Nat.reduceSub, Nat.reduceMul, Nat.reduceLeDiff, reduceIte, reduceCtorEq, Nat.reduceBEq, Nat.reduceEqDiff, wrap64, runC_loop, runC_range, callF_fn, callV_fn, callV_yld, yield_eq, yieldBody, yieldRaw, roundMid, roundEnd, rangeEnd, Bool.not_not, put_cons, put_nil, trim_same, at_zero, at_add, set_zero, set_add, store_one, write_zero, write_add, write_head, write_succ, splice_one, splice_more, List.drop_nil, List.take_nil, cell_int, cell_bool, fillS, splice_one, idxA, Ex.isNormal, List.set_nil, List.length_set, List.all_cons, List.all_nil, Bool.and_self, and_self, true_and, and_true, List.getElem?_nil, Int.reduceLT, Int.reduceLE, Int.reduceToNat, Int.toNat_zero, Int.toNat_one, Int.reduceAdd, Int.reduceSub, Int.reduceMul, Int.reduceNeg, Int.reduceBEq, Int.reduceBNe, Int.reduceGE, Int.reduceGT, Nat.reduceLT, trim_keep, under_fn, under_ptr, under_sl, Nat.lt_irrefl, not_lt_add, trim_tail, keepOk, ABlk.vals, Int.cast_ofNat_Int, decide_true, decide_false, List.all_cons, List.all_nil, Nat.zero_mul, Nat.mul_one, Nat.one_mul, wl, hd, ix, ld, iy, ly, dn, e2]
  exact ih (i + 1) _ _ _ _ _ _ _ _ _ _ _ _ _ _ _ _ _ (by omega)
set_option maxHeartbeats 4000000 in
theorem frL2 (sub : ∀ x ∈ now, x ∈ was) (x0 x1 x2 x3 x5 x6 x9 x10 x11 x12 x15 x16 x17 x18 x19 x20 x21 x22 x23 x24 x25 x26 x27 x28 x29 x30 x31 x32 x33 x34 x35 x36 x37 x38 x39 x40 x41 x42 x43 x44 x45 x46 x47 x48 x49 x50 x51 x52 x53 x54 x55 x56 x57 x58 x59 x60 x61 x62 x63 x64 x65 x66 x67 x68 x69 x70 x71 x72 x73 x74 x75 x76 x77 x78 x79 x80 x81 x82 x83 x84 x85 x86 x87 x88 x89 x90 x91 x92 x93 x94 x95 x96 x97 x98 x99 x100 x139 : AV) : ∀ (m j i : Nat) (j101 j102 j103 j104 j105 j106 j107 j108 j109 j110 j111 j112 j113 j114 j115 j116 j117 j118 j119 j120 j121 j122 j123 j124 j125 j126 j127 j128 j129 j130 j131 j132 j133 j134 j135 j136 j137 j138 : AV), j + m = now.length → (∀ q p y, j ≤ q → now[q]? = some y → was[p]? = some y → i ≤ p) →
  Outs (LZ l5x2 [x0, x1, x2, x3, .bool false, x5, x6, va, vb, x9, x10, x11, x12, .int .i64 (i : Int), .int .i64 (j : Int), x15, x16, x17, x18, x19, x20, x21, x22, x23, x24, x25, x26, x27, x28, x29, x30, x31, x32, x33, x34, x35, x36, x37, x38, x39, x40, x41, x42, x43, x44, x45, x46, x47, x48, x49, x50, x51, x52, x53, x54, x55, x56, x57, x58, x59, x60, x61, x62, x63, x64, x65, x66, x67, x68, x69, x70, x71, x72, x73, x74, x75, x76, x77, x78, x79, x80, x81, x82, x83, x84, x85, x86, x87, x88, x89, x90, x91, x92, x93, x94, x95, x96, x97, x98, x99, x100, j101, j102, j103, j104, j105, j106, j107, j108, j109, j110, j111, j112, j113, j114, j115, j116, j117, j118, j119, j120, j121, j122, j123, j124, j125, j126, j127, j128, j129, j130, j131, j132, j133, j134, j135, j136, j137, j138, x139] K) fun e t K' => e = .exit 2 ∧ K' = K ∧ ∃ fv : Nat → AV, t = [x0, x1, x2, x3, (fv 4), x5, x6, va, vb, x9, x10, x11, x12, (fv 13), (fv 14), x15, x16, x17, x18, x19, x20, x21, x22, x23, x24, x25, x26, x27, x28, x29, x30, x31, x32, x33, x34, x35, x36, x37, x38, x39, x40, x41, x42, x43, x44, x45, x46, x47, x48, x49, x50, x51, x52, x53, x54, x55, x56, x57, x58, x59, x60, x61, x62, x63, x64, x65, x66, x67, x68, x69, x70, x71, x72, x73, x74, x75, x76, x77, x78, x79, x80, x81, x82, x83, x84, x85, x86, x87, x88, x89, x90, x91, x92, x93, x94, x95, x96, x97, x98, x99, x100, (fv 101), (fv 102), (fv 103), (fv 104), (fv 105), (fv 106), (fv 107), (fv 108), (fv 109), (fv 110), (fv 111), (fv 112), (fv 113), (fv 114), (fv 115), (fv 116), (fv 117), (fv 118), (fv 119), (fv 120), (fv 121), (fv 122), (fv 123), (fv 124), (fv 125), (fv 126), (fv 127), (fv 128), (fv 129), (fv 130), (fv 131), (fv 132), (fv 133), (fv 134), (fv 135), (fv 136), (fv 137), (fv 138), x139] := by
 intro m
 obtain ⟨L0, hL0⟩ : ∃ L, L = LZ l5x2 := ⟨_, rfl⟩
 have lo := loop_open hL0
 have wl := ga.len
 have wb := gb.len
 rw [← hL0]
 induction m with
 | zero =>
  intro j i j101 j102 j103 j104 j105 j106 j107 j108 j109 j110 j111 j112 j113 j114 j115 j116 j117 j118 j119 j120 j121 j122 j123 j124 j125 j126 j127 j128 j129 j130 j131 j132 j133 j134 j135 j136 j137 j138 hj hi
  obtain rfl : j = now.length := by omega
  have hd : decide ((now.length : Int) < (now.length : Int)) = false := by simp
  rw [lo]
  unfold l5x2
  simp -implicitDefEqProofs (maxSteps := 5000000) only [go_sem, Nat.reduceShiftRight, Nat.reduceAnd, Nat.reduceBNe, Int.reduceEq, Nat.reduceAdd, Nat.reduceSub, Nat.reduceMul, Nat.reduceLeDiff, reduceIte, reduceCtorEq, Nat.reduceBEq, Nat.reduceEqDiff, wrap64, runC_loop, runC_range, callF_fn, callV_fn, callV_yld, yield_eq, yieldBody, yieldRaw, roundMid, roundEnd, rangeEnd, Bool.not_not, put_cons, put_nil, trim_same, at_zero, at_add, set_zero, set_add, store_one, write_zero, write_add, write_head, write_succ, splice_one, splice_more, List.drop_nil, List.take_nil, cell_int, cell_bool, fillS, splice_one, idxA, Ex.isNormal, List.set_nil, List.length_set, List.all_cons, List.all_nil, Bool.and_self, and_self, true_and, and_true, List.getElem?_nil, Int.reduceLT, Int.reduceLE, Int.reduceToNat, Int.toNat_zero, Int.toNat_one, Int.reduceAdd, Int.reduceSub, Int.reduceMul, Int.reduceNeg, Int.reduceBEq, Int.reduceBNe, Int.reduceGE, Int.reduceGT, Nat.reduceLT, trim_keep, under_fn, under_ptr, under_sl, Nat.lt_irrefl, not_lt_add, trim_tail, keepOk, ABlk.vals, Int.cast_ofNat_Int, decide_true, decide_false, List.all_cons, List.all_nil, Nat.zero_mul, Nat.mul_one, Nat.one_mul, wb, hd, seqR_exit', outs_normal]
  exact exF rfl
 | succ m ih =>
  intro j i j101 j102 j103 j104 j105 j106 j107 j108 j109 j110 j111 j112 j113 j114 j115 j116 j117 j118 j119 j120 j121 j122 j123 j124 j125 j126 j127 j128 j129 j130 j131 j132 j133 j134 j135 j136 j137 j138 hj hi
  have jl : j < now.length := by omega
  have hd : decide ((j : Int) < (now.length : Int)) = true := decide_eq_true (by omega)
  have e2 : IntKind.i64.wrap ((j : Int) + 1) = ((j + 1 : Nat) : Int) := by rw [wrap64 (by omega) (by omega)]; omega
  have hy := List.getElem?_eq_getElem jl
  obtain ⟨p, hp⟩ := List.getElem?_of_mem (sub _ (List.getElem_mem jl))
  have pl := (List.getElem?_eq_some_iff.1 hp).1
  have ip := hi j p _ (Nat.le_refl _) hy hp
  have nx : ∀ q p' y, j + 1 ≤ q → now[q]? = some y → was[p']? = some y → p ≤ p' := fun q p' y hq h1 h2 => by
   have ql := (List.getElem?_eq_some_iff.1 h1).1
   have pl' := (List.getElem?_eq_some_iff.1 h2).1
   have l1 := List.pairwise_iff_getElem.1 ub j q jl ql (by omega)
   rw [List.getElem?_eq_getElem ql] at h1
   rw [List.getElem?_eq_getElem pl'] at h2
   have h3 := hp
   rw [List.getElem?_eq_getElem pl] at h3
   injection h1 with h1; injection h2 with h2; injection h3 with h3
   rcases Nat.lt_or_ge p' p with h | h
   ·have := List.pairwise_iff_getElem.1 ua p' p pl' pl h
    omega
   ·exact h
  have l1 := frL1 ga gb ua ub la lb hy hp (m := p - i) (i := i)
  generalize now[j] = y at *
  obtain ⟨ay, iy, ly⟩ := gb.idx hy .i64
  obtain ⟨ap, ix, ld⟩ := ga.idx hp .i64
  have dg : decide ((p : Int) ≥ (was.length : Int)) = false := decide_eq_false (by omega)
  have nn : (y != y) = false := by simp
  rw [lo]
  unfold l5x2
  simp -implicitDefEqProofs (maxSteps := 5000000) only [go_sem, Nat.reduceShiftRight, Nat.reduceAnd, Nat.reduceBNe, Int.reduceEq, Nat.reduceAdd, Nat.reduceSub, Nat.reduceMul, Nat.reduceLeDiff, reduceIte, reduceCtorEq, Nat.reduceBEq, Nat.reduceEqDiff, wrap64, runC_loop, runC_range, callF_fn, callV_fn, callV_yld, yield_eq, yieldBody, yieldRaw, roundMid, roundEnd, rangeEnd, Bool.not_not, put_cons, put_nil, trim_same, at_zero, at_add, set_zero, set_add, store_one, write_zero, write_add, write_head, write_succ, splice_one, splice_more, List.drop_nil, List.take_nil, cell_int, cell_bool, fillS, splice_one, idxA, Ex.isNormal, List.set_nil, List.length_set, List.all_cons, List.all_nil, Bool.and_self, and_self, true_and, and_true, List.getElem?_nil, Int.reduceLT, Int.reduceLE, Int.reduceToNat, Int.toNat_zero, Int.toNat_one, Int.reduceAdd, Int.reduceSub, Int.reduceMul, Int.reduceNeg, Int.reduceBEq, Int.reduceBNe, Int.reduceGE, Int.reduceGT, Nat.reduceLT, trim_keep, under_fn, under_ptr, under_sl, Nat.lt_irrefl, not_lt_add, trim_tail, keepOk, ABlk.vals, Int.cast_ofNat_Int, decide_true, decide_false, List.all_cons, List.all_nil, Nat.zero_mul, Nat.mul_one, Nat.one_mul, runC_loop, x_loop, wb, hd]
  unfold LZ at l1
  generalize (envL prog).loop (runC (envX prog X4) (l5x1 (envX prog X4))) = LL at l1 ⊢
  refine outs_ctx (fun r => seqR (seqR (blockR 3 (seqR (blockR 4 r) _)) _) _) (l1 _ _ _ _ _ _ _ _ _ _ _ _ _ _ _ _ _ _ _ _ _ _ _ _ _ _ _ _ _ _ _ _ _ _ _ _ _ _ _ _ _ _ _ _ _ _ _ _ _ _ _ _ _ _ _ _ _ _ _ _ _ _ _ _ _ _ _ _ _ _ _ _ _ _ _ _ _ _ _ _ _ _ _ _ _ _ _ _ _ _ _ _ _ _ _ _ _ _ _ _ _ _ _ _ _ _ _ _ _ _ _ _ _ _ _ _ _ _ _ _ _ _ _ _ _ _ _ _ _ _ _ _ _ _ _ _ (by omega)) ?_
  rintro e t K' ⟨rfl, rfl, fv, rfl, f13⟩
  simp -implicitDefEqProofs (maxSteps := 5000000) only [go_sem, Nat.reduceShiftRight, Nat.reduceAnd, Nat.reduceBNe, Int.reduceEq, Nat.reduceAdd, Nat.reduceSub, Nat.reduceMul, Nat.reduceLeDiff, reduceIte, reduceCtorEq, Nat.reduceBEq, Nat.reduceEqDiff, wrap64, runC_loop, runC_range, callF_fn, callV_fn, callV_yld, yield_eq, yieldBody, yieldRaw, roundMid, roundEnd, rangeEnd, Bool.not_not, put_cons, put_nil, trim_same, at_zero, at_add, set_zero, set_add, store_one, write_zero, write_add, write_head, write_succ, splice_one, splice_more, List.drop_nil, List.take_nil, cell_int, cell_bool, fillS, splice_one, idxA, Ex.isNormal, List.set_nil, List.length_set, List.all_cons, List.all_nil, Bool.and_self, and_self, true_and, and_true, List.getElem?_nil, Int.reduceLT, Int.reduceLE, Int.reduceToNat, Int.toNat_zero, Int.toNat_one, Int.reduceAdd, Int.reduceSub, Int.reduceMul, Int.reduceNeg, Int.reduceBEq, Int.reduceBNe, Int.reduceGE, Int.reduceGT, Nat.reduceLT, trim_keep, under_fn, under_ptr, under_sl, Nat.lt_irrefl, not_lt_add, trim_tail, keepOk, ABlk.vals, Int.cast_ofNat_Int, decide_true, decide_false, List.all_cons, List.all_nil, Nat.zero_mul, Nat.mul_one, Nat.one_mul, f13, wl, dg, ix, ld, iy, ly, nn, e2]
  exact ih (j + 1) p _ _ _ _ _ _ _ _ _ _ _ _ _ _ _ _ _ _ _ _ _ _ _ _ _ _ _ _ _ _ _ _ _ _ _ _ _ _ (by omega) nx
end
end Go.Proofs.Ytfioahnogphnfaa.G12
end
section
namespace Go.Proofs.Ytfioahnogphnfaa.G12
open Go Go.Proofs.Ytfioahnogphnfaa.Eng
section
variable {K : AHeap} {v : AV} {L : List SnS} (g : IsC K v L) (fi : Fits L)
include g fi
set_option maxHeartbeats 4000000 in
theorem frC {k : Nat} {u : SnS} (hu : L[k]? = some u) (x1 x2 x3 x4 x6 x7 x8 x13 x14 x15 x16 x17 x18 x19 x20 x21 x22 x23 x24 x25 x26 x27 x28 x29 x30 x31 x32 x33 x34 x35 x36 x37 x38 x39 x40 x41 x42 x43 x44 x45 x46 x47 x48 x85 x86 x87 x88 x89 x90 x91 x92 x93 x94 x95 x96 x97 x98 x99 x100 x101 x102 x103 x104 x105 x106 x107 x108 x109 x110 x111 x112 x113 x114 x115 x116 x117 x118 x119 x120 x121 x122 x123 x124 x125 x126 x127 x128 x129 x130 x131 x132 x133 x134 x135 x136 x137 x138 x139 : AV) (j11 j12 j49 j50 j51 j52 j53 j54 j55 j56 j57 j58 j59 j60 j61 j62 j63 j64 j65 j66 j67 j68 j69 j70 j71 j72 j73 j74 j75 j76 j77 j78 j79 j80 j81 j82 j83 j84 : AV) :
  Outs (LZ l5x0 [v, x1, x2, x3, x4, .int .i64 (k : Int), x6, x7, x8, .int .i64 (u.tb.length : Int), .int .i64 0, j11, j12, x13, x14, x15, x16, x17, x18, x19, x20, x21, x22, x23, x24, x25, x26, x27, x28, x29, x30, x31, x32, x33, x34, x35, x36, x37, x38, x39, x40, x41, x42, x43, x44, x45, x46, x47, x48, j49, j50, j51, j52, j53, j54, j55, j56, j57, j58, j59, j60, j61, j62, j63, j64, j65, j66, j67, j68, j69, j70, j71, j72, j73, j74, j75, j76, j77, j78, j79, j80, j81, j82, j83, j84, x85, x86, x87, x88, x89, x90, x91, x92, x93, x94, x95, x96, x97, x98, x99, x100, x101, x102, x103, x104, x105, x106, x107, x108, x109, x110, x111, x112, x113, x114, x115, x116, x117, x118, x119, x120, x121, x122, x123, x124, x125, x126, x127, x128, x129, x130, x131, x132, x133, x134, x135, x136, x137, x138, x139] K) fun e t K' => e = .exit 0 ∧ K' = K ∧ ∃ fv : Nat → AV, t = [v, x1, x2, x3, x4, .int .i64 (k : Int), x6, x7, x8, (fv 9), (fv 10), (fv 11), (fv 12), x13, x14, x15, x16, x17, x18, x19, x20, x21, x22, x23, x24, x25, x26, x27, x28, x29, x30, x31, x32, x33, x34, x35, x36, x37, x38, x39, x40, x41, x42, x43, x44, x45, x46, x47, x48, (fv 49), (fv 50), (fv 51), (fv 52), (fv 53), (fv 54), (fv 55), (fv 56), (fv 57), (fv 58), (fv 59), (fv 60), (fv 61), (fv 62), (fv 63), (fv 64), (fv 65), (fv 66), (fv 67), (fv 68), (fv 69), (fv 70), (fv 71), (fv 72), (fv 73), (fv 74), (fv 75), (fv 76), (fv 77), (fv 78), (fv 79), (fv 80), (fv 81), (fv 82), (fv 83), (fv 84), x85, x86, x87, x88, x89, x90, x91, x92, x93, x94, x95, x96, x97, x98, x99, x100, x101, x102, x103, x104, x105, x106, x107, x108, x109, x110, x111, x112, x113, x114, x115, x116, x117, x118, x119, x120, x121, x122, x123, x124, x125, x126, x127, x128, x129, x130, x131, x132, x133, x134, x135, x136, x137, x138, x139] ∧ fv 9 = .int .i64 (freedN L k : Int) := by
 cases k with
 | zero =>
  obtain ⟨L0, hL0⟩ : ∃ L, L = LZ l5x0 := ⟨_, rfl⟩
  have lo := loop_open hL0
  obtain ⟨bb, cs, vc, vt, sb, ix, hc, h1, h2, h3, ht, hle, hbs, hip⟩ := g.idx hu
  have wl := hip.len
  have fe : freedN L 0 = u.tb.length := by unfold freedN; rw [hu]; rfl
  rw [show ((0 : Nat) : Int) = 0 from rfl] at ix ⊢
  have dk : decide ((0 : Int) > 0) = false := rfl
  rw [fe, ← hL0, lo]
  unfold l5x0
  by_cases h : (0 : Int) < (u.tb.length : Int)
  ·have hd := decide_eq_true h
   simp -implicitDefEqProofs (maxSteps := 5000000) only [go_sem, Nat.reduceShiftRight, Nat.reduceAnd, Nat.reduceBNe, Int.reduceEq, Nat.reduceAdd, Nat.reduceSub, Nat.reduceMul, Nat.reduceLeDiff, reduceIte, reduceCtorEq, Nat.reduceBEq, Nat.reduceEqDiff, wrap64, runC_loop, runC_range, callF_fn, callV_fn, callV_yld, yield_eq, yieldBody, yieldRaw, roundMid, roundEnd, rangeEnd, Bool.not_not, put_cons, put_nil, trim_same, at_zero, at_add, set_zero, set_add, store_one, write_zero, write_add, write_head, write_succ, splice_one, splice_more, List.drop_nil, List.take_nil, cell_int, cell_bool, fillS, splice_one, idxA, Ex.isNormal, List.set_nil, List.length_set, List.all_cons, List.all_nil, Bool.and_self, and_self, true_and, and_true, List.getElem?_nil, Int.reduceLT, Int.reduceLE, Int.reduceToNat, Int.toNat_zero, Int.toNat_one, Int.reduceAdd, Int.reduceSub, Int.reduceMul, Int.reduceNeg, Int.reduceBEq, Int.reduceBNe, Int.reduceGE, Int.reduceGT, Nat.reduceLT, trim_keep, under_fn, under_ptr, under_sl, Nat.lt_irrefl, not_lt_add, trim_tail, keepOk, ABlk.vals, Int.cast_ofNat_Int, decide_true, decide_false, List.all_cons, List.all_nil, Nat.zero_mul, Nat.mul_one, Nat.one_mul, ix, hc, h3, wl, hd, dk, seqR_exit', outs_normal]
   exact exF2 rfl rfl
  ·have hd := decide_eq_false h
   simp -implicitDefEqProofs (maxSteps := 5000000) only [go_sem, Nat.reduceShiftRight, Nat.reduceAnd, Nat.reduceBNe, Int.reduceEq, Nat.reduceAdd, Nat.reduceSub, Nat.reduceMul, Nat.reduceLeDiff, reduceIte, reduceCtorEq, Nat.reduceBEq, Nat.reduceEqDiff, wrap64, runC_loop, runC_range, callF_fn, callV_fn, callV_yld, yield_eq, yieldBody, yieldRaw, roundMid, roundEnd, rangeEnd, Bool.not_not, put_cons, put_nil, trim_same, at_zero, at_add, set_zero, set_add, store_one, write_zero, write_add, write_head, write_succ, splice_one, splice_more, List.drop_nil, List.take_nil, cell_int, cell_bool, fillS, splice_one, idxA, Ex.isNormal, List.set_nil, List.length_set, List.all_cons, List.all_nil, Bool.and_self, and_self, true_and, and_true, List.getElem?_nil, Int.reduceLT, Int.reduceLE, Int.reduceToNat, Int.toNat_zero, Int.toNat_one, Int.reduceAdd, Int.reduceSub, Int.reduceMul, Int.reduceNeg, Int.reduceBEq, Int.reduceBNe, Int.reduceGE, Int.reduceGT, Nat.reduceLT, trim_keep, under_fn, under_ptr, under_sl, Nat.lt_irrefl, not_lt_add, trim_tail, keepOk, ABlk.vals, Int.cast_ofNat_Int, decide_true, decide_false, List.all_cons, List.all_nil, Nat.zero_mul, Nat.mul_one, Nat.one_mul, ix, hc, h3, wl, hd, dk, seqR_exit', outs_normal]
   exact exF2 rfl rfl
 | succ n =>
  have nl := (List.getElem?_eq_some_iff.1 hu).1
  have hs := List.getElem?_eq_getElem (show n < L.length by omega)
  have fe : freedN L (n + 1) = meet L[n].tb u.tb := by unfold freedN; simp only [hs, hu]
  rw [fe]
  exact frL0 g fi hs hu _ _ _ _ _ _ _ _ _ _ _ _ _ _ _ _ _ _ _ _ _ _ _ _ _ _ _ _ _ _ _ _ _ _ _ _ _ _ _ _ _ _ _ _ _ _ _ _ _ _ _ _ _ _ _ _ _ _ _ _ _ _ _ _ _ _ _ _ _ _ _ _ _ _ _ _ _ _ _ _ _ _ _ _ _ _ _ _ _ _ _ _ _ _ _ _ _ _ u.tb.length 0 u.tb.length _ _ _ _ _ _ _ _ _ _ _ _ _ _ _ _ _ _ _ _ _ _ _ _ _ _ _ _ _ _ _ _ _ _ _ _ _ _ (by omega) (by simp [meet])
end
set_option maxHeartbeats 32000000 in
theorem poolFrees (v : AV) (n0 : Int) (k0 : 0 ≤ n0 ∧ n0 ≤ 255) (h : AHeap) (d : DatC h (.sl [.int .i64, .sl [.int .u8], .sl [.int .i64, .int .i64]]) v) : ∃ h', callBody prog (envX prog X4) 5 [v, .int .u8 n0] h = some (.bool true, h') := by
 obtain ⟨L, g0, ln, hL⟩ := snaps_dat d
 rw [d5]
 refine of_outs ?_
 unfold b5
 generalize hQ : (fun (e : Ex) (t : T) (h1 : AHeap) => fin [.tmp 4] (some (e, t, h1)) = some (AV.bool true, h1)) = Q
 have wl := g0.len
 by_cases hz : L.length = 0
 ·have z1 : ((L.length : Int) == 0) = true := by simp [hz]
  simp -implicitDefEqProofs (maxSteps := 5000000) only [go_sem, Nat.reduceShiftRight, Nat.reduceAnd, Nat.reduceBNe, Int.reduceEq, Nat.reduceAdd, Nat.reduceSub, Nat.reduceMul, Nat.reduceLeDiff, reduceIte, reduceCtorEq, Nat.reduceBEq, Nat.reduceEqDiff, wrap64, runC_loop, runC_range, callF_fn, callV_fn, callV_yld, yield_eq, yieldBody, yieldRaw, roundMid, roundEnd, rangeEnd, Bool.not_not, put_cons, put_nil, trim_same, at_zero, at_add, set_zero, set_add, store_one, write_zero, write_add, write_head, write_succ, splice_one, splice_more, List.drop_nil, List.take_nil, cell_int, cell_bool, fillS, splice_one, idxA, Ex.isNormal, List.set_nil, List.length_set, List.all_cons, List.all_nil, Bool.and_self, and_self, true_and, and_true, List.getElem?_nil, Int.reduceLT, Int.reduceLE, Int.reduceToNat, Int.toNat_zero, Int.toNat_one, Int.reduceAdd, Int.reduceSub, Int.reduceMul, Int.reduceNeg, Int.reduceBEq, Int.reduceBNe, Int.reduceGE, Int.reduceGT, Nat.reduceLT, trim_keep, under_fn, under_ptr, under_sl, Nat.lt_irrefl, not_lt_add, trim_tail, keepOk, ABlk.vals, Int.cast_ofNat_Int, decide_true, decide_false, List.all_cons, List.all_nil, Nat.zero_mul, Nat.mul_one, Nat.one_mul, x4_call, wl, z1, x4_wakes, outs_normal]
  subst hQ
  simp -implicitDefEqProofs (maxSteps := 5000000) only [go_sem, Nat.reduceShiftRight, Nat.reduceAnd, Nat.reduceBNe, Int.reduceEq, Nat.reduceAdd, Nat.reduceSub, Nat.reduceMul, Nat.reduceLeDiff, reduceIte, reduceCtorEq, Nat.reduceBEq, Nat.reduceEqDiff]
 have z1 : ((L.length : Int) == 0) = false := by rw [beq_eq_false_iff_ne]; omega
 by_cases h8 : L.length ≤ 8
 case neg =>
  have d8 : decide ((L.length : Int) > 8) = true := decide_eq_true (by omega)
  simp -implicitDefEqProofs (maxSteps := 5000000) only [go_sem, Nat.reduceShiftRight, Nat.reduceAnd, Nat.reduceBNe, Int.reduceEq, Nat.reduceAdd, Nat.reduceSub, Nat.reduceMul, Nat.reduceLeDiff, reduceIte, reduceCtorEq, Nat.reduceBEq, Nat.reduceEqDiff, wrap64, runC_loop, runC_range, callF_fn, callV_fn, callV_yld, yield_eq, yieldBody, yieldRaw, roundMid, roundEnd, rangeEnd, Bool.not_not, put_cons, put_nil, trim_same, at_zero, at_add, set_zero, set_add, store_one, write_zero, write_add, write_head, write_succ, splice_one, splice_more, List.drop_nil, List.take_nil, cell_int, cell_bool, fillS, splice_one, idxA, Ex.isNormal, List.set_nil, List.length_set, List.all_cons, List.all_nil, Bool.and_self, and_self, true_and, and_true, List.getElem?_nil, Int.reduceLT, Int.reduceLE, Int.reduceToNat, Int.toNat_zero, Int.toNat_one, Int.reduceAdd, Int.reduceSub, Int.reduceMul, Int.reduceNeg, Int.reduceBEq, Int.reduceBNe, Int.reduceGE, Int.reduceGT, Nat.reduceLT, trim_keep, under_fn, under_ptr, under_sl, Nat.lt_irrefl, not_lt_add, trim_tail, keepOk, ABlk.vals, Int.cast_ofNat_Int, decide_true, decide_false, List.all_cons, List.all_nil, Nat.zero_mul, Nat.mul_one, Nat.one_mul, x4_call, wl, z1, d8, x4_wakes, outs_normal]
  subst hQ
  simp -implicitDefEqProofs (maxSteps := 5000000) only [go_sem, Nat.reduceShiftRight, Nat.reduceAnd, Nat.reduceBNe, Int.reduceEq, Nat.reduceAdd, Nat.reduceSub, Nat.reduceMul, Nat.reduceLeDiff, reduceIte, reduceCtorEq, Nat.reduceBEq, Nat.reduceEqDiff]
 have d8 : decide ((L.length : Int) > 8) = false := decide_eq_false (by omega)
 have hu : ∀ s ∈ L, IsU8 s.ch := fun s hs => (hL s hs).2.1
 have er := rcgoodC g0 200 (fun s hs => ⟨(hL s hs).2.2.2.1, good10 hu hs⟩) h8 (bl := 10) (by decide)
 rw [rgood_eq 10 200 L none [] hu] at er
 rcases hg : cgoodF 10 200 L none [] with _ | _ <;> rw [hg] at er
 ·simp -implicitDefEqProofs (maxSteps := 5000000) only [go_sem, Nat.reduceShiftRight, Nat.reduceAnd, Nat.reduceBNe, Int.reduceEq, Nat.reduceAdd, Nat.reduceSub, Nat.reduceMul, Nat.reduceLeDiff, reduceIte, reduceCtorEq, Nat.reduceBEq, Nat.reduceEqDiff, wrap64, runC_loop, runC_range, callF_fn, callV_fn, callV_yld, yield_eq, yieldBody, yieldRaw, roundMid, roundEnd, rangeEnd, Bool.not_not, put_cons, put_nil, trim_same, at_zero, at_add, set_zero, set_add, store_one, write_zero, write_add, write_head, write_succ, splice_one, splice_more, List.drop_nil, List.take_nil, cell_int, cell_bool, fillS, splice_one, idxA, Ex.isNormal, List.set_nil, List.length_set, List.all_cons, List.all_nil, Bool.and_self, and_self, true_and, and_true, List.getElem?_nil, Int.reduceLT, Int.reduceLE, Int.reduceToNat, Int.toNat_zero, Int.toNat_one, Int.reduceAdd, Int.reduceSub, Int.reduceMul, Int.reduceNeg, Int.reduceBEq, Int.reduceBNe, Int.reduceGE, Int.reduceGT, Nat.reduceLT, trim_keep, under_fn, under_ptr, under_sl, Nat.lt_irrefl, not_lt_add, trim_tail, keepOk, ABlk.vals, Int.cast_ofNat_Int, decide_true, decide_false, List.all_cons, List.all_nil, Nat.zero_mul, Nat.mul_one, Nat.one_mul, x4_call, wl, z1, d8, er, x4_wakes, outs_normal]
  subst hQ
  simp -implicitDefEqProofs (maxSteps := 5000000) only [go_sem, Nat.reduceShiftRight, Nat.reduceAnd, Nat.reduceBNe, Int.reduceEq, Nat.reduceAdd, Nat.reduceSub, Nat.reduceMul, Nat.reduceLeDiff, reduceIte, reduceCtorEq, Nat.reduceBEq, Nat.reduceEqDiff]
 have G : GoodC 10 200 L := ((cgood_iff hu).1 (by unfold cgood; rw [hg, decide_eq_true h8]; rfl)).2
 have fi := (G.fair h8).fits
 have w0 : IntKind.i64.wrap n0 = n0 := wrap64 (by omega) (by omega)
 have r0 := int_rem .none .i64 n0 (L.length : Int) (by omega)
 obtain ⟨k, hk, hk1⟩ := tmod_nat' k0.1 (show (0 : Int) < (L.length : Int) by omega)
 rw [hk] at r0
 have kl : k < L.length := by omega
 have ds : dropS L (k : Int) = dropN L k := by unfold dropS; rw [if_neg (by omega), Int.toNat_natCast]
 obtain ⟨GD, LD⟩ := good_drop G kl
 have fd := (GD.fair (by omega)).fits
 obtain ⟨du1, du2⟩ := drop_used G kl
 obtain ⟨w, K1, e1, A1, p1⟩ := dropC g0 fi (k : Int)
 have e1 := x4_drop e1
 rw [ds] at p1
 have sa : SA K1 [.nilSl, v, .int .i64 0, .int .i64 0, .int .i64 0, .nilSl] L [] := ⟨⟨.nilSl, v, 0, 0, 0, .nilSl, rfl, g0.adds A1, .inl ⟨rfl, rfl⟩, rfl, rfl⟩, fi, by simp⟩
 obtain ⟨va, K2, e2, A2, i2, _⟩ := usedC sa
 have e2 := x4_used e2
 have sb : SA K2 [.nilSl, w, .int .i64 0, .int .i64 0, .int .i64 0, .nilSl] (dropN L k) [] := ⟨⟨.nilSl, w, 0, 0, 0, .nilSl, rfl, p1.adds A2, .inl ⟨rfl, rfl⟩, rfl, rfl⟩, fd, by simp⟩
 obtain ⟨vb, K3, e3, A3, i3, _⟩ := usedC sb
 have e3 := x4_used e3
 have e4 := x4_free (freeC (sb.adds A3) 200 (by decide))
 have i2 := A3.is i2
 have g3 := ((g0.adds A1).adds A2).adds A3
 have la := usedS_len sa.fi sa.lp
 have lb := usedS_len sb.fi sb.lp
 have ua : (usedS L []).Pairwise (· < ·) := usd_up _
 have ub : (usedS (dropN L k) []).Pairwise (· < ·) := usd_up _
 have wt : wth 200 (usedS (dropN L k) []) = (usedS (dropN L k) []).length := wth_all fun x hx => used_rng GD hx
 have fn : freeN (usedS (dropN L k) []) 200 = 200 - ((usedS (dropN L k) []).length : Int) := by unfold freeN; rw [if_neg (by decide), wt]
 rw [fn] at e4
 have l2 := frL2 i2 i3 ua ub la lb du2 (m := (usedS (dropN L k) []).length) (j := 0) (i := 0)
 rw [show ((0 : Nat) : Int) = 0 from rfl] at l2
 have hx := List.getElem?_eq_getElem kl
 have l0 := frC g3 fi hx
 obtain ⟨bb, cs, vc, vt, sb', ix, hc, h1, h2, h3, ht, hle, hbs, hip⟩ := g3.idx hx
 have wt' := hip.len
 have wa := i2.len
 have wb := i3.len
 generalize freedN L k = fr at l0 du1
 generalize usedS L [] = was at *
 generalize usedS (dropN L k) [] = now at *
 have q1 : IntKind.i64.wrap ((was.length : Int) - (fr : Int)) = (now.length : Int) := by rw [wrap64 (by omega) (by omega)]; omega
 have q2 : IntKind.i64.wrap (200 - (now.length : Int)) = 200 - (now.length : Int) := by rw [wrap64 (by omega) (by omega)]
 have nn : ∀ x : Int, (x != x) = false := fun x => by simp
 have kv := g0.cell
 have kw := p1.cell
 simp -implicitDefEqProofs (maxSteps := 5000000) only [go_sem, Nat.reduceShiftRight, Nat.reduceAnd, Nat.reduceBNe, Int.reduceEq, Nat.reduceAdd, Nat.reduceSub, Nat.reduceMul, Nat.reduceLeDiff, reduceIte, reduceCtorEq, Nat.reduceBEq, Nat.reduceEqDiff, wrap64, runC_loop, runC_range, callF_fn, callV_fn, callV_yld, yield_eq, yieldBody, yieldRaw, roundMid, roundEnd, rangeEnd, Bool.not_not, put_cons, put_nil, trim_same, at_zero, at_add, set_zero, set_add, store_one, write_zero, write_add, write_head, write_succ, splice_one, splice_more, List.drop_nil, List.take_nil, cell_int, cell_bool, fillS, splice_one, idxA, Ex.isNormal, List.set_nil, List.length_set, List.all_cons, List.all_nil, Bool.and_self, and_self, true_and, and_true, List.getElem?_nil, Int.reduceLT, Int.reduceLE, Int.reduceToNat, Int.toNat_zero, Int.toNat_one, Int.reduceAdd, Int.reduceSub, Int.reduceMul, Int.reduceNeg, Int.reduceBEq, Int.reduceBNe, Int.reduceGE, Int.reduceGT, Nat.reduceLT, trim_keep, under_fn, under_ptr, under_sl, Nat.lt_irrefl, not_lt_add, trim_tail, keepOk, ABlk.vals, Int.cast_ofNat_Int, decide_true, decide_false, List.all_cons, List.all_nil, Nat.zero_mul, Nat.mul_one, Nat.one_mul, x_loop, runC_loop, x4_call, wl, z1, d8, er, w0, r0, e1, kv.1, kv.2, kw.1, kw.2, e2, e3, ix, hc, h3, wt']
 unfold LZ at l0
 generalize (envL prog).loop (runC (envX prog X4) (l5x0 (envX prog X4))) = LL at l0 ⊢
 refine outs_ctx (fun r => seqR (blockR 0 r) _) (l0 _ _ _ _ _ _ _ _ _ _ _ _ _ _ _ _ _ _ _ _ _ _ _ _ _ _ _ _ _ _ _ _ _ _ _ _ _ _ _ _ _ _ _ _ _ _ _ _ _ _ _ _ _ _ _ _ _ _ _ _ _ _ _ _ _ _ _ _ _ _ _ _ _ _ _ _ _ _ _ _ _ _ _ _ _ _ _ _ _ _ _ _ _ _ _ _ _ _ _ _ _ _ _ _ _ _ _ _ _ _ _ _ _ _ _ _ _ _ _ _ _ _ _ _ _ _ _ _ _ _ _ _ _ _ _ _) ?_
 rintro e t H6 ⟨rfl, rfl, fv, rfl, f9⟩
 simp -implicitDefEqProofs (maxSteps := 5000000) only [go_sem, Nat.reduceShiftRight, Nat.reduceAnd, Nat.reduceBNe, Int.reduceEq, Nat.reduceAdd, Nat.reduceSub, Nat.reduceMul, Nat.reduceLeDiff, reduceIte, reduceCtorEq, Nat.reduceBEq, Nat.reduceEqDiff, wrap64, runC_loop, runC_range, callF_fn, callV_fn, callV_yld, yield_eq, yieldBody, yieldRaw, roundMid, roundEnd, rangeEnd, Bool.not_not, put_cons, put_nil, trim_same, at_zero, at_add, set_zero, set_add, store_one, write_zero, write_add, write_head, write_succ, splice_one, splice_more, List.drop_nil, List.take_nil, cell_int, cell_bool, fillS, splice_one, idxA, Ex.isNormal, List.set_nil, List.length_set, List.all_cons, List.all_nil, Bool.and_self, and_self, true_and, and_true, List.getElem?_nil, Int.reduceLT, Int.reduceLE, Int.reduceToNat, Int.toNat_zero, Int.toNat_one, Int.reduceAdd, Int.reduceSub, Int.reduceMul, Int.reduceNeg, Int.reduceBEq, Int.reduceBNe, Int.reduceGE, Int.reduceGT, Nat.reduceLT, trim_keep, under_fn, under_ptr, under_sl, Nat.lt_irrefl, not_lt_add, trim_tail, keepOk, ABlk.vals, Int.cast_ofNat_Int, decide_true, decide_false, List.all_cons, List.all_nil, Nat.zero_mul, Nat.mul_one, Nat.one_mul, x_loop, runC_loop, x4_call, f9, wa, wb, q1, nn, kw.1, kw.2, e4, q2]
 unfold LZ at l2
 generalize (envL prog).loop (runC (envX prog X4) (l5x2 (envX prog X4))) = LL at l2 ⊢
 refine outs_ctx (fun r => seqR (blockR 2 r) _) (l2 _ _ _ _ _ _ _ _ _ _ _ _ _ _ _ _ _ _ _ _ _ _ _ _ _ _ _ _ _ _ _ _ _ _ _ _ _ _ _ _ _ _ _ _ _ _ _ _ _ _ _ _ _ _ _ _ _ _ _ _ _ _ _ _ _ _ _ _ _ _ _ _ _ _ _ _ _ _ _ _ _ _ _ _ _ _ _ _ _ _ _ _ _ _ _ _ _ _ _ _ _ _ _ _ _ _ _ _ _ _ _ _ _ _ _ _ _ _ _ _ _ _ _ _ _ _ _ _ _ _ _ _ _ _ _ (by omega) (fun _ _ _ _ _ _ => Nat.zero_le _)) ?_
 rintro e t H7 ⟨rfl, rfl, fw, rfl⟩
 simp -implicitDefEqProofs (maxSteps := 5000000) only [go_sem, Nat.reduceShiftRight, Nat.reduceAnd, Nat.reduceBNe, Int.reduceEq, Nat.reduceAdd, Nat.reduceSub, Nat.reduceMul, Nat.reduceLeDiff, reduceIte, reduceCtorEq, Nat.reduceBEq, Nat.reduceEqDiff, wrap64, runC_loop, runC_range, callF_fn, callV_fn, callV_yld, yield_eq, yieldBody, yieldRaw, roundMid, roundEnd, rangeEnd, Bool.not_not, put_cons, put_nil, trim_same, at_zero, at_add, set_zero, set_add, store_one, write_zero, write_add, write_head, write_succ, splice_one, splice_more, List.drop_nil, List.take_nil, cell_int, cell_bool, fillS, splice_one, idxA, Ex.isNormal, List.set_nil, List.length_set, List.all_cons, List.all_nil, Bool.and_self, and_self, true_and, and_true, List.getElem?_nil, Int.reduceLT, Int.reduceLE, Int.reduceToNat, Int.toNat_zero, Int.toNat_one, Int.reduceAdd, Int.reduceSub, Int.reduceMul, Int.reduceNeg, Int.reduceBEq, Int.reduceBNe, Int.reduceGE, Int.reduceGT, Nat.reduceLT, trim_keep, under_fn, under_ptr, under_sl, Nat.lt_irrefl, not_lt_add, trim_tail, keepOk, ABlk.vals, Int.cast_ofNat_Int, decide_true, decide_false, List.all_cons, List.all_nil, Nat.zero_mul, Nat.mul_one, Nat.one_mul, x4_wakes, outs_normal]
 subst hQ
 simp -implicitDefEqProofs (maxSteps := 5000000) only [go_sem, Nat.reduceShiftRight, Nat.reduceAnd, Nat.reduceBNe, Int.reduceEq, Nat.reduceAdd, Nat.reduceSub, Nat.reduceMul, Nat.reduceLeDiff, reduceIte, reduceCtorEq, Nat.reduceBEq, Nat.reduceEqDiff]
end Go.Proofs.Ytfioahnogphnfaa.G12
end
