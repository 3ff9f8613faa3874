/- What the functions that TableMerges reaches answer, for every argument. No condition but those in each statement. -/
import Derived.Test.YtekceggcbpeoeaaBX
set_option linter.unusedSimpArgs false
set_option linter.unusedVariables false
set_option linter.unusedSectionVars false
set_option maxRecDepth 10000
section
namespace Go.Proofs.Ytekceggcbpeoeaa.G10
open Go Go.Proofs.Ytekceggcbpeoeaa.Eng
noncomputable def X2 : Over := X1.up prog 15
theorem x2_ok : X2.Ok prog := up_ok goodP x1_ok _
theorem x2_call (f : Nat) (args : List AV) (h : AHeap) (e0 : (f == 15) = false) (e1 : (f == 21) = false) (e2 : (f == 25) = false) : (envX prog X2).call f args h = (envL prog).call f args h := by
 unfold X2 Over.up; rw [x_miss _ _ e0, x1_call _ _ _ e1 e2]
theorem x2_put {args : List AV} {h : AHeap} {r : AV × AHeap} (e : callBody prog (envX prog X1) 15 args h = some r) : (envX prog X2).call 15 args h = some r := x_hit e
theorem tins_len (b a : Int) : ∀ l : List PrS, (tins b a l).length = l.length + 1
 | [] => rfl
 | q :: l => by unfold tins; split <;> simp [tins_len b a l]
theorem tput_len (l : List PrS) (b a : Int) : (tput l b a).length ≤ l.length + 1 := by
 unfold tput; split
 ·rw [List.length_set]; omega
 ·rw [tins_len]; exact Nat.le_refl _
def FS (H : AHeap) (B : Nat) (v : AV) (zs : List Int) : Prop := GR 1 H B v (zs.map fun z => [AV.int .i64 z])
theorem FS.push {K : AHeap} {B s : Nat} {v : AV} {zs : List Int} {z : Int} (g : FS K B v zs) (hs : cellsOf K s = some [.int .i64 z]) (hn : zs.length ≤ 1000000) (hB : B ≤ K.length) : ∃ v' K', app (ty 1 false 8 [.int .i64 0]) v (.sl s 0 1 1 1 true) K = some (v', K') ∧ FS K' B v' (zs ++ [z]) ∧ Fr K K' (fun b => slb v = some b) ∧ slb v' = some K.length ∧ K'.length = K.length + 1 := by
 have hr : (roomy : Nat) = 140737488355328 := rfl
 obtain ⟨v', K', ea, g', fr, sv, kl, _⟩ := gr_push (k := 1) (by omega) (d := ty 1 false 8 [.int .i64 0]) rfl (by decide) g (fun x hx => by obtain ⟨y, _, rfl⟩ := List.mem_map.1 hx; rfl) hs rfl rfl (by rw [List.length_map]; show (zs.length + 1) * 8 ≤ _; omega) hB
 refine ⟨v', K', ea, ?_, fr, sv, kl⟩
 unfold FS; rw [List.map_append]; exact g'
noncomputable abbrev LY (l : Env → CT) := (envL prog).loop (runC (envX prog X2) (l (envX prog X2)))
section
variable {H : AHeap} {va : AV} {la : List PrS} (ga : IsP H va la) (hla : la.length ≤ 1000)
include ga hla
set_option maxHeartbeats 8000000 in
theorem mergeL0 {pb : Nat} {p : PrS} (x0 x1 x2 x3 x4 x6 x8 x10 x11 x12 x13 x14 x15 x16 x17 x35 x36 x37 x38 x39 x40 x41 x42 x43 : AV) : ∀ (k i : Nat) (K : AHeap) (v4 v5 : AV) (kept : List PrS) (fr : List Int) (j9 j21 j22 j23 j24 j25 j26 j27 j28 j29 j30 j31 j32 j33 j34 : AV), Adds H K → cellsOf K pb = some (prC p) → Gp K H.length v4 kept → FS K H.length v5 fr → (∀ x, slb v5 = some x → slb v4 ≠ some x ∧ x ≠ pb) → fr.length ≤ 1000 → i + k = la.length →
  Outs (LY l10x0 [x0, x1, x2, x3, x4, v5, x6, .ptr pb 0, x8, j9, x10, x11, x12, x13, x14, x15, x16, x17, va, .int .i64 (la.length : Int), .int .i64 (i : Int), j21, j22, j23, j24, j25, j26, j27, j28, j29, j30, j31, j32, j33, j34, x35, x36, x37, x38, x39, x40, x41, x42, x43] K) fun e t K' => Adds H K' ∧ ∃ fv : Nat → AV, t = [x0, x1, x2, x3, x4, (fv 5), x6, .ptr pb 0, x8, (fv 9), x10, x11, x12, x13, x14, x15, x16, x17, va, .int .i64 (la.length : Int), (fv 20), (fv 21), (fv 22), (fv 23), (fv 24), (fv 25), (fv 26), (fv 27), (fv 28), (fv 29), (fv 30), (fv 31), (fv 32), (fv 33), (fv 34), x35, x36, x37, x38, x39, x40, x41, x42, x43] ∧ Gp K' H.length v4 kept ∧ cellsOf K' pb = some (prC p) ∧ (∀ x, slb (fv 5) = some x → slb v4 ≠ some x ∧ x ≠ pb) ∧ ((e = .exit 2 ∧ fv 5 = v5 ∧ FS K' H.length v5 fr ∧ idxF p.1 i (la.drop i) = -1) ∨ (e = .exit 1 ∧ FS K' H.length (fv 5) (fr ++ [p.2]) ∧ 0 ≤ idxF p.1 i (la.drop i))) := by
 intro k
 obtain ⟨L0, hL0⟩ : ∃ L, L = LY l10x0 := ⟨_, rfl⟩
 have lo := loop_open hL0
 rw [← hL0]
 induction k with
 | zero =>
  intro i K v4 v5 kept fr j9 j21 j22 j23 j24 j25 j26 j27 j28 j29 j30 j31 j32 j33 j34 aK cp g4 g5 ap hfr hi
  obtain rfl : i = la.length := by omega
  have hd : decide ((la.length : Int) < (la.length : Int)) = false := by simp
  rw [List.drop_length, lo]
  unfold l10x0
  simp -implicitDefEqProofs (maxSteps := 5000000) only [go_sem, Nat.reduceShiftRight, Nat.reduceAnd, Nat.reduceBNe, Int.reduceEq, Nat.reduceAdd, Nat.reduceSub, Nat.reduceMul, Nat.reduceLeDiff, reduceIte, reduceCtorEq, Nat.reduceBEq, Nat.reduceEqDiff, hd, seqR_exit', outs_normal]
  exact ⟨aK, exF2 rfl ⟨g4, cp, ap, .inl ⟨rfl, g5, rfl⟩⟩⟩
 | succ k ih =>
  intro i K v4 v5 kept fr j9 j21 j22 j23 j24 j25 j26 j27 j28 j29 j30 j31 j32 j33 j34 aK cp g4 g5 ap hfr hi
  have hlt : i < la.length := by omega
  have hd : decide ((i : Int) < (la.length : Int)) = true := decide_eq_true (by omega)
  have e2 : IntKind.i64.wrap ((i : Int) + 1) = ((i + 1 : Nat) : Int) := by rw [wrap64 (by omega) (by omega)]; omega
  have hx := List.getElem?_eq_getElem hlt
  rw [List.drop_eq_getElem_cons hlt]
  generalize la[i] = q at *
  obtain ⟨bb, cs, sb, ix, hc0, h1, h2, ht, hle⟩ := ga.idx hx
  have hc := aK.cells hc0
  have cp1 := fun X : AHeap => cells_old (x := X) cp
  have aKl := aK.len
  unfold prC at cp1 ht
  by_cases h : q.1 = p.1
  ·have hb : (q.1 == p.1) = true := by simp [h]
   obtain ⟨K2, hK2⟩ : ∃ K2, K2 = K ++ [ABlk.rw [.int .i64 q.1, .int .i64 q.2], .rw [.int .i64 p.2]] := ⟨_, rfl⟩
   have A2 : Adds K K2 := ⟨_, hK2⟩
   have l2 : K2.length = K.length + 2 := by rw [hK2]; simp
   have ltp := lt_of_cells cp
   have f5 : FS K2 H.length v5 fr := GR.frS g5 (Fr.adds A2 (fun _ => False)) fun _ _ h => h
   have o5 := GR.out g5
   obtain ⟨v', K3, ea, g3, f3, s3, l3⟩ := f5.push (s := K.length + 1) (z := p.2) (by rw [hK2]; unfold cellsOf; rw [List.getElem?_append_right (by omega)]; simp) (by omega) (by omega)
   have g4' : Gp K3 H.length v4 kept := (g4.fr (Fr.adds A2 (fun _ => False)) fun _ _ h => h).fr f3 fun x hx hy => (ap x hy).1 hx
   have cp3 : cellsOf K3 pb = some (prC p) := f3.cells (A2.cells cp) fun hy => (ap pb hy).2 rfl
   have aK3 : Adds H K3 := f3.old (aK.trans A2) fun x hx hy => by have := (o5 x hy).1; omega
   have ap3 : ∀ x, slb v' = some x → slb v4 ≠ some x ∧ x ≠ pb := fun x hx => by
    rw [s3] at hx; injection hx with hx
    exact ⟨fun hy => by have := (g4.out x hy).2; omega, by omega⟩
   have hK2 := hK2.symm
   rw [idxF, if_pos h]
   rw [lo]
   unfold l10x0
   simp -implicitDefEqProofs (maxSteps := 5000000) only [go_sem, Nat.reduceShiftRight, Nat.reduceAnd, Nat.reduceBNe, Int.reduceEq, Nat.reduceAdd, Nat.reduceSub, Nat.reduceMul, Nat.reduceLeDiff, reduceIte, reduceCtorEq, Nat.reduceBEq, Nat.reduceEqDiff, wrap64, runC_loop, runC_range, callF_fn, callV_fn, callV_yld, yield_eq, yieldBody, yieldRaw, roundMid, roundEnd, rangeEnd, Bool.not_not, put_cons, put_nil, trim_same, at_zero, at_add, set_zero, set_add, store_one, write_zero, write_add, write_head, write_succ, splice_one, splice_more, List.drop_nil, List.take_nil, cell_int, cell_bool, fillS, splice_one, idxA, Ex.isNormal, List.set_nil, List.length_set, List.all_cons, List.all_nil, Bool.and_self, and_self, true_and, and_true, List.getElem?_nil, Int.reduceLT, Int.reduceLE, Int.reduceToNat, Int.toNat_zero, Int.toNat_one, Int.reduceAdd, Int.reduceSub, Int.reduceMul, Int.reduceNeg, Int.reduceBEq, Int.reduceBNe, Int.reduceGE, Int.reduceGT, Nat.reduceLT, trim_keep, under_fn, under_ptr, under_sl, Nat.lt_irrefl, not_lt_add, trim_tail, keepOk, ABlk.vals, Int.cast_ofNat_Int, decide_true, decide_false, List.all_cons, List.all_nil, Nat.zero_mul, Nat.mul_one, Nat.one_mul, hd, ix, hc, h1, h2, ht, hle, hb, cp1, hK2, ea, seqR_exit', outs_normal]
   exact ⟨aK3, exF2 rfl ⟨g4', cp3, ap3, .inr ⟨g3, by omega⟩⟩⟩
  ·have hb : (q.1 == p.1) = false := by simp [h]
   rw [idxF, if_neg h]
   have key := ih (i + 1) (K ++ [.rw [.int .i64 q.1, .int .i64 q.2]]) v4 v5 kept fr
   rw [lo]
   unfold l10x0
   simp -implicitDefEqProofs (maxSteps := 5000000) only [go_sem, Nat.reduceShiftRight, Nat.reduceAnd, Nat.reduceBNe, Int.reduceEq, Nat.reduceAdd, Nat.reduceSub, Nat.reduceMul, Nat.reduceLeDiff, reduceIte, reduceCtorEq, Nat.reduceBEq, Nat.reduceEqDiff, wrap64, runC_loop, runC_range, callF_fn, callV_fn, callV_yld, yield_eq, yieldBody, yieldRaw, roundMid, roundEnd, rangeEnd, Bool.not_not, put_cons, put_nil, trim_same, at_zero, at_add, set_zero, set_add, store_one, write_zero, write_add, write_head, write_succ, splice_one, splice_more, List.drop_nil, List.take_nil, cell_int, cell_bool, fillS, splice_one, idxA, Ex.isNormal, List.set_nil, List.length_set, List.all_cons, List.all_nil, Bool.and_self, and_self, true_and, and_true, List.getElem?_nil, Int.reduceLT, Int.reduceLE, Int.reduceToNat, Int.toNat_zero, Int.toNat_one, Int.reduceAdd, Int.reduceSub, Int.reduceMul, Int.reduceNeg, Int.reduceBEq, Int.reduceBNe, Int.reduceGE, Int.reduceGT, Nat.reduceLT, trim_keep, under_fn, under_ptr, under_sl, Nat.lt_irrefl, not_lt_add, trim_tail, keepOk, ABlk.vals, Int.cast_ofNat_Int, decide_true, decide_false, List.all_cons, List.all_nil, Nat.zero_mul, Nat.mul_one, Nat.one_mul, hd, ix, hc, h1, h2, ht, hle, hb, cp1, e2]
   exact key _ _ _ _ _ _ _ _ _ _ _ _ _ _ _ (aK.trans ⟨_, rfl⟩) (cells_old cp) (g4.adds _) (GR.frS g5 (Fr.adds ⟨_, rfl⟩ (fun _ => False)) fun _ _ h => h) ap hfr (by omega)
set_option maxHeartbeats 8000000 in
theorem mergeL1 {vb : AV} {lb : List PrS} (gb : IsP H vb lb) (hlb : lb.length ≤ 1000) (x1 x2 x3 x6 x8 x10 x11 x42 x43 : AV) : ∀ (k i : Nat) (K : AHeap) (v4 v5 : AV) (kept : List PrS) (fr : List Int) (j7 j9 j15 j16 j17 j18 j19 j20 j21 j22 j23 j24 j25 j26 j27 j28 j29 j30 j31 j32 j33 j34 j35 j36 j37 j38 j39 j40 j41 : AV), Adds H K → Gp K H.length v4 kept → FS K H.length v5 fr → (∀ x, slb v5 = some x → slb v4 ≠ some x) → kept.length ≤ 1000 + i → fr.length ≤ i → i + k = lb.length →
  Outs (LY l10x1 [va, x1, x2, x3, v4, v5, x6, j7, x8, j9, x10, x11, vb, .int .i64 (lb.length : Int), .int .i64 (i : Int), j15, j16, j17, j18, j19, j20, j21, j22, j23, j24, j25, j26, j27, j28, j29, j30, j31, j32, j33, j34, j35, j36, j37, j38, j39, j40, j41, x42, x43] K) fun e t K' => e = .exit 0 ∧ Adds H K' ∧ ∃ fv : Nat → AV, t = [va, x1, x2, x3, (fv 4), (fv 5), x6, (fv 7), x8, (fv 9), x10, x11, vb, .int .i64 (lb.length : Int), (fv 14), (fv 15), (fv 16), (fv 17), (fv 18), (fv 19), (fv 20), (fv 21), (fv 22), (fv 23), (fv 24), (fv 25), (fv 26), (fv 27), (fv 28), (fv 29), (fv 30), (fv 31), (fv 32), (fv 33), (fv 34), (fv 35), (fv 36), (fv 37), (fv 38), (fv 39), (fv 40), (fv 41), x42, x43] ∧ Gp K' H.length (fv 4) (tmerge la (lb.drop i) kept fr).1 ∧ FS K' H.length (fv 5) (tmerge la (lb.drop i) kept fr).2 := by
 intro k
 obtain ⟨L0, hL0⟩ : ∃ L, L = LY l10x1 := ⟨_, rfl⟩
 have lo := loop_open hL0
 rw [← hL0]
 induction k with
 | zero =>
  intro i K v4 v5 kept fr j7 j9 j15 j16 j17 j18 j19 j20 j21 j22 j23 j24 j25 j26 j27 j28 j29 j30 j31 j32 j33 j34 j35 j36 j37 j38 j39 j40 j41 aK g4 g5 ap hk hfr hi
  obtain rfl : i = lb.length := by omega
  have hd : decide ((lb.length : Int) < (lb.length : Int)) = false := by simp
  rw [List.drop_length, lo]
  unfold l10x1
  simp -implicitDefEqProofs (maxSteps := 5000000) only [go_sem, Nat.reduceShiftRight, Nat.reduceAnd, Nat.reduceBNe, Int.reduceEq, Nat.reduceAdd, Nat.reduceSub, Nat.reduceMul, Nat.reduceLeDiff, reduceIte, reduceCtorEq, Nat.reduceBEq, Nat.reduceEqDiff, hd, seqR_exit', outs_normal]
  exact ⟨aK, exF2 rfl ⟨g4, g5⟩⟩
 | succ k ih =>
  intro i K v4 v5 kept fr j7 j9 j15 j16 j17 j18 j19 j20 j21 j22 j23 j24 j25 j26 j27 j28 j29 j30 j31 j32 j33 j34 j35 j36 j37 j38 j39 j40 j41 aK g4 g5 ap hk hfr hi
  have hlt : i < lb.length := by omega
  have hd : decide ((i : Int) < (lb.length : Int)) = true := decide_eq_true (by omega)
  have e2 : IntKind.i64.wrap ((i : Int) + 1) = ((i + 1 : Nat) : Int) := by rw [wrap64 (by omega) (by omega)]; omega
  have hx := List.getElem?_eq_getElem hlt
  have dr := List.drop_eq_getElem_cons hlt
  generalize lb[i] = p at *
  obtain ⟨bb, cs, sb, ix, hc0, h1, h2, ht, hle⟩ := gb.idx hx
  have hc := aK.cells hc0
  have wa := ga.len
  obtain ⟨K1, hK1⟩ : ∃ K1, K1 = K ++ [ABlk.rw [.int .i64 p.1, .int .i64 p.2]] := ⟨_, rfl⟩
  have A1 : Adds K K1 := ⟨_, hK1⟩
  have cp : cellsOf K1 K.length = some (prC p) := by rw [hK1]; unfold cellsOf; simp; rfl
  have g4' := g4.fr (Fr.adds A1 (fun _ => False)) fun _ _ h => h
  have g5' : FS K1 H.length v5 fr := GR.frS g5 (Fr.adds A1 (fun _ => False)) fun _ _ h => h
  have o5 := GR.out g5
  have l0 := mergeL0 ga hla (pb := K.length) (p := p) (k := la.length) (i := 0) (K := K1) (v4 := v4) (v5 := v5) (kept := kept) (fr := fr)
  rw [show ((0 : Nat) : Int) = 0 from rfl, List.drop_zero] at l0
  have hK1 := hK1.symm
  unfold prC at ht
  rw [dr, tmerge]
  have key := fun K4 v4 v5 kept fr j7 j9 j15 j16 j17 j18 j19 j20 j21 j22 j23 j24 j25 j26 j27 j28 j29 j30 j31 j32 j33 j34 j35 j36 j37 j38 j39 j40 j41 => ih (i + 1) K4 v4 v5 kept fr j7 j9 j15 j16 j17 j18 j19 j20 j21 j22 j23 j24 j25 j26 j27 j28 j29 j30 j31 j32 j33 j34 j35 j36 j37 j38 j39 j40 j41
  rw [lo]
  unfold l10x1
  simp -implicitDefEqProofs (maxSteps := 5000000) only [go_sem, Nat.reduceShiftRight, Nat.reduceAnd, Nat.reduceBNe, Int.reduceEq, Nat.reduceAdd, Nat.reduceSub, Nat.reduceMul, Nat.reduceLeDiff, reduceIte, reduceCtorEq, Nat.reduceBEq, Nat.reduceEqDiff, wrap64, runC_loop, runC_range, callF_fn, callV_fn, callV_yld, yield_eq, yieldBody, yieldRaw, roundMid, roundEnd, rangeEnd, Bool.not_not, put_cons, put_nil, trim_same, at_zero, at_add, set_zero, set_add, store_one, write_zero, write_add, write_head, write_succ, splice_one, splice_more, List.drop_nil, List.take_nil, cell_int, cell_bool, fillS, splice_one, idxA, Ex.isNormal, List.set_nil, List.length_set, List.all_cons, List.all_nil, Bool.and_self, and_self, true_and, and_true, List.getElem?_nil, Int.reduceLT, Int.reduceLE, Int.reduceToNat, Int.toNat_zero, Int.toNat_one, Int.reduceAdd, Int.reduceSub, Int.reduceMul, Int.reduceNeg, Int.reduceBEq, Int.reduceBNe, Int.reduceGE, Int.reduceGT, Nat.reduceLT, trim_keep, under_fn, under_ptr, under_sl, Nat.lt_irrefl, not_lt_add, trim_tail, keepOk, ABlk.vals, Int.cast_ofNat_Int, decide_true, decide_false, List.all_cons, List.all_nil, Nat.zero_mul, Nat.mul_one, Nat.one_mul, runC_loop, x_loop, hd, ix, hc, ht, hle, wa, hK1]
  unfold LY at l0
  generalize (envL prog).loop (runC (envX prog X2) (l10x0 (envX prog X2))) = LL at l0 ⊢
  refine outs_ctx (fun x => seqR (seqR (blockR 1 (seqR (blockR 2 x) _)) _) _) (l0 _ _ _ _ _ _ _ _ _ _ _ _ _ _ _ _ _ _ _ _ _ _ _ _ _ _ _ _ _ _ _ _ _ _ _ _ _ _ _ (aK.trans A1) cp g4' g5' (fun x hx => ⟨ap x hx, by have := (o5 x hx).2; omega⟩) (by omega) (by omega)) ?_
  rintro e t K2 ⟨a2, fv, rfl, g42, cp2, ap2, ⟨rfl, f5, g52, ho⟩ | ⟨rfl, g52, ho⟩⟩
  ·have hid : ¬ 0 ≤ idxS la p.1 := by show ¬ 0 ≤ idxF p.1 0 la; omega
   simp only [if_neg hid] at key ⊢
   obtain ⟨v', K3, ec, a3, g3⟩ := putC g42.isP (by omega) p.1 p.2
   have ec := x2_put ec
   have tl := tput_len kept p.1 p.2
   unfold prC at cp2
   rw [f5] at ap2
   simp -implicitDefEqProofs (maxSteps := 5000000) only [go_sem, Nat.reduceShiftRight, Nat.reduceAnd, Nat.reduceBNe, Int.reduceEq, Nat.reduceAdd, Nat.reduceSub, Nat.reduceMul, Nat.reduceLeDiff, reduceIte, reduceCtorEq, Nat.reduceBEq, Nat.reduceEqDiff, wrap64, runC_loop, runC_range, callF_fn, callV_fn, callV_yld, yield_eq, yieldBody, yieldRaw, roundMid, roundEnd, rangeEnd, Bool.not_not, put_cons, put_nil, trim_same, at_zero, at_add, set_zero, set_add, store_one, write_zero, write_add, write_head, write_succ, splice_one, splice_more, List.drop_nil, List.take_nil, cell_int, cell_bool, fillS, splice_one, idxA, Ex.isNormal, List.set_nil, List.length_set, List.all_cons, List.all_nil, Bool.and_self, and_self, true_and, and_true, List.getElem?_nil, Int.reduceLT, Int.reduceLE, Int.reduceToNat, Int.toNat_zero, Int.toNat_one, Int.reduceAdd, Int.reduceSub, Int.reduceMul, Int.reduceNeg, Int.reduceBEq, Int.reduceBNe, Int.reduceGE, Int.reduceGT, Nat.reduceLT, trim_keep, under_fn, under_ptr, under_sl, Nat.lt_irrefl, not_lt_add, trim_tail, keepOk, ABlk.vals, Int.cast_ofNat_Int, decide_true, decide_false, List.all_cons, List.all_nil, Nat.zero_mul, Nat.mul_one, Nat.one_mul, f5, cp2, ec, e2]
   exact key K3 v' v5 (tput kept p.1 p.2) fr _ _ _ _ _ _ _ _ _ _ _ _ _ _ _ _ _ _ _ _ _ _ _ _ _ _ _ _ _ (a2.trans a3) (g3.low a2.len) (GR.frS g52 (Fr.adds a3 (fun _ => False)) fun _ _ h => h) (fun x hx hy => by have q1 := (GR.out g52 x hx).2; have q2 := (g3.out x hy).1; omega) (by omega) (by omega) (by omega)
  ·have hid : 0 ≤ idxS la p.1 := ho
   simp only [if_pos hid] at key ⊢
   simp -implicitDefEqProofs (maxSteps := 5000000) only [go_sem, Nat.reduceShiftRight, Nat.reduceAnd, Nat.reduceBNe, Int.reduceEq, Nat.reduceAdd, Nat.reduceSub, Nat.reduceMul, Nat.reduceLeDiff, reduceIte, reduceCtorEq, Nat.reduceBEq, Nat.reduceEqDiff, wrap64, runC_loop, runC_range, callF_fn, callV_fn, callV_yld, yield_eq, yieldBody, yieldRaw, roundMid, roundEnd, rangeEnd, Bool.not_not, put_cons, put_nil, trim_same, at_zero, at_add, set_zero, set_add, store_one, write_zero, write_add, write_head, write_succ, splice_one, splice_more, List.drop_nil, List.take_nil, cell_int, cell_bool, fillS, splice_one, idxA, Ex.isNormal, List.set_nil, List.length_set, List.all_cons, List.all_nil, Bool.and_self, and_self, true_and, and_true, List.getElem?_nil, Int.reduceLT, Int.reduceLE, Int.reduceToNat, Int.toNat_zero, Int.toNat_one, Int.reduceAdd, Int.reduceSub, Int.reduceMul, Int.reduceNeg, Int.reduceBEq, Int.reduceBNe, Int.reduceGE, Int.reduceGT, Nat.reduceLT, trim_keep, under_fn, under_ptr, under_sl, Nat.lt_irrefl, not_lt_add, trim_tail, keepOk, ABlk.vals, Int.cast_ofNat_Int, decide_true, decide_false, List.all_cons, List.all_nil, Nat.zero_mul, Nat.mul_one, Nat.one_mul, e2, seqR_exit']
   exact key K2 v4 (fv 5) kept (fr ++ [p.2]) _ _ _ _ _ _ _ _ _ _ _ _ _ _ _ _ _ _ _ _ _ _ _ _ _ _ _ _ _ a2 g42 g52 (fun x hx => (ap2 x hx).1) (by omega) (by rw [List.length_append, List.length_singleton]; omega) (by omega)
theorem mergeC {vb : AV} {lb : List PrS} (gb : IsP H vb lb) (hlb : lb.length ≤ 1000) : ∃ v4 v5 K, callBody prog (envX prog X2) 10 [va, vb] H = some (.tup [v4, v5], K) ∧ Adds H K ∧ Gp K H.length v4 (tmerge la lb la []).1 ∧ FS K H.length v5 (tmerge la lb la []).2 := by
 obtain ⟨v1, K1, ec, a1, g1⟩ := cloneC ga (by omega)
 have gb1 := gb.adds a1
 have wb := gb1.len
 have l1 := mergeL1 (ga := ga) hla gb hlb (k := lb.length) (i := 0) (K := K1) (v4 := v1) (v5 := .nilSl) (kept := la) (fr := [])
 rw [show ((0 : Nat) : Int) = 0 from rfl, List.drop_zero] at l1
 have key : Outs (runC (envX prog X2) (b10 (envX prog X2)) ([va, vb] ++ List.replicate (44 - [va, vb].length) .undef) H) fun e' t K => ∃ v4 v5, Adds H K ∧ Gp K H.length v4 (tmerge la lb la []).1 ∧ FS K H.length v5 (tmerge la lb la []).2 ∧ fin [.tmp 4, .tmp 5] (some (e', t, K)) = some (.tup [v4, v5], K) := by
  unfold b10
  generalize hQ : (fun (e' : Ex) (t : T) (K : AHeap) => ∃ v4 v5, Adds H K ∧ Gp K H.length v4 (tmerge la lb la []).1 ∧ FS K H.length v5 (tmerge la lb la []).2 ∧ fin [.tmp 4, .tmp 5] (some (e', t, K)) = some (.tup [v4, v5], K)) = Q
  simp -implicitDefEqProofs (maxSteps := 5000000) only [go_sem, Nat.reduceShiftRight, Nat.reduceAnd, Nat.reduceBNe, Int.reduceEq, Nat.reduceAdd, Nat.reduceSub, Nat.reduceMul, Nat.reduceLeDiff, reduceIte, reduceCtorEq, Nat.reduceBEq, Nat.reduceEqDiff, wrap64, runC_loop, runC_range, callF_fn, callV_fn, callV_yld, yield_eq, yieldBody, yieldRaw, roundMid, roundEnd, rangeEnd, Bool.not_not, put_cons, put_nil, trim_same, at_zero, at_add, set_zero, set_add, store_one, write_zero, write_add, write_head, write_succ, splice_one, splice_more, List.drop_nil, List.take_nil, cell_int, cell_bool, fillS, splice_one, idxA, Ex.isNormal, List.set_nil, List.length_set, List.all_cons, List.all_nil, Bool.and_self, and_self, true_and, and_true, List.getElem?_nil, Int.reduceLT, Int.reduceLE, Int.reduceToNat, Int.toNat_zero, Int.toNat_one, Int.reduceAdd, Int.reduceSub, Int.reduceMul, Int.reduceNeg, Int.reduceBEq, Int.reduceBNe, Int.reduceGE, Int.reduceGT, Nat.reduceLT, trim_keep, under_fn, under_ptr, under_sl, Nat.lt_irrefl, not_lt_add, trim_tail, keepOk, ABlk.vals, Int.cast_ofNat_Int, decide_true, decide_false, List.all_cons, List.all_nil, Nat.zero_mul, Nat.mul_one, Nat.one_mul, runC_loop, x_loop, x2_call, ec, wb]
  unfold LY at l1
  generalize (envL prog).loop (runC (envX prog X2) (l10x1 (envX prog X2))) = LL at l1 ⊢
  refine outs_ctx (fun r => seqR (blockR 0 r) _) (l1 _ _ _ _ _ _ _ _ _ _ _ _ _ _ _ _ _ _ _ _ _ _ _ _ _ _ _ _ _ _ _ _ _ _ _ _ _ _ a1 g1 (.inl ⟨rfl, rfl⟩) (fun x hx => by cases hx) (by omega) (by simp) (by omega)) ?_
  rintro e t K ⟨rfl, aK, fv, rfl, g4, g5⟩
  simp -implicitDefEqProofs (maxSteps := 5000000) only [go_sem, Nat.reduceShiftRight, Nat.reduceAnd, Nat.reduceBNe, Int.reduceEq, Nat.reduceAdd, Nat.reduceSub, Nat.reduceMul, Nat.reduceLeDiff, reduceIte, reduceCtorEq, Nat.reduceBEq, Nat.reduceEqDiff, wrap64, runC_loop, runC_range, callF_fn, callV_fn, callV_yld, yield_eq, yieldBody, yieldRaw, roundMid, roundEnd, rangeEnd, Bool.not_not, put_cons, put_nil, trim_same, at_zero, at_add, set_zero, set_add, store_one, write_zero, write_add, write_head, write_succ, splice_one, splice_more, List.drop_nil, List.take_nil, cell_int, cell_bool, fillS, splice_one, idxA, Ex.isNormal, List.set_nil, List.length_set, List.all_cons, List.all_nil, Bool.and_self, and_self, true_and, and_true, List.getElem?_nil, Int.reduceLT, Int.reduceLE, Int.reduceToNat, Int.toNat_zero, Int.toNat_one, Int.reduceAdd, Int.reduceSub, Int.reduceMul, Int.reduceNeg, Int.reduceBEq, Int.reduceBNe, Int.reduceGE, Int.reduceGT, Nat.reduceLT, trim_keep, under_fn, under_ptr, under_sl, Nat.lt_irrefl, not_lt_add, trim_tail, keepOk, ABlk.vals, Int.cast_ofNat_Int, decide_true, decide_false, List.all_cons, List.all_nil, Nat.zero_mul, Nat.mul_one, Nat.one_mul, outs_normal]
  subst hQ
  refine ⟨fv 4, fv 5, aK, g4, g5, ?_⟩
  simp -implicitDefEqProofs (maxSteps := 5000000) only [go_sem, Nat.reduceShiftRight, Nat.reduceAnd, Nat.reduceBNe, Int.reduceEq, Nat.reduceAdd, Nat.reduceSub, Nat.reduceMul, Nat.reduceLeDiff, reduceIte, reduceCtorEq, Nat.reduceBEq, Nat.reduceEqDiff]
 obtain ⟨e', t, K, hr, v4, v5, aK, g4, g5, hf⟩ := key
 have e0 : callBody prog (envX prog X2) 10 [va, vb] H = trim H (some (.tup [v4, v5], K)) := by rw [d10, hr, hf]
 rw [e0]
 rcases trim_if H (.tup [v4, v5]) K with ⟨t, e⟩ | e
 ·obtain ⟨_, t2, _⟩ := t
  have ua : v4.under H.length = true ∧ v5.under H.length = true := by simpa [AV.under, underAll] using t2
  obtain ⟨X, rfl⟩ := id aK
  rw [List.take_left] at e
  have n4 : v4 = .nilSl ∧ (tmerge la lb la []).1 = [] := by
   rcases g4 with h | ⟨_, x, hx, rfl, _⟩ | ⟨_, x, hx, rfl, _⟩
   ·exact h
   ·have := ua.1; simp [AV.under] at this; omega
   ·have := ua.1; simp [AV.under] at this; omega
  have n5 : v5 = .nilSl ∧ ((tmerge la lb la []).2.map fun z => [AV.int .i64 z]) = [] := by
   rcases GR.under g5 with ⟨q1, q2⟩ | q
   ·exact ⟨q2, q1⟩
   ·rw [q] at ua; cases ua.2
  refine ⟨v4, v5, H, e, Adds.refl H, .inl n4, .inl ⟨n5.2, n5.1⟩⟩
 ·exact ⟨v4, v5, K, e, aK, g4, g5⟩
end
end Go.Proofs.Ytekceggcbpeoeaa.G10
end
section
namespace Go.Proofs.Ytekceggcbpeoeaa.G10
open Go Go.Proofs.Ytekceggcbpeoeaa.Eng
def lead (b : Int) : List PrS → Nat
 | [] => 0
 | q :: l => if q.1 ≤ b then lead b l + 1 else 0
section
variable {H : AHeap} {v : AV} {l : List PrS} (g : IsP H v l) (hl : l.length ≤ 1000000) (b : Int)
include g hl
end
end Go.Proofs.Ytekceggcbpeoeaa.G10
end
section
namespace Go.Proofs.Ytekceggcbpeoeaa.G10
open Go Go.Proofs.Ytekceggcbpeoeaa.Eng
structure MgY (H K : AHeap) (p4 p5 : Nat) (v4 v5 : AV) (kept : List PrS) (fr : List Int) : Prop where
 old : Adds H K
 b4 : H.length ≤ p4
 b5 : H.length ≤ p5
 ne : p4 ≠ p5
 c4 : K[p4]? = some (.rw [.nilSl, .nilSl])
 c5 : K[p5]? = some (.rw [v4, v5])
 g4 : Gp K H.length v4 kept
 g5 : FS K H.length v5 fr
 ap : ∀ x, slb v5 = some x → slb v4 ≠ some x ∧ x ≠ p4 ∧ x ≠ p5
 aq : ∀ x, slb v4 = some x → x ≠ p4 ∧ x ≠ p5
theorem FS.cell {K : AHeap} {B : Nat} {v : AV} {zs : List Int} (g : FS K B v zs) : cellsA v = some [v] ∧ v.isCell = true := GR.cells g
section
variable {H : AHeap} {va : AV} {la : List PrS} (ga : IsP H va la) (hla : la.length ≤ 1000)
include ga hla
end
end Go.Proofs.Ytekceggcbpeoeaa.G10
end
section
namespace Go.Proofs.Ytekceggcbpeoeaa.G10
open Go Go.Proofs.Ytekceggcbpeoeaa.Eng
theorem FS.read {H : AHeap} {B : Nat} {v : AV} {zs : List Int} (g : FS H B v zs) {i : Nat} {z : Int} (hi : zs[i]? = some z) : ∃ b cs, slb v = some b ∧ idxAddrS 1 v (.int .i64 (i : Int)) = some (.ptr b i) ∧ cellsOf H b = some cs ∧ cs[i]? = some (.int .i64 z) ∧ i + 1 ≤ cs.length := by
 obtain ⟨b, cs, sb, ix, hc, hr, hle⟩ := GR.read (by omega) g (fun r hr => by obtain ⟨y, _, rfl⟩ := List.mem_map.1 hr; rfl) (get_map (fun z => [AV.int .i64 z]) hi)
 rw [Nat.mul_one] at ix hr hle
 refine ⟨b, cs, sb, ix, hc, ?_, hle⟩
 have := congrArg (fun q : List AV => q[0]?) hr
 rw [List.getElem?_take, if_pos (by omega), List.getElem?_drop, Nat.add_zero] at this
 exact this
theorem FS.len {H : AHeap} {B : Nat} {v : AV} {zs : List Int} (g : FS H B v zs) : lenSl v = some (.int .i64 zs.length) := by
 have := GR.len g
 rwa [List.length_map] at this
def idxI (x : Int) : Nat → List Int → Int
 | _, [] => -1
 | n, z :: l => if x = z then (n : Int) else idxI x (n + 1) l
theorem idxI_has (x : Int) : ∀ (l : List Int) (n : Nat), decide (idxI x n l ≥ 0) = l.contains x
 | [], n => rfl
 | z :: l, n => by
  unfold idxI
  rw [List.contains_cons]
  by_cases h : x = z
  ·rw [if_pos h, decide_eq_true (by omega)]; simp [h]
  ·rw [if_neg h, idxI_has x l (n + 1)]; simp [h]
section
variable {H : AHeap} {B : Nat} {v : AV} {zs : List Int} (g : FS H B v zs) (hl : zs.length ≤ 1000000) (x : Int)
include g hl
set_option maxHeartbeats 4000000 in
theorem indexL (x2 x3 x6 : AV) : ∀ (k i : Nat) (j5 j9 j10 j11 j12 j13 j14 j15 j16 j17 j18 : AV), i + k = zs.length →
  Outs (LP1 l24x0 [v, .int .i64 x, x2, x3, .int .i64 0, j5, x6, .int .i64 (zs.length : Int), .int .i64 (i : Int), j9, j10, j11, j12, j13, j14, j15, j16, j17, j18] H) fun e t K => K = H ∧ ∃ fv : Nat → AV, t = [v, .int .i64 x, x2, x3, (fv 4), (fv 5), x6, .int .i64 (zs.length : Int), (fv 8), (fv 9), (fv 10), (fv 11), (fv 12), (fv 13), (fv 14), (fv 15), (fv 16), (fv 17), (fv 18)] ∧ ((e = .exit 0 ∧ idxI x i (zs.drop i) = -1) ∨ (e = .ret ∧ fv 4 = .int .i64 (idxI x i (zs.drop i)))) := by
 intro k
 obtain ⟨L0, hL0⟩ : ∃ L, L = LP1 l24x0 := ⟨_, rfl⟩
 have lo := loop_open hL0
 rw [← hL0]
 induction k with
 | zero =>
  intro i j5 j9 j10 j11 j12 j13 j14 j15 j16 j17 j18 hi
  obtain rfl : i = zs.length := by omega
  have hd : decide ((zs.length : Int) < (zs.length : Int)) = false := by simp
  rw [List.drop_length, lo]
  unfold l24x0
  simp -implicitDefEqProofs (maxSteps := 5000000) only [go_sem, Nat.reduceShiftRight, Nat.reduceAnd, Nat.reduceBNe, Int.reduceEq, Nat.reduceAdd, Nat.reduceSub, Nat.reduceMul, Nat.reduceLeDiff, reduceIte, reduceCtorEq, Nat.reduceBEq, Nat.reduceEqDiff, hd, seqR_exit', outs_normal]
  exact exF2 rfl (.inl rfl)
 | succ k ih =>
  intro i j5 j9 j10 j11 j12 j13 j14 j15 j16 j17 j18 hi
  have hlt : i < zs.length := by omega
  have hd : decide ((i : Int) < (zs.length : Int)) = true := decide_eq_true (by omega)
  have e2 : IntKind.i64.wrap ((i : Int) + 1) = ((i + 1 : Nat) : Int) := by rw [wrap64 (by omega) (by omega)]; omega
  have hx := List.getElem?_eq_getElem hlt
  rw [List.drop_eq_getElem_cons hlt]
  generalize zs[i] = z at *
  obtain ⟨bb, cs, _, ix, hc, h1, hle⟩ := g.read hx
  rw [lo]
  unfold l24x0
  by_cases h : x = z
  ·have hb : (x == z) = true := by simp [h]
   rw [idxI, if_pos h]
   simp -implicitDefEqProofs (maxSteps := 5000000) only [go_sem, Nat.reduceShiftRight, Nat.reduceAnd, Nat.reduceBNe, Int.reduceEq, Nat.reduceAdd, Nat.reduceSub, Nat.reduceMul, Nat.reduceLeDiff, reduceIte, reduceCtorEq, Nat.reduceBEq, Nat.reduceEqDiff, wrap64, runC_loop, runC_range, callF_fn, callV_fn, callV_yld, yield_eq, yieldBody, yieldRaw, roundMid, roundEnd, rangeEnd, Bool.not_not, put_cons, put_nil, trim_same, at_zero, at_add, set_zero, set_add, store_one, write_zero, write_add, write_head, write_succ, splice_one, splice_more, List.drop_nil, List.take_nil, cell_int, cell_bool, fillS, splice_one, idxA, Ex.isNormal, List.set_nil, List.length_set, List.all_cons, List.all_nil, Bool.and_self, and_self, true_and, and_true, List.getElem?_nil, Int.reduceLT, Int.reduceLE, Int.reduceToNat, Int.toNat_zero, Int.toNat_one, Int.reduceAdd, Int.reduceSub, Int.reduceMul, Int.reduceNeg, Int.reduceBEq, Int.reduceBNe, Int.reduceGE, Int.reduceGT, Nat.reduceLT, trim_keep, under_fn, under_ptr, under_sl, Nat.lt_irrefl, not_lt_add, trim_tail, keepOk, ABlk.vals, Int.cast_ofNat_Int, decide_true, decide_false, List.all_cons, List.all_nil, Nat.zero_mul, Nat.mul_one, Nat.one_mul, hd, ix, hc, h1, hb, seqR_ret, outs_normal]
   exact exF2 rfl (.inr rfl)
  ·have hb : (x == z) = false := by simp [h]
   rw [idxI, if_neg h]
   simp -implicitDefEqProofs (maxSteps := 5000000) only [go_sem, Nat.reduceShiftRight, Nat.reduceAnd, Nat.reduceBNe, Int.reduceEq, Nat.reduceAdd, Nat.reduceSub, Nat.reduceMul, Nat.reduceLeDiff, reduceIte, reduceCtorEq, Nat.reduceBEq, Nat.reduceEqDiff, wrap64, runC_loop, runC_range, callF_fn, callV_fn, callV_yld, yield_eq, yieldBody, yieldRaw, roundMid, roundEnd, rangeEnd, Bool.not_not, put_cons, put_nil, trim_same, at_zero, at_add, set_zero, set_add, store_one, write_zero, write_add, write_head, write_succ, splice_one, splice_more, List.drop_nil, List.take_nil, cell_int, cell_bool, fillS, splice_one, idxA, Ex.isNormal, List.set_nil, List.length_set, List.all_cons, List.all_nil, Bool.and_self, and_self, true_and, and_true, List.getElem?_nil, Int.reduceLT, Int.reduceLE, Int.reduceToNat, Int.toNat_zero, Int.toNat_one, Int.reduceAdd, Int.reduceSub, Int.reduceMul, Int.reduceNeg, Int.reduceBEq, Int.reduceBNe, Int.reduceGE, Int.reduceGT, Nat.reduceLT, trim_keep, under_fn, under_ptr, under_sl, Nat.lt_irrefl, not_lt_add, trim_tail, keepOk, ABlk.vals, Int.cast_ofNat_Int, decide_true, decide_false, List.all_cons, List.all_nil, Nat.zero_mul, Nat.mul_one, Nat.one_mul, hd, ix, hc, h1, hb, e2]
   exact ih (i + 1) _ _ _ _ _ _ _ _ _ _ _ (by omega)
theorem sindexC : (envL prog).call 24 [v, .int .i64 x] H = some (.int .i64 (idxI x 0 zs), H) := by
 have l0 := indexL g hl x (k := zs.length) (i := 0)
 rw [show ((0 : Nat) : Int) = 0 from rfl, List.drop_zero] at l0
 have wl := g.len
 have key : Outs (runC (envL prog) (b24 (envL prog)) ([v, .int .i64 x] ++ List.replicate (19 - [v, AV.int .i64 x].length) .undef) H) fun e' t K => K = H ∧ fin [.tmp 4] (some (e', t, K)) = some (.int .i64 (idxI x 0 zs), K) := by
  unfold b24
  generalize hQ : (fun (e' : Ex) (t : T) (K : AHeap) => K = H ∧ fin [.tmp 4] (some (e', t, K)) = some (AV.int .i64 (idxI x 0 zs), K)) = Q
  simp -implicitDefEqProofs (maxSteps := 5000000) only [go_sem, Nat.reduceShiftRight, Nat.reduceAnd, Nat.reduceBNe, Int.reduceEq, Nat.reduceAdd, Nat.reduceSub, Nat.reduceMul, Nat.reduceLeDiff, reduceIte, reduceCtorEq, Nat.reduceBEq, Nat.reduceEqDiff, wrap64, runC_loop, runC_range, callF_fn, callV_fn, callV_yld, yield_eq, yieldBody, yieldRaw, roundMid, roundEnd, rangeEnd, Bool.not_not, put_cons, put_nil, trim_same, at_zero, at_add, set_zero, set_add, store_one, write_zero, write_add, write_head, write_succ, splice_one, splice_more, List.drop_nil, List.take_nil, cell_int, cell_bool, fillS, splice_one, idxA, Ex.isNormal, List.set_nil, List.length_set, List.all_cons, List.all_nil, Bool.and_self, and_self, true_and, and_true, List.getElem?_nil, Int.reduceLT, Int.reduceLE, Int.reduceToNat, Int.toNat_zero, Int.toNat_one, Int.reduceAdd, Int.reduceSub, Int.reduceMul, Int.reduceNeg, Int.reduceBEq, Int.reduceBNe, Int.reduceGE, Int.reduceGT, Nat.reduceLT, trim_keep, under_fn, under_ptr, under_sl, Nat.lt_irrefl, not_lt_add, trim_tail, keepOk, ABlk.vals, Int.cast_ofNat_Int, decide_true, decide_false, List.all_cons, List.all_nil, Nat.zero_mul, Nat.mul_one, Nat.one_mul, runC_loop, wl]
  unfold LP1 at l0
  generalize (envL prog).loop (runC (envL prog) (l24x0 (envL prog))) = L0 at l0 ⊢
  refine outs_ctx (fun r => seqR (blockR 0 r) _) (l0 _ _ _ _ _ _ _ _ _ _ _ _ _ _ (by omega)) ?_
  rintro e t K ⟨rfl, fv, rfl, ⟨rfl, ho⟩ | ⟨rfl, f4⟩⟩
  ·simp -implicitDefEqProofs (maxSteps := 5000000) only [go_sem, Nat.reduceShiftRight, Nat.reduceAnd, Nat.reduceBNe, Int.reduceEq, Nat.reduceAdd, Nat.reduceSub, Nat.reduceMul, Nat.reduceLeDiff, reduceIte, reduceCtorEq, Nat.reduceBEq, Nat.reduceEqDiff, outs_normal]
   subst hQ
   rw [ho]
   refine ⟨rfl, ?_⟩
   simp -implicitDefEqProofs (maxSteps := 5000000) only [go_sem, Nat.reduceShiftRight, Nat.reduceAnd, Nat.reduceBNe, Int.reduceEq, Nat.reduceAdd, Nat.reduceSub, Nat.reduceMul, Nat.reduceLeDiff, reduceIte, reduceCtorEq, Nat.reduceBEq, Nat.reduceEqDiff]
  ·simp -implicitDefEqProofs (maxSteps := 5000000) only [go_sem, Nat.reduceShiftRight, Nat.reduceAnd, Nat.reduceBNe, Int.reduceEq, Nat.reduceAdd, Nat.reduceSub, Nat.reduceMul, Nat.reduceLeDiff, reduceIte, reduceCtorEq, Nat.reduceBEq, Nat.reduceEqDiff, outs_normal]
   subst hQ
   refine ⟨rfl, ?_⟩
   simp -implicitDefEqProofs (maxSteps := 5000000) only [go_sem, Nat.reduceShiftRight, Nat.reduceAnd, Nat.reduceBNe, Int.reduceEq, Nat.reduceAdd, Nat.reduceSub, Nat.reduceMul, Nat.reduceLeDiff, reduceIte, reduceCtorEq, Nat.reduceBEq, Nat.reduceEqDiff, f4]
 obtain ⟨e', t, K, hr, rfl, hf⟩ := key
 rw [c24, hr, hf]; exact trim_same rfl
theorem containsC : (envL prog).call 20 [v, .int .i64 x] H = some (.bool (zs.contains x), H) := by
 have ei := sindexC g hl x
 have ed := idxI_has x zs 0
 rw [c20]
 unfold b20
 simp -implicitDefEqProofs (maxSteps := 5000000) only [go_sem, Nat.reduceShiftRight, Nat.reduceAnd, Nat.reduceBNe, Int.reduceEq, Nat.reduceAdd, Nat.reduceSub, Nat.reduceMul, Nat.reduceLeDiff, reduceIte, reduceCtorEq, Nat.reduceBEq, Nat.reduceEqDiff, wrap64, runC_loop, runC_range, callF_fn, callV_fn, callV_yld, yield_eq, yieldBody, yieldRaw, roundMid, roundEnd, rangeEnd, Bool.not_not, put_cons, put_nil, trim_same, at_zero, at_add, set_zero, set_add, store_one, write_zero, write_add, write_head, write_succ, splice_one, splice_more, List.drop_nil, List.take_nil, cell_int, cell_bool, fillS, splice_one, idxA, Ex.isNormal, List.set_nil, List.length_set, List.all_cons, List.all_nil, Bool.and_self, and_self, true_and, and_true, List.getElem?_nil, Int.reduceLT, Int.reduceLE, Int.reduceToNat, Int.toNat_zero, Int.toNat_one, Int.reduceAdd, Int.reduceSub, Int.reduceMul, Int.reduceNeg, Int.reduceBEq, Int.reduceBNe, Int.reduceGE, Int.reduceGT, Nat.reduceLT, trim_keep, under_fn, under_ptr, under_sl, Nat.lt_irrefl, not_lt_add, trim_tail, keepOk, ABlk.vals, Int.cast_ofNat_Int, decide_true, decide_false, List.all_cons, List.all_nil, Nat.zero_mul, Nat.mul_one, Nat.one_mul, ei, ed]
end
theorem last_take {l : List PrS} {i : Nat} (hi : i < l.length) : (l.take (i + 1)).getLast? = l[i]? := by
 rw [List.take_add_one, List.getElem?_eq_getElem hi]; exact List.getLast?_concat
section
variable {H : AHeap} {v : AV} {l : List PrS} (g : IsP H v l) (hl : l.length ≤ 1000000) (bl ar : Int)
include g hl
set_option maxHeartbeats 16000000 in
theorem goodL (x3 x4 x5 : AV) : ∀ (k i : Nat) (K : AHeap) (v7 : AV) (j8 j9 j13 j14 j15 j16 j17 j18 j19 j20 j21 j22 j23 j24 j25 j26 j27 j28 j29 j30 j31 j32 j33 j34 j35 j36 j37 j38 j39 j40 j41 j42 j43 j44 j45 j46 j47 j48 j49 j50 j51 j52 j53 j54 j55 j56 j57 j58 j59 j60 j61 j62 j63 : AV), Adds H K → FS K H.length v7 ((l.take i).map (·.2)) → i + k = l.length →
  Outs (LP1 l12x0 [v, .int .i64 bl, .int .i64 ar, x3, x4, x5, .bool false, v7, j8, j9, v, .int .i64 (l.length : Int), .int .i64 (i : Int), j13, j14, j15, j16, j17, j18, j19, j20, j21, j22, j23, j24, j25, j26, j27, j28, j29, j30, j31, j32, j33, j34, j35, j36, j37, j38, j39, j40, j41, j42, j43, j44, j45, j46, j47, j48, j49, j50, j51, j52, j53, j54, j55, j56, j57, j58, j59, j60, j61, j62, j63] K) fun e t K' => Adds H K' ∧ ∃ fv : Nat → AV, t = [v, .int .i64 bl, .int .i64 ar, x3, x4, x5, (fv 6), (fv 7), (fv 8), (fv 9), v, .int .i64 (l.length : Int), (fv 12), (fv 13), (fv 14), (fv 15), (fv 16), (fv 17), (fv 18), (fv 19), (fv 20), (fv 21), (fv 22), (fv 23), (fv 24), (fv 25), (fv 26), (fv 27), (fv 28), (fv 29), (fv 30), (fv 31), (fv 32), (fv 33), (fv 34), (fv 35), (fv 36), (fv 37), (fv 38), (fv 39), (fv 40), (fv 41), (fv 42), (fv 43), (fv 44), (fv 45), (fv 46), (fv 47), (fv 48), (fv 49), (fv 50), (fv 51), (fv 52), (fv 53), (fv 54), (fv 55), (fv 56), (fv 57), (fv 58), (fv 59), (fv 60), (fv 61), (fv 62), (fv 63)] ∧ ((e = .exit 0 ∧ tgoodF bl ar (l.take i) (l.drop i) = true) ∨ (e = .ret ∧ fv 6 = .bool false ∧ tgoodF bl ar (l.take i) (l.drop i) = false)) := by
 intro k
 obtain ⟨L0, hL0⟩ : ∃ L, L = LP1 l12x0 := ⟨_, rfl⟩
 have lo := loop_open hL0
 rw [← hL0]
 induction k with
 | zero =>
  intro i K v7 j8 j9 j13 j14 j15 j16 j17 j18 j19 j20 j21 j22 j23 j24 j25 j26 j27 j28 j29 j30 j31 j32 j33 j34 j35 j36 j37 j38 j39 j40 j41 j42 j43 j44 j45 j46 j47 j48 j49 j50 j51 j52 j53 j54 j55 j56 j57 j58 j59 j60 j61 j62 j63 aK g7 hi
  obtain rfl : i = l.length := by omega
  have hd : decide ((l.length : Int) < (l.length : Int)) = false := by simp
  rw [List.drop_length, lo]
  unfold l12x0
  simp -implicitDefEqProofs (maxSteps := 5000000) only [go_sem, Nat.reduceShiftRight, Nat.reduceAnd, Nat.reduceBNe, Int.reduceEq, Nat.reduceAdd, Nat.reduceSub, Nat.reduceMul, Nat.reduceLeDiff, reduceIte, reduceCtorEq, Nat.reduceBEq, Nat.reduceEqDiff, hd, seqR_exit', outs_normal]
  exact ⟨aK, exF2 rfl (.inl rfl)⟩
 | succ k ih =>
  intro i K v7 j8 j9 j13 j14 j15 j16 j17 j18 j19 j20 j21 j22 j23 j24 j25 j26 j27 j28 j29 j30 j31 j32 j33 j34 j35 j36 j37 j38 j39 j40 j41 j42 j43 j44 j45 j46 j47 j48 j49 j50 j51 j52 j53 j54 j55 j56 j57 j58 j59 j60 j61 j62 j63 aK g7 hi
  have hlt : i < l.length := by omega
  have hd : decide ((i : Int) < (l.length : Int)) = true := decide_eq_true (by omega)
  have e2 : IntKind.i64.wrap ((i : Int) + 1) = ((i + 1 : Nat) : Int) := by rw [wrap64 (by omega) (by omega)]; omega
  have hx := List.getElem?_eq_getElem hlt
  have tk : (l.take (i + 1)).map (·.2) = (l.take i).map (·.2) ++ [l[i].2] := by rw [List.take_add_one, hx, List.map_append]; rfl
  have tk0 : l.take (i + 1) = l.take i ++ [l[i]] := by rw [List.take_add_one, hx]; rfl
  rw [List.drop_eq_getElem_cons hlt, tgoodF]
  generalize l[i] = p at *
  obtain ⟨bb, cs, sb, ix, hc0, h1, h2, ht, hle⟩ := g.idx hx
  have hc := aK.cells hc0
  obtain ⟨K1, hK1⟩ : ∃ K1, K1 = K ++ [ABlk.rw [.int .i64 p.1, .int .i64 p.2]] := ⟨_, rfl⟩
  have A1 : Adds K K1 := ⟨_, hK1⟩
  have cq : cellsOf K1 K.length = some [.int .i64 p.1, .int .i64 p.2] := by rw [hK1]; unfold cellsOf; simp
  have g71 : FS K1 H.length v7 ((l.take i).map (·.2)) := GR.frS g7 (Fr.adds A1 (fun _ => False)) fun _ _ h => h
  have hcb := A1.cells hc
  have ec := containsC g71 (by rw [List.length_map, List.length_take]; omega) p.2
  have aK1 := aK.trans A1
  have hK1s := hK1.symm
  unfold prC at ht
  by_cases c1 : p.1 < 0
  ·have ok : okAt bl ar (l.take i) p = false := by unfold okAt; rw [decide_eq_false (show ¬ 0 ≤ p.1 by omega)]; rfl
   have d1 := decide_eq_true c1
   rw [ok, Bool.false_and, lo]
   unfold l12x0
   simp -implicitDefEqProofs (maxSteps := 5000000) only [go_sem, Nat.reduceShiftRight, Nat.reduceAnd, Nat.reduceBNe, Int.reduceEq, Nat.reduceAdd, Nat.reduceSub, Nat.reduceMul, Nat.reduceLeDiff, reduceIte, reduceCtorEq, Nat.reduceBEq, Nat.reduceEqDiff, wrap64, runC_loop, runC_range, callF_fn, callV_fn, callV_yld, yield_eq, yieldBody, yieldRaw, roundMid, roundEnd, rangeEnd, Bool.not_not, put_cons, put_nil, trim_same, at_zero, at_add, set_zero, set_add, store_one, write_zero, write_add, write_head, write_succ, splice_one, splice_more, List.drop_nil, List.take_nil, cell_int, cell_bool, fillS, splice_one, idxA, Ex.isNormal, List.set_nil, List.length_set, List.all_cons, List.all_nil, Bool.and_self, and_self, true_and, and_true, List.getElem?_nil, Int.reduceLT, Int.reduceLE, Int.reduceToNat, Int.toNat_zero, Int.toNat_one, Int.reduceAdd, Int.reduceSub, Int.reduceMul, Int.reduceNeg, Int.reduceBEq, Int.reduceBNe, Int.reduceGE, Int.reduceGT, Nat.reduceLT, trim_keep, under_fn, under_ptr, under_sl, Nat.lt_irrefl, not_lt_add, trim_tail, keepOk, ABlk.vals, Int.cast_ofNat_Int, decide_true, decide_false, List.all_cons, List.all_nil, Nat.zero_mul, Nat.mul_one, Nat.one_mul, hd, ix, hc, ht, hle, hK1s, cq, d1, seqR_ret, outs_normal]
   exact ⟨aK1, exF2 rfl (.inr rfl)⟩
  have d1 := decide_eq_false c1
  by_cases c2 : p.1 ≥ bl
  ·have ok : okAt bl ar (l.take i) p = false := by unfold okAt; rw [decide_eq_false (show ¬ p.1 < bl by omega)]; simp
   have d2 := decide_eq_true c2
   rw [ok, Bool.false_and, lo]
   unfold l12x0
   simp -implicitDefEqProofs (maxSteps := 5000000) only [go_sem, Nat.reduceShiftRight, Nat.reduceAnd, Nat.reduceBNe, Int.reduceEq, Nat.reduceAdd, Nat.reduceSub, Nat.reduceMul, Nat.reduceLeDiff, reduceIte, reduceCtorEq, Nat.reduceBEq, Nat.reduceEqDiff, wrap64, runC_loop, runC_range, callF_fn, callV_fn, callV_yld, yield_eq, yieldBody, yieldRaw, roundMid, roundEnd, rangeEnd, Bool.not_not, put_cons, put_nil, trim_same, at_zero, at_add, set_zero, set_add, store_one, write_zero, write_add, write_head, write_succ, splice_one, splice_more, List.drop_nil, List.take_nil, cell_int, cell_bool, fillS, splice_one, idxA, Ex.isNormal, List.set_nil, List.length_set, List.all_cons, List.all_nil, Bool.and_self, and_self, true_and, and_true, List.getElem?_nil, Int.reduceLT, Int.reduceLE, Int.reduceToNat, Int.toNat_zero, Int.toNat_one, Int.reduceAdd, Int.reduceSub, Int.reduceMul, Int.reduceNeg, Int.reduceBEq, Int.reduceBNe, Int.reduceGE, Int.reduceGT, Nat.reduceLT, trim_keep, under_fn, under_ptr, under_sl, Nat.lt_irrefl, not_lt_add, trim_tail, keepOk, ABlk.vals, Int.cast_ofNat_Int, decide_true, decide_false, List.all_cons, List.all_nil, Nat.zero_mul, Nat.mul_one, Nat.one_mul, hd, ix, hc, ht, hle, hK1s, cq, d1, d2, seqR_ret, outs_normal]
   exact ⟨aK1, exF2 rfl (.inr rfl)⟩
  have d2 := decide_eq_false c2
  by_cases c3 : p.2 < 0
  ·have ok : okAt bl ar (l.take i) p = false := by unfold okAt; rw [decide_eq_false (show ¬ 0 ≤ p.2 by omega)]; simp
   have d3 := decide_eq_true c3
   rw [ok, Bool.false_and, lo]
   unfold l12x0
   simp -implicitDefEqProofs (maxSteps := 5000000) only [go_sem, Nat.reduceShiftRight, Nat.reduceAnd, Nat.reduceBNe, Int.reduceEq, Nat.reduceAdd, Nat.reduceSub, Nat.reduceMul, Nat.reduceLeDiff, reduceIte, reduceCtorEq, Nat.reduceBEq, Nat.reduceEqDiff, wrap64, runC_loop, runC_range, callF_fn, callV_fn, callV_yld, yield_eq, yieldBody, yieldRaw, roundMid, roundEnd, rangeEnd, Bool.not_not, put_cons, put_nil, trim_same, at_zero, at_add, set_zero, set_add, store_one, write_zero, write_add, write_head, write_succ, splice_one, splice_more, List.drop_nil, List.take_nil, cell_int, cell_bool, fillS, splice_one, idxA, Ex.isNormal, List.set_nil, List.length_set, List.all_cons, List.all_nil, Bool.and_self, and_self, true_and, and_true, List.getElem?_nil, Int.reduceLT, Int.reduceLE, Int.reduceToNat, Int.toNat_zero, Int.toNat_one, Int.reduceAdd, Int.reduceSub, Int.reduceMul, Int.reduceNeg, Int.reduceBEq, Int.reduceBNe, Int.reduceGE, Int.reduceGT, Nat.reduceLT, trim_keep, under_fn, under_ptr, under_sl, Nat.lt_irrefl, not_lt_add, trim_tail, keepOk, ABlk.vals, Int.cast_ofNat_Int, decide_true, decide_false, List.all_cons, List.all_nil, Nat.zero_mul, Nat.mul_one, Nat.one_mul, hd, ix, hc, ht, hle, hK1s, cq, d1, d2, d3, seqR_ret, outs_normal]
   exact ⟨aK1, exF2 rfl (.inr rfl)⟩
  have d3 := decide_eq_false c3
  by_cases c4 : p.2 ≥ ar
  ·have ok : okAt bl ar (l.take i) p = false := by unfold okAt; rw [decide_eq_false (show ¬ p.2 < ar by omega)]; simp
   have d4 := decide_eq_true c4
   rw [ok, Bool.false_and, lo]
   unfold l12x0
   simp -implicitDefEqProofs (maxSteps := 5000000) only [go_sem, Nat.reduceShiftRight, Nat.reduceAnd, Nat.reduceBNe, Int.reduceEq, Nat.reduceAdd, Nat.reduceSub, Nat.reduceMul, Nat.reduceLeDiff, reduceIte, reduceCtorEq, Nat.reduceBEq, Nat.reduceEqDiff, wrap64, runC_loop, runC_range, callF_fn, callV_fn, callV_yld, yield_eq, yieldBody, yieldRaw, roundMid, roundEnd, rangeEnd, Bool.not_not, put_cons, put_nil, trim_same, at_zero, at_add, set_zero, set_add, store_one, write_zero, write_add, write_head, write_succ, splice_one, splice_more, List.drop_nil, List.take_nil, cell_int, cell_bool, fillS, splice_one, idxA, Ex.isNormal, List.set_nil, List.length_set, List.all_cons, List.all_nil, Bool.and_self, and_self, true_and, and_true, List.getElem?_nil, Int.reduceLT, Int.reduceLE, Int.reduceToNat, Int.toNat_zero, Int.toNat_one, Int.reduceAdd, Int.reduceSub, Int.reduceMul, Int.reduceNeg, Int.reduceBEq, Int.reduceBNe, Int.reduceGE, Int.reduceGT, Nat.reduceLT, trim_keep, under_fn, under_ptr, under_sl, Nat.lt_irrefl, not_lt_add, trim_tail, keepOk, ABlk.vals, Int.cast_ofNat_Int, decide_true, decide_false, List.all_cons, List.all_nil, Nat.zero_mul, Nat.mul_one, Nat.one_mul, hd, ix, hc, ht, hle, hK1s, cq, d1, d2, d3, d4, seqR_ret, outs_normal]
   exact ⟨aK1, exF2 rfl (.inr rfl)⟩
  have d4 := decide_eq_false c4
  by_cases c5 : ((l.take i).map (·.2)).contains p.2 = true
  ·have ok : okAt bl ar (l.take i) p = false := by unfold okAt; rw [c5]; simp
   rw [c5] at ec
   rw [ok, Bool.false_and, lo]
   unfold l12x0
   simp -implicitDefEqProofs (maxSteps := 5000000) only [go_sem, Nat.reduceShiftRight, Nat.reduceAnd, Nat.reduceBNe, Int.reduceEq, Nat.reduceAdd, Nat.reduceSub, Nat.reduceMul, Nat.reduceLeDiff, reduceIte, reduceCtorEq, Nat.reduceBEq, Nat.reduceEqDiff, wrap64, runC_loop, runC_range, callF_fn, callV_fn, callV_yld, yield_eq, yieldBody, yieldRaw, roundMid, roundEnd, rangeEnd, Bool.not_not, put_cons, put_nil, trim_same, at_zero, at_add, set_zero, set_add, store_one, write_zero, write_add, write_head, write_succ, splice_one, splice_more, List.drop_nil, List.take_nil, cell_int, cell_bool, fillS, splice_one, idxA, Ex.isNormal, List.set_nil, List.length_set, List.all_cons, List.all_nil, Bool.and_self, and_self, true_and, and_true, List.getElem?_nil, Int.reduceLT, Int.reduceLE, Int.reduceToNat, Int.toNat_zero, Int.toNat_one, Int.reduceAdd, Int.reduceSub, Int.reduceMul, Int.reduceNeg, Int.reduceBEq, Int.reduceBNe, Int.reduceGE, Int.reduceGT, Nat.reduceLT, trim_keep, under_fn, under_ptr, under_sl, Nat.lt_irrefl, not_lt_add, trim_tail, keepOk, ABlk.vals, Int.cast_ofNat_Int, decide_true, decide_false, List.all_cons, List.all_nil, Nat.zero_mul, Nat.mul_one, Nat.one_mul, hd, ix, hc, ht, hle, hK1s, cq, d1, d2, d3, d4, ec, seqR_ret, outs_normal]
   exact ⟨aK1, exF2 rfl (.inr rfl)⟩
  have c5' := Bool.eq_false_iff.2 c5
  rw [c5'] at ec
  have okv : okAt bl ar (l.take i) p = (match (l.take i).getLast? with | none => true | some q => decide (q.1 < p.1)) := by
   unfold okAt; rw [decide_eq_true (show 0 ≤ p.1 by omega), decide_eq_true (show p.1 < bl by omega), decide_eq_true (show 0 ≤ p.2 by omega), decide_eq_true (show p.2 < ar by omega), c5']; rfl
  have rest : okAt bl ar (l.take i) p = true → ∀ (X : AHeap), K1 ++ [ABlk.rw [.int .i64 p.2]] = X → ∃ v' K3, app (ty 1 false 8 [.int .i64 0]) v7 (.sl K1.length 0 1 1 1 true) X = some (v', K3) ∧ Adds H K3 ∧ FS K3 H.length v' ((l.take (i + 1)).map (·.2)) := fun _ X hX => by
   have AX : Adds K1 X := ⟨_, hX.symm⟩
   have fX : FS X H.length v7 ((l.take i).map (·.2)) := GR.frS g71 (Fr.adds AX (fun _ => False)) fun _ _ h => h
   have lX : X.length = K1.length + 1 := by rw [← hX]; simp
   obtain ⟨v', K3, ea, g3, f3, s3, _⟩ := fX.push (s := K1.length) (z := p.2) (by rw [← hX]; unfold cellsOf; simp) (by rw [List.length_map, List.length_take]; omega) (by have := aK1.len; omega)
   rw [← tk] at g3
   exact ⟨v', K3, ea, f3.old (aK1.trans AX) fun x hx h => by have := (GR.out g7 x h).1; omega, g3⟩
  have lK1 : K1.length = K.length + 1 := by rw [hK1]; simp
  by_cases h0 : i = 0
  ·have ok : okAt bl ar (l.take i) p = true := by rw [okv, h0]; rfl
   have d6 : decide ((i : Int) > 0) = false := decide_eq_false (by omega)
   obtain ⟨v', K3, ea, a3, g3⟩ := rest ok _ rfl
   have key := ih (i + 1) K3 v'
   rw [ok, Bool.true_and, ← tk0, lo]
   unfold l12x0
   simp -implicitDefEqProofs (maxSteps := 5000000) only [go_sem, Nat.reduceShiftRight, Nat.reduceAnd, Nat.reduceBNe, Int.reduceEq, Nat.reduceAdd, Nat.reduceSub, Nat.reduceMul, Nat.reduceLeDiff, reduceIte, reduceCtorEq, Nat.reduceBEq, Nat.reduceEqDiff, wrap64, runC_loop, runC_range, callF_fn, callV_fn, callV_yld, yield_eq, yieldBody, yieldRaw, roundMid, roundEnd, rangeEnd, Bool.not_not, put_cons, put_nil, trim_same, at_zero, at_add, set_zero, set_add, store_one, write_zero, write_add, write_head, write_succ, splice_one, splice_more, List.drop_nil, List.take_nil, cell_int, cell_bool, fillS, splice_one, idxA, Ex.isNormal, List.set_nil, List.length_set, List.all_cons, List.all_nil, Bool.and_self, and_self, true_and, and_true, List.getElem?_nil, Int.reduceLT, Int.reduceLE, Int.reduceToNat, Int.toNat_zero, Int.toNat_one, Int.reduceAdd, Int.reduceSub, Int.reduceMul, Int.reduceNeg, Int.reduceBEq, Int.reduceBNe, Int.reduceGE, Int.reduceGT, Nat.reduceLT, trim_keep, under_fn, under_ptr, under_sl, Nat.lt_irrefl, not_lt_add, trim_tail, keepOk, ABlk.vals, Int.cast_ofNat_Int, decide_true, decide_false, List.all_cons, List.all_nil, Nat.zero_mul, Nat.mul_one, Nat.one_mul, hd, ix, hc, ht, hle, hK1s, cq, d1, d2, d3, d4, ec, d6, ea, e2]
   exact key _ _ _ _ _ _ _ _ _ _ _ _ _ _ _ _ _ _ _ _ _ _ _ _ _ _ _ _ _ _ _ _ _ _ _ _ _ _ _ _ _ _ _ _ _ _ _ _ _ _ _ _ _ a3 g3 (by omega)
  ·have d6 : decide ((i : Int) > 0) = true := decide_eq_true (by omega)
   have w1 : IntKind.i64.wrap ((i : Int) - 1) = ((i - 1 : Nat) : Int) := by rw [wrap64 (by omega) (by omega)]; omega
   have hy := List.getElem?_eq_getElem (show i - 1 < l.length by omega)
   have lt := last_take (l := l) (show i - 1 < l.length by omega)
   rw [show i - 1 + 1 = i by omega, hy] at lt
   generalize l[i - 1]'(by omega) = q at *
   obtain ⟨bb2, cs2, _, ix2, hc20, q1, _, _, _⟩ := g.idx hy
   have hc2 := aK1.cells hc20
   rw [lt] at okv
   by_cases c6 : p.1 ≤ q.1
   ·have ok : okAt bl ar (l.take i) p = false := by rw [okv]; exact decide_eq_false (by omega)
    have d7 := decide_eq_true c6
    rw [ok, Bool.false_and, lo]
    unfold l12x0
    simp -implicitDefEqProofs (maxSteps := 5000000) only [go_sem, Nat.reduceShiftRight, Nat.reduceAnd, Nat.reduceBNe, Int.reduceEq, Nat.reduceAdd, Nat.reduceSub, Nat.reduceMul, Nat.reduceLeDiff, reduceIte, reduceCtorEq, Nat.reduceBEq, Nat.reduceEqDiff, wrap64, runC_loop, runC_range, callF_fn, callV_fn, callV_yld, yield_eq, yieldBody, yieldRaw, roundMid, roundEnd, rangeEnd, Bool.not_not, put_cons, put_nil, trim_same, at_zero, at_add, set_zero, set_add, store_one, write_zero, write_add, write_head, write_succ, splice_one, splice_more, List.drop_nil, List.take_nil, cell_int, cell_bool, fillS, splice_one, idxA, Ex.isNormal, List.set_nil, List.length_set, List.all_cons, List.all_nil, Bool.and_self, and_self, true_and, and_true, List.getElem?_nil, Int.reduceLT, Int.reduceLE, Int.reduceToNat, Int.toNat_zero, Int.toNat_one, Int.reduceAdd, Int.reduceSub, Int.reduceMul, Int.reduceNeg, Int.reduceBEq, Int.reduceBNe, Int.reduceGE, Int.reduceGT, Nat.reduceLT, trim_keep, under_fn, under_ptr, under_sl, Nat.lt_irrefl, not_lt_add, trim_tail, keepOk, ABlk.vals, Int.cast_ofNat_Int, decide_true, decide_false, List.all_cons, List.all_nil, Nat.zero_mul, Nat.mul_one, Nat.one_mul, hd, ix, hc, ht, hle, hK1s, cq, d1, d2, d3, d4, ec, d6, w1, ix2, hc2, q1, d7, seqR_ret, outs_normal]
    exact ⟨aK1, exF2 rfl (.inr rfl)⟩
   ·have ok : okAt bl ar (l.take i) p = true := by rw [okv]; exact decide_eq_true (by omega)
    have d7 := decide_eq_false c6
    obtain ⟨v', K3, ea, a3, g3⟩ := rest ok _ rfl
    have key := ih (i + 1) K3 v'
    rw [ok, Bool.true_and, ← tk0, lo]
    unfold l12x0
    simp -implicitDefEqProofs (maxSteps := 5000000) only [go_sem, Nat.reduceShiftRight, Nat.reduceAnd, Nat.reduceBNe, Int.reduceEq, Nat.reduceAdd, Nat.reduceSub, Nat.reduceMul, Nat.reduceLeDiff, reduceIte, reduceCtorEq, Nat.reduceBEq, Nat.reduceEqDiff, wrap64, runC_loop, runC_range, callF_fn, callV_fn, callV_yld, yield_eq, yieldBody, yieldRaw, roundMid, roundEnd, rangeEnd, Bool.not_not, put_cons, put_nil, trim_same, at_zero, at_add, set_zero, set_add, store_one, write_zero, write_add, write_head, write_succ, splice_one, splice_more, List.drop_nil, List.take_nil, cell_int, cell_bool, fillS, splice_one, idxA, Ex.isNormal, List.set_nil, List.length_set, List.all_cons, List.all_nil, Bool.and_self, and_self, true_and, and_true, List.getElem?_nil, Int.reduceLT, Int.reduceLE, Int.reduceToNat, Int.toNat_zero, Int.toNat_one, Int.reduceAdd, Int.reduceSub, Int.reduceMul, Int.reduceNeg, Int.reduceBEq, Int.reduceBNe, Int.reduceGE, Int.reduceGT, Nat.reduceLT, trim_keep, under_fn, under_ptr, under_sl, Nat.lt_irrefl, not_lt_add, trim_tail, keepOk, ABlk.vals, Int.cast_ofNat_Int, decide_true, decide_false, List.all_cons, List.all_nil, Nat.zero_mul, Nat.mul_one, Nat.one_mul, hd, ix, hc, ht, hle, hK1s, cq, d1, d2, d3, d4, ec, d6, w1, ix2, hc2, q1, d7, ea, e2]
    exact key _ _ _ _ _ _ _ _ _ _ _ _ _ _ _ _ _ _ _ _ _ _ _ _ _ _ _ _ _ _ _ _ _ _ _ _ _ _ _ _ _ _ _ _ _ _ _ _ _ _ _ _ _ a3 g3 (by omega)
theorem goodC : (envL prog).call 12 [v, .int .i64 bl, .int .i64 ar] H = some (.bool (tgood l bl ar), H) := by
 have l0 := goodL g hl bl ar (k := l.length) (i := 0) (K := H) (v7 := .nilSl)
 rw [show ((0 : Nat) : Int) = 0 from rfl, List.drop_zero, List.take_zero] at l0
 have wl := g.len
 have key : Outs (runC (envL prog) (b12 (envL prog)) ([v, .int .i64 bl, .int .i64 ar] ++ List.replicate (64 - [v, AV.int .i64 bl, AV.int .i64 ar].length) .undef) H) fun e' t K => Adds H K ∧ fin [.tmp 6] (some (e', t, K)) = some (.bool (tgood l bl ar), K) := by
  unfold b12
  generalize hQ : (fun (e' : Ex) (t : T) (K : AHeap) => Adds H K ∧ fin [.tmp 6] (some (e', t, K)) = some (AV.bool (tgood l bl ar), K)) = Q
  simp -implicitDefEqProofs (maxSteps := 5000000) only [go_sem, Nat.reduceShiftRight, Nat.reduceAnd, Nat.reduceBNe, Int.reduceEq, Nat.reduceAdd, Nat.reduceSub, Nat.reduceMul, Nat.reduceLeDiff, reduceIte, reduceCtorEq, Nat.reduceBEq, Nat.reduceEqDiff, wrap64, runC_loop, runC_range, callF_fn, callV_fn, callV_yld, yield_eq, yieldBody, yieldRaw, roundMid, roundEnd, rangeEnd, Bool.not_not, put_cons, put_nil, trim_same, at_zero, at_add, set_zero, set_add, store_one, write_zero, write_add, write_head, write_succ, splice_one, splice_more, List.drop_nil, List.take_nil, cell_int, cell_bool, fillS, splice_one, idxA, Ex.isNormal, List.set_nil, List.length_set, List.all_cons, List.all_nil, Bool.and_self, and_self, true_and, and_true, List.getElem?_nil, Int.reduceLT, Int.reduceLE, Int.reduceToNat, Int.toNat_zero, Int.toNat_one, Int.reduceAdd, Int.reduceSub, Int.reduceMul, Int.reduceNeg, Int.reduceBEq, Int.reduceBNe, Int.reduceGE, Int.reduceGT, Nat.reduceLT, trim_keep, under_fn, under_ptr, under_sl, Nat.lt_irrefl, not_lt_add, trim_tail, keepOk, ABlk.vals, Int.cast_ofNat_Int, decide_true, decide_false, List.all_cons, List.all_nil, Nat.zero_mul, Nat.mul_one, Nat.one_mul, runC_loop, wl]
  unfold LP1 at l0
  generalize (envL prog).loop (runC (envL prog) (l12x0 (envL prog))) = L0 at l0 ⊢
  refine outs_ctx (fun r => seqR (blockR 0 r) _) (l0 _ _ _ _ _ _ _ _ _ _ _ _ _ _ _ _ _ _ _ _ _ _ _ _ _ _ _ _ _ _ _ _ _ _ _ _ _ _ _ _ _ _ _ _ _ _ _ _ _ _ _ _ _ _ _ _ (Adds.refl H) (.inl ⟨rfl, rfl⟩) (by omega)) ?_
  rintro e t K ⟨aK, fv, rfl, ⟨rfl, ho⟩ | ⟨rfl, f6, ho⟩⟩
  ·have eg : tgood l bl ar = true := ho
   rw [eg] at hQ
   simp -implicitDefEqProofs (maxSteps := 5000000) only [go_sem, Nat.reduceShiftRight, Nat.reduceAnd, Nat.reduceBNe, Int.reduceEq, Nat.reduceAdd, Nat.reduceSub, Nat.reduceMul, Nat.reduceLeDiff, reduceIte, reduceCtorEq, Nat.reduceBEq, Nat.reduceEqDiff, outs_normal]
   subst hQ
   refine ⟨aK, ?_⟩
   simp -implicitDefEqProofs (maxSteps := 5000000) only [go_sem, Nat.reduceShiftRight, Nat.reduceAnd, Nat.reduceBNe, Int.reduceEq, Nat.reduceAdd, Nat.reduceSub, Nat.reduceMul, Nat.reduceLeDiff, reduceIte, reduceCtorEq, Nat.reduceBEq, Nat.reduceEqDiff]
  ·have eg : tgood l bl ar = false := ho
   rw [eg] at hQ
   simp -implicitDefEqProofs (maxSteps := 5000000) only [go_sem, Nat.reduceShiftRight, Nat.reduceAnd, Nat.reduceBNe, Int.reduceEq, Nat.reduceAdd, Nat.reduceSub, Nat.reduceMul, Nat.reduceLeDiff, reduceIte, reduceCtorEq, Nat.reduceBEq, Nat.reduceEqDiff, outs_normal]
   subst hQ
   refine ⟨aK, ?_⟩
   simp -implicitDefEqProofs (maxSteps := 5000000) only [go_sem, Nat.reduceShiftRight, Nat.reduceAnd, Nat.reduceBNe, Int.reduceEq, Nat.reduceAdd, Nat.reduceSub, Nat.reduceMul, Nat.reduceLeDiff, reduceIte, reduceCtorEq, Nat.reduceBEq, Nat.reduceEqDiff, f6]
 obtain ⟨e', t, K, hr, ⟨Y, rfl⟩, hf⟩ := key
 rw [c12, hr, hf]; exact trim_app rfl
end
end Go.Proofs.Ytekceggcbpeoeaa.G10
end
section
namespace Go.Proofs.Ytekceggcbpeoeaa.G10
open Go Go.Proofs.Ytekceggcbpeoeaa.Eng
section
variable {H : AHeap} {v : AV} {l : List PrS} (g : IsP H v l) (hl : l.length ≤ 1000000) (bl ar : Int)
include g hl
set_option maxHeartbeats 8000000 in
theorem rgoodL0 {K : AHeap} (aK : Adds H K) {i : Nat} (hi0 : i ≤ l.length) {qb : Nat} {p : PrS} (cq : cellsOf K qb = some [.int .i64 p.1, .int .i64 p.2]) (x1 x2 x3 x4 x5 x10 x11 x12 x13 x14 x15 x16 x17 x18 x19 x20 x21 x22 x23 x24 x25 x26 x27 x28 x29 x30 x31 x32 x33 x34 x35 x36 x37 x38 x39 x40 x41 x42 x43 x44 x45 x46 x47 x48 x49 x50 x51 x52 x53 x54 : AV) : ∀ (k j : Nat) (j55 j56 j57 j58 j59 j60 j61 j62 j63 j64 j65 j66 j67 : AV), j + k = i →
  Outs (LP1 l13x0 [v, x1, x2, x3, x4, x5, .bool false, .int .i64 (i : Int), .ptr qb 0, .int .i64 (j : Int), x10, x11, x12, x13, x14, x15, x16, x17, x18, x19, x20, x21, x22, x23, x24, x25, x26, x27, x28, x29, x30, x31, x32, x33, x34, x35, x36, x37, x38, x39, x40, x41, x42, x43, x44, x45, x46, x47, x48, x49, x50, x51, x52, x53, x54, j55, j56, j57, j58, j59, j60, j61, j62, j63, j64, j65, j66, j67] K) fun e t K' => K' = K ∧ ∃ fv : Nat → AV, t = [v, x1, x2, x3, x4, x5, (fv 6), .int .i64 (i : Int), .ptr qb 0, (fv 9), x10, x11, x12, x13, x14, x15, x16, x17, x18, x19, x20, x21, x22, x23, x24, x25, x26, x27, x28, x29, x30, x31, x32, x33, x34, x35, x36, x37, x38, x39, x40, x41, x42, x43, x44, x45, x46, x47, x48, x49, x50, x51, x52, x53, x54, (fv 55), (fv 56), (fv 57), (fv 58), (fv 59), (fv 60), (fv 61), (fv 62), (fv 63), (fv 64), (fv 65), (fv 66), (fv 67)] ∧ ((e = .exit 2 ∧ fv 6 = .bool false ∧ (((l.take i).drop j).map (·.2)).contains p.2 = false) ∨ (e = .ret ∧ fv 6 = .bool false ∧ (((l.take i).drop j).map (·.2)).contains p.2 = true)) := by
 intro k
 obtain ⟨L0, hL0⟩ : ∃ L, L = LP1 l13x0 := ⟨_, rfl⟩
 have lo := loop_open hL0
 rw [← hL0]
 have tl : (l.take i).length = i := by rw [List.length_take]; omega
 induction k with
 | zero =>
  intro j j55 j56 j57 j58 j59 j60 j61 j62 j63 j64 j65 j66 j67 hj
  obtain rfl : j = i := by omega
  have hd : decide ((j : Int) < (j : Int)) = false := by simp
  rw [lo]
  unfold l13x0
  simp -implicitDefEqProofs (maxSteps := 5000000) only [go_sem, Nat.reduceShiftRight, Nat.reduceAnd, Nat.reduceBNe, Int.reduceEq, Nat.reduceAdd, Nat.reduceSub, Nat.reduceMul, Nat.reduceLeDiff, reduceIte, reduceCtorEq, Nat.reduceBEq, Nat.reduceEqDiff, hd, seqR_exit', outs_normal]
  exact exF2 rfl (.inl ⟨rfl, by rw [List.drop_of_length_le (by omega)]; rfl⟩)
 | succ k ih =>
  intro j j55 j56 j57 j58 j59 j60 j61 j62 j63 j64 j65 j66 j67 hj
  have hlt : j < l.length := by omega
  have hd : decide ((j : Int) < (i : Int)) = true := decide_eq_true (by omega)
  have e2 : IntKind.i64.wrap ((j : Int) + 1) = ((j + 1 : Nat) : Int) := by rw [wrap64 (by omega) (by omega)]; omega
  have hx := List.getElem?_eq_getElem hlt
  have hy : (l.take i)[j]? = l[j]? := by rw [List.getElem?_take, if_pos (by omega)]
  have hz : (l.take i)[j]'(by omega) = l[j] := by
   have := List.getElem?_eq_getElem (show j < (l.take i).length by omega)
   rw [hy, hx] at this; exact (Option.some.inj this).symm
  rw [List.drop_eq_getElem_cons (show j < (l.take i).length by omega), hz, List.map_cons, List.contains_cons]
  generalize l[j] = q at *
  obtain ⟨bb, cs, sb, ix, hc0, h1, h2, ht, hle⟩ := g.idx hx
  have hc := aK.cells hc0
  rw [lo]
  unfold l13x0
  by_cases h : q.2 = p.2
  ·have hb : (q.2 == p.2) = true := by simp [h]
   have hb2 : (p.2 == q.2) = true := by simp [h]
   rw [hb2, Bool.true_or]
   simp -implicitDefEqProofs (maxSteps := 5000000) only [go_sem, Nat.reduceShiftRight, Nat.reduceAnd, Nat.reduceBNe, Int.reduceEq, Nat.reduceAdd, Nat.reduceSub, Nat.reduceMul, Nat.reduceLeDiff, reduceIte, reduceCtorEq, Nat.reduceBEq, Nat.reduceEqDiff, wrap64, runC_loop, runC_range, callF_fn, callV_fn, callV_yld, yield_eq, yieldBody, yieldRaw, roundMid, roundEnd, rangeEnd, Bool.not_not, put_cons, put_nil, trim_same, at_zero, at_add, set_zero, set_add, store_one, write_zero, write_add, write_head, write_succ, splice_one, splice_more, List.drop_nil, List.take_nil, cell_int, cell_bool, fillS, splice_one, idxA, Ex.isNormal, List.set_nil, List.length_set, List.all_cons, List.all_nil, Bool.and_self, and_self, true_and, and_true, List.getElem?_nil, Int.reduceLT, Int.reduceLE, Int.reduceToNat, Int.toNat_zero, Int.toNat_one, Int.reduceAdd, Int.reduceSub, Int.reduceMul, Int.reduceNeg, Int.reduceBEq, Int.reduceBNe, Int.reduceGE, Int.reduceGT, Nat.reduceLT, trim_keep, under_fn, under_ptr, under_sl, Nat.lt_irrefl, not_lt_add, trim_tail, keepOk, ABlk.vals, Int.cast_ofNat_Int, decide_true, decide_false, List.all_cons, List.all_nil, Nat.zero_mul, Nat.mul_one, Nat.one_mul, hd, ix, hc, h2, cq, hb, seqR_ret, outs_normal]
   exact exF2 rfl (.inr rfl)
  ·have hb : (q.2 == p.2) = false := by simp [h]
   have hb2 : (p.2 == q.2) = false := by simp; exact fun e => h e.symm
   rw [hb2, Bool.false_or]
   simp -implicitDefEqProofs (maxSteps := 5000000) only [go_sem, Nat.reduceShiftRight, Nat.reduceAnd, Nat.reduceBNe, Int.reduceEq, Nat.reduceAdd, Nat.reduceSub, Nat.reduceMul, Nat.reduceLeDiff, reduceIte, reduceCtorEq, Nat.reduceBEq, Nat.reduceEqDiff, wrap64, runC_loop, runC_range, callF_fn, callV_fn, callV_yld, yield_eq, yieldBody, yieldRaw, roundMid, roundEnd, rangeEnd, Bool.not_not, put_cons, put_nil, trim_same, at_zero, at_add, set_zero, set_add, store_one, write_zero, write_add, write_head, write_succ, splice_one, splice_more, List.drop_nil, List.take_nil, cell_int, cell_bool, fillS, splice_one, idxA, Ex.isNormal, List.set_nil, List.length_set, List.all_cons, List.all_nil, Bool.and_self, and_self, true_and, and_true, List.getElem?_nil, Int.reduceLT, Int.reduceLE, Int.reduceToNat, Int.toNat_zero, Int.toNat_one, Int.reduceAdd, Int.reduceSub, Int.reduceMul, Int.reduceNeg, Int.reduceBEq, Int.reduceBNe, Int.reduceGE, Int.reduceGT, Nat.reduceLT, trim_keep, under_fn, under_ptr, under_sl, Nat.lt_irrefl, not_lt_add, trim_tail, keepOk, ABlk.vals, Int.cast_ofNat_Int, decide_true, decide_false, List.all_cons, List.all_nil, Nat.zero_mul, Nat.mul_one, Nat.one_mul, hd, ix, hc, h2, cq, hb, e2]
   exact ih (j + 1) _ _ _ _ _ _ _ _ _ _ _ _ _ (by omega)
set_option maxHeartbeats 16000000 in
theorem rgoodL (x3 x4 x5 : AV) : ∀ (k i : Nat) (K : AHeap) (j8 j9 j10 j11 j12 j13 j14 j15 j16 j17 j18 j19 j20 j21 j22 j23 j24 j25 j26 j27 j28 j29 j30 j31 j32 j33 j34 j35 j36 j37 j38 j39 j40 j41 j42 j43 j44 j45 j46 j47 j48 j49 j50 j51 j52 j53 j54 j55 j56 j57 j58 j59 j60 j61 j62 j63 j64 j65 j66 j67 : AV), Adds H K → i + k = l.length →
  Outs (LP1 l13x1 [v, .int .i64 bl, .int .i64 ar, x3, x4, x5, .bool false, .int .i64 (i : Int), j8, j9, j10, j11, j12, j13, j14, j15, j16, j17, j18, j19, j20, j21, j22, j23, j24, j25, j26, j27, j28, j29, j30, j31, j32, j33, j34, j35, j36, j37, j38, j39, j40, j41, j42, j43, j44, j45, j46, j47, j48, j49, j50, j51, j52, j53, j54, j55, j56, j57, j58, j59, j60, j61, j62, j63, j64, j65, j66, j67] K) fun e t K' => Adds H K' ∧ ∃ fv : Nat → AV, t = [v, .int .i64 bl, .int .i64 ar, x3, x4, x5, (fv 6), (fv 7), (fv 8), (fv 9), (fv 10), (fv 11), (fv 12), (fv 13), (fv 14), (fv 15), (fv 16), (fv 17), (fv 18), (fv 19), (fv 20), (fv 21), (fv 22), (fv 23), (fv 24), (fv 25), (fv 26), (fv 27), (fv 28), (fv 29), (fv 30), (fv 31), (fv 32), (fv 33), (fv 34), (fv 35), (fv 36), (fv 37), (fv 38), (fv 39), (fv 40), (fv 41), (fv 42), (fv 43), (fv 44), (fv 45), (fv 46), (fv 47), (fv 48), (fv 49), (fv 50), (fv 51), (fv 52), (fv 53), (fv 54), (fv 55), (fv 56), (fv 57), (fv 58), (fv 59), (fv 60), (fv 61), (fv 62), (fv 63), (fv 64), (fv 65), (fv 66), (fv 67)] ∧ ((e = .exit 0 ∧ tgoodF bl ar (l.take i) (l.drop i) = true) ∨ (e = .ret ∧ fv 6 = .bool false ∧ tgoodF bl ar (l.take i) (l.drop i) = false)) := by
 intro k
 obtain ⟨L0, hL0⟩ : ∃ L, L = LP1 l13x1 := ⟨_, rfl⟩
 have lo := loop_open hL0
 have wl := g.len
 rw [← hL0]
 induction k with
 | zero =>
  intro i K j8 j9 j10 j11 j12 j13 j14 j15 j16 j17 j18 j19 j20 j21 j22 j23 j24 j25 j26 j27 j28 j29 j30 j31 j32 j33 j34 j35 j36 j37 j38 j39 j40 j41 j42 j43 j44 j45 j46 j47 j48 j49 j50 j51 j52 j53 j54 j55 j56 j57 j58 j59 j60 j61 j62 j63 j64 j65 j66 j67 aK hi
  obtain rfl : i = l.length := by omega
  have hd : decide ((l.length : Int) < (l.length : Int)) = false := by simp
  rw [List.drop_length, lo]
  unfold l13x1
  simp -implicitDefEqProofs (maxSteps := 5000000) only [go_sem, Nat.reduceShiftRight, Nat.reduceAnd, Nat.reduceBNe, Int.reduceEq, Nat.reduceAdd, Nat.reduceSub, Nat.reduceMul, Nat.reduceLeDiff, reduceIte, reduceCtorEq, Nat.reduceBEq, Nat.reduceEqDiff, wl, hd, seqR_exit', outs_normal]
  exact ⟨aK, exF2 rfl (.inl rfl)⟩
 | succ k ih =>
  intro i K j8 j9 j10 j11 j12 j13 j14 j15 j16 j17 j18 j19 j20 j21 j22 j23 j24 j25 j26 j27 j28 j29 j30 j31 j32 j33 j34 j35 j36 j37 j38 j39 j40 j41 j42 j43 j44 j45 j46 j47 j48 j49 j50 j51 j52 j53 j54 j55 j56 j57 j58 j59 j60 j61 j62 j63 j64 j65 j66 j67 aK hi
  have hlt : i < l.length := by omega
  have hd : decide ((i : Int) < (l.length : Int)) = true := decide_eq_true (by omega)
  have e2 : IntKind.i64.wrap ((i : Int) + 1) = ((i + 1 : Nat) : Int) := by rw [wrap64 (by omega) (by omega)]; omega
  have hx := List.getElem?_eq_getElem hlt
  have tk0 : l.take (i + 1) = l.take i ++ [l[i]] := by rw [List.take_add_one, hx]; rfl
  rw [List.drop_eq_getElem_cons hlt, tgoodF]
  generalize l[i] = p at *
  obtain ⟨bb, cs, sb, ix, hc0, h1, h2, ht, hle⟩ := g.idx hx
  have hc := aK.cells hc0
  obtain ⟨K1, hK1⟩ : ∃ K1, K1 = K ++ [ABlk.rw [.int .i64 p.1, .int .i64 p.2]] := ⟨_, rfl⟩
  have A1 : Adds K K1 := ⟨_, hK1⟩
  have cq : cellsOf K1 K.length = some [.int .i64 p.1, .int .i64 p.2] := by rw [hK1]; unfold cellsOf; simp
  have aK1 := aK.trans A1
  have hK1s := hK1.symm
  unfold prC at ht
  have l0 := rgoodL0 g hl aK1 (i := i) (by omega) cq (k := i) (j := 0)
  rw [show ((0 : Nat) : Int) = 0 from rfl, List.drop_zero] at l0
  by_cases c1 : p.1 < 0
  ·have ok : okAt bl ar (l.take i) p = false := by unfold okAt; rw [decide_eq_false (show ¬ 0 ≤ p.1 by omega)]; rfl
   have d1 := decide_eq_true c1
   rw [ok, Bool.false_and, lo]
   unfold l13x1
   simp -implicitDefEqProofs (maxSteps := 5000000) only [go_sem, Nat.reduceShiftRight, Nat.reduceAnd, Nat.reduceBNe, Int.reduceEq, Nat.reduceAdd, Nat.reduceSub, Nat.reduceMul, Nat.reduceLeDiff, reduceIte, reduceCtorEq, Nat.reduceBEq, Nat.reduceEqDiff, wrap64, runC_loop, runC_range, callF_fn, callV_fn, callV_yld, yield_eq, yieldBody, yieldRaw, roundMid, roundEnd, rangeEnd, Bool.not_not, put_cons, put_nil, trim_same, at_zero, at_add, set_zero, set_add, store_one, write_zero, write_add, write_head, write_succ, splice_one, splice_more, List.drop_nil, List.take_nil, cell_int, cell_bool, fillS, splice_one, idxA, Ex.isNormal, List.set_nil, List.length_set, List.all_cons, List.all_nil, Bool.and_self, and_self, true_and, and_true, List.getElem?_nil, Int.reduceLT, Int.reduceLE, Int.reduceToNat, Int.toNat_zero, Int.toNat_one, Int.reduceAdd, Int.reduceSub, Int.reduceMul, Int.reduceNeg, Int.reduceBEq, Int.reduceBNe, Int.reduceGE, Int.reduceGT, Nat.reduceLT, trim_keep, under_fn, under_ptr, under_sl, Nat.lt_irrefl, not_lt_add, trim_tail, keepOk, ABlk.vals, Int.cast_ofNat_Int, decide_true, decide_false, List.all_cons, List.all_nil, Nat.zero_mul, Nat.mul_one, Nat.one_mul, wl, hd, ix, hc, ht, hle, hK1s, cq, d1, seqR_ret, outs_normal]
   exact ⟨aK1, exF2 rfl (.inr rfl)⟩
  have d1 := decide_eq_false c1
  by_cases c2 : p.1 ≥ bl
  ·have ok : okAt bl ar (l.take i) p = false := by unfold okAt; rw [decide_eq_false (show ¬ p.1 < bl by omega)]; simp
   have d2 := decide_eq_true c2
   rw [ok, Bool.false_and, lo]
   unfold l13x1
   simp -implicitDefEqProofs (maxSteps := 5000000) only [go_sem, Nat.reduceShiftRight, Nat.reduceAnd, Nat.reduceBNe, Int.reduceEq, Nat.reduceAdd, Nat.reduceSub, Nat.reduceMul, Nat.reduceLeDiff, reduceIte, reduceCtorEq, Nat.reduceBEq, Nat.reduceEqDiff, wrap64, runC_loop, runC_range, callF_fn, callV_fn, callV_yld, yield_eq, yieldBody, yieldRaw, roundMid, roundEnd, rangeEnd, Bool.not_not, put_cons, put_nil, trim_same, at_zero, at_add, set_zero, set_add, store_one, write_zero, write_add, write_head, write_succ, splice_one, splice_more, List.drop_nil, List.take_nil, cell_int, cell_bool, fillS, splice_one, idxA, Ex.isNormal, List.set_nil, List.length_set, List.all_cons, List.all_nil, Bool.and_self, and_self, true_and, and_true, List.getElem?_nil, Int.reduceLT, Int.reduceLE, Int.reduceToNat, Int.toNat_zero, Int.toNat_one, Int.reduceAdd, Int.reduceSub, Int.reduceMul, Int.reduceNeg, Int.reduceBEq, Int.reduceBNe, Int.reduceGE, Int.reduceGT, Nat.reduceLT, trim_keep, under_fn, under_ptr, under_sl, Nat.lt_irrefl, not_lt_add, trim_tail, keepOk, ABlk.vals, Int.cast_ofNat_Int, decide_true, decide_false, List.all_cons, List.all_nil, Nat.zero_mul, Nat.mul_one, Nat.one_mul, wl, hd, ix, hc, ht, hle, hK1s, cq, d1, d2, seqR_ret, outs_normal]
   exact ⟨aK1, exF2 rfl (.inr rfl)⟩
  have d2 := decide_eq_false c2
  by_cases c3 : p.2 < 0
  ·have ok : okAt bl ar (l.take i) p = false := by unfold okAt; rw [decide_eq_false (show ¬ 0 ≤ p.2 by omega)]; simp
   have d3 := decide_eq_true c3
   rw [ok, Bool.false_and, lo]
   unfold l13x1
   simp -implicitDefEqProofs (maxSteps := 5000000) only [go_sem, Nat.reduceShiftRight, Nat.reduceAnd, Nat.reduceBNe, Int.reduceEq, Nat.reduceAdd, Nat.reduceSub, Nat.reduceMul, Nat.reduceLeDiff, reduceIte, reduceCtorEq, Nat.reduceBEq, Nat.reduceEqDiff, wrap64, runC_loop, runC_range, callF_fn, callV_fn, callV_yld, yield_eq, yieldBody, yieldRaw, roundMid, roundEnd, rangeEnd, Bool.not_not, put_cons, put_nil, trim_same, at_zero, at_add, set_zero, set_add, store_one, write_zero, write_add, write_head, write_succ, splice_one, splice_more, List.drop_nil, List.take_nil, cell_int, cell_bool, fillS, splice_one, idxA, Ex.isNormal, List.set_nil, List.length_set, List.all_cons, List.all_nil, Bool.and_self, and_self, true_and, and_true, List.getElem?_nil, Int.reduceLT, Int.reduceLE, Int.reduceToNat, Int.toNat_zero, Int.toNat_one, Int.reduceAdd, Int.reduceSub, Int.reduceMul, Int.reduceNeg, Int.reduceBEq, Int.reduceBNe, Int.reduceGE, Int.reduceGT, Nat.reduceLT, trim_keep, under_fn, under_ptr, under_sl, Nat.lt_irrefl, not_lt_add, trim_tail, keepOk, ABlk.vals, Int.cast_ofNat_Int, decide_true, decide_false, List.all_cons, List.all_nil, Nat.zero_mul, Nat.mul_one, Nat.one_mul, wl, hd, ix, hc, ht, hle, hK1s, cq, d1, d2, d3, seqR_ret, outs_normal]
   exact ⟨aK1, exF2 rfl (.inr rfl)⟩
  have d3 := decide_eq_false c3
  by_cases c4 : p.2 ≥ ar
  ·have ok : okAt bl ar (l.take i) p = false := by unfold okAt; rw [decide_eq_false (show ¬ p.2 < ar by omega)]; simp
   have d4 := decide_eq_true c4
   rw [ok, Bool.false_and, lo]
   unfold l13x1
   simp -implicitDefEqProofs (maxSteps := 5000000) only [go_sem, Nat.reduceShiftRight, Nat.reduceAnd, Nat.reduceBNe, Int.reduceEq, Nat.reduceAdd, Nat.reduceSub, Nat.reduceMul, Nat.reduceLeDiff, reduceIte, reduceCtorEq, Nat.reduceBEq, Nat.reduceEqDiff, wrap64, runC_loop, runC_range, callF_fn, callV_fn, callV_yld, yield_eq, yieldBody, yieldRaw, roundMid, roundEnd, rangeEnd, Bool.not_not, put_cons, put_nil, trim_same, at_zero, at_add, set_zero, set_add, store_one, write_zero, write_add, write_head, write_succ, splice_one, splice_more, List.drop_nil, List.take_nil, cell_int, cell_bool, fillS, splice_one, idxA, Ex.isNormal, List.set_nil, List.length_set, List.all_cons, List.all_nil, Bool.and_self, and_self, true_and, and_true, List.getElem?_nil, Int.reduceLT, Int.reduceLE, Int.reduceToNat, Int.toNat_zero, Int.toNat_one, Int.reduceAdd, Int.reduceSub, Int.reduceMul, Int.reduceNeg, Int.reduceBEq, Int.reduceBNe, Int.reduceGE, Int.reduceGT, Nat.reduceLT, trim_keep, under_fn, under_ptr, under_sl, Nat.lt_irrefl, not_lt_add, trim_tail, keepOk, ABlk.vals, Int.cast_ofNat_Int, decide_true, decide_false, List.all_cons, List.all_nil, Nat.zero_mul, Nat.mul_one, Nat.one_mul, wl, hd, ix, hc, ht, hle, hK1s, cq, d1, d2, d3, d4, seqR_ret, outs_normal]
   exact ⟨aK1, exF2 rfl (.inr rfl)⟩
  have d4 := decide_eq_false c4
  have okv : okAt bl ar (l.take i) p = (!((l.take i).map (·.2)).contains p.2 && (match (l.take i).getLast? with | none => true | some q => decide (q.1 < p.1))) := by
   unfold okAt; rw [decide_eq_true (show 0 ≤ p.1 by omega), decide_eq_true (show p.1 < bl by omega), decide_eq_true (show 0 ≤ p.2 by omega), decide_eq_true (show p.2 < ar by omega)]; rfl
  have key := ih (i + 1) K1
  by_cases h0 : i = 0
  ·have ok : okAt bl ar (l.take i) p = true := by rw [okv, h0]; rfl
   have d6 : decide ((i : Int) > 0) = false := decide_eq_false (by omega)
   have cf : ((l.take i).map (·.2)).contains p.2 = false := by rw [h0]; rfl
   rw [ok, Bool.true_and, ← tk0, lo]
   unfold l13x1
   simp -implicitDefEqProofs (maxSteps := 5000000) only [go_sem, Nat.reduceShiftRight, Nat.reduceAnd, Nat.reduceBNe, Int.reduceEq, Nat.reduceAdd, Nat.reduceSub, Nat.reduceMul, Nat.reduceLeDiff, reduceIte, reduceCtorEq, Nat.reduceBEq, Nat.reduceEqDiff, wrap64, runC_loop, runC_range, callF_fn, callV_fn, callV_yld, yield_eq, yieldBody, yieldRaw, roundMid, roundEnd, rangeEnd, Bool.not_not, put_cons, put_nil, trim_same, at_zero, at_add, set_zero, set_add, store_one, write_zero, write_add, write_head, write_succ, splice_one, splice_more, List.drop_nil, List.take_nil, cell_int, cell_bool, fillS, splice_one, idxA, Ex.isNormal, List.set_nil, List.length_set, List.all_cons, List.all_nil, Bool.and_self, and_self, true_and, and_true, List.getElem?_nil, Int.reduceLT, Int.reduceLE, Int.reduceToNat, Int.toNat_zero, Int.toNat_one, Int.reduceAdd, Int.reduceSub, Int.reduceMul, Int.reduceNeg, Int.reduceBEq, Int.reduceBNe, Int.reduceGE, Int.reduceGT, Nat.reduceLT, trim_keep, under_fn, under_ptr, under_sl, Nat.lt_irrefl, not_lt_add, trim_tail, keepOk, ABlk.vals, Int.cast_ofNat_Int, decide_true, decide_false, List.all_cons, List.all_nil, Nat.zero_mul, Nat.mul_one, Nat.one_mul, runC_loop, wl, hd, ix, hc, ht, hle, hK1s, cq, d1, d2, d3, d4, d6]
   unfold LP1 at l0
   generalize (envL prog).loop (runC (envL prog) (l13x0 (envL prog))) = LL at l0 ⊢
   refine outs_ctx (fun x => seqR (seqR (blockR 1 (blockR 2 x)) _) _) (l0 _ _ _ _ _ _ _ _ _ _ _ _ _ _ _ _ _ _ _ _ _ _ _ _ _ _ _ _ _ _ _ _ _ _ _ _ _ _ _ _ _ _ _ _ _ _ _ _ _ _ _ _ _ _ _ _ _ _ _ _ _ _ _ (by omega)) ?_
   rintro e t K' ⟨rfl, fv, rfl, ⟨rfl, f6, ho⟩ | ⟨rfl, f6, ho⟩⟩
   ·simp -implicitDefEqProofs (maxSteps := 5000000) only [go_sem, Nat.reduceShiftRight, Nat.reduceAnd, Nat.reduceBNe, Int.reduceEq, Nat.reduceAdd, Nat.reduceSub, Nat.reduceMul, Nat.reduceLeDiff, reduceIte, reduceCtorEq, Nat.reduceBEq, Nat.reduceEqDiff, e2, f6]
    exact key _ _ _ _ _ _ _ _ _ _ _ _ _ _ _ _ _ _ _ _ _ _ _ _ _ _ _ _ _ _ _ _ _ _ _ _ _ _ _ _ _ _ _ _ _ _ _ _ _ _ _ _ _ _ _ _ _ _ _ _ aK1 (by omega)
   ·rw [cf] at ho; cases ho
  ·have d6 : decide ((i : Int) > 0) = true := decide_eq_true (by omega)
   have w1 : IntKind.i64.wrap ((i : Int) - 1) = ((i - 1 : Nat) : Int) := by rw [wrap64 (by omega) (by omega)]; omega
   have hy := List.getElem?_eq_getElem (show i - 1 < l.length by omega)
   have lt := last_take (l := l) (show i - 1 < l.length by omega)
   rw [show i - 1 + 1 = i by omega, hy] at lt
   generalize l[i - 1]'(by omega) = q at *
   obtain ⟨bb2, cs2, _, ix2, hc20, q1, _, _, _⟩ := g.idx hy
   have hc2 := aK1.cells hc20
   rw [lt] at okv
   simp only at okv
   by_cases c6 : p.1 ≤ q.1
   ·have ok : okAt bl ar (l.take i) p = false := by rw [okv, decide_eq_false (show ¬ q.1 < p.1 by omega)]; simp
    have d7 := decide_eq_true c6
    rw [ok, Bool.false_and, lo]
    unfold l13x1
    simp -implicitDefEqProofs (maxSteps := 5000000) only [go_sem, Nat.reduceShiftRight, Nat.reduceAnd, Nat.reduceBNe, Int.reduceEq, Nat.reduceAdd, Nat.reduceSub, Nat.reduceMul, Nat.reduceLeDiff, reduceIte, reduceCtorEq, Nat.reduceBEq, Nat.reduceEqDiff, wrap64, runC_loop, runC_range, callF_fn, callV_fn, callV_yld, yield_eq, yieldBody, yieldRaw, roundMid, roundEnd, rangeEnd, Bool.not_not, put_cons, put_nil, trim_same, at_zero, at_add, set_zero, set_add, store_one, write_zero, write_add, write_head, write_succ, splice_one, splice_more, List.drop_nil, List.take_nil, cell_int, cell_bool, fillS, splice_one, idxA, Ex.isNormal, List.set_nil, List.length_set, List.all_cons, List.all_nil, Bool.and_self, and_self, true_and, and_true, List.getElem?_nil, Int.reduceLT, Int.reduceLE, Int.reduceToNat, Int.toNat_zero, Int.toNat_one, Int.reduceAdd, Int.reduceSub, Int.reduceMul, Int.reduceNeg, Int.reduceBEq, Int.reduceBNe, Int.reduceGE, Int.reduceGT, Nat.reduceLT, trim_keep, under_fn, under_ptr, under_sl, Nat.lt_irrefl, not_lt_add, trim_tail, keepOk, ABlk.vals, Int.cast_ofNat_Int, decide_true, decide_false, List.all_cons, List.all_nil, Nat.zero_mul, Nat.mul_one, Nat.one_mul, wl, hd, ix, hc, ht, hle, hK1s, cq, d1, d2, d3, d4, d6, w1, ix2, hc2, q1, d7, seqR_ret, outs_normal]
    exact ⟨aK1, exF2 rfl (.inr rfl)⟩
   ·have okv2 : okAt bl ar (l.take i) p = (!((l.take i).map (·.2)).contains p.2) := by rw [okv]; simp; intro; omega
    have d7 := decide_eq_false c6
    rw [lo]
    unfold l13x1
    simp -implicitDefEqProofs (maxSteps := 5000000) only [go_sem, Nat.reduceShiftRight, Nat.reduceAnd, Nat.reduceBNe, Int.reduceEq, Nat.reduceAdd, Nat.reduceSub, Nat.reduceMul, Nat.reduceLeDiff, reduceIte, reduceCtorEq, Nat.reduceBEq, Nat.reduceEqDiff, wrap64, runC_loop, runC_range, callF_fn, callV_fn, callV_yld, yield_eq, yieldBody, yieldRaw, roundMid, roundEnd, rangeEnd, Bool.not_not, put_cons, put_nil, trim_same, at_zero, at_add, set_zero, set_add, store_one, write_zero, write_add, write_head, write_succ, splice_one, splice_more, List.drop_nil, List.take_nil, cell_int, cell_bool, fillS, splice_one, idxA, Ex.isNormal, List.set_nil, List.length_set, List.all_cons, List.all_nil, Bool.and_self, and_self, true_and, and_true, List.getElem?_nil, Int.reduceLT, Int.reduceLE, Int.reduceToNat, Int.toNat_zero, Int.toNat_one, Int.reduceAdd, Int.reduceSub, Int.reduceMul, Int.reduceNeg, Int.reduceBEq, Int.reduceBNe, Int.reduceGE, Int.reduceGT, Nat.reduceLT, trim_keep, under_fn, under_ptr, under_sl, Nat.lt_irrefl, not_lt_add, trim_tail, keepOk, ABlk.vals, Int.cast_ofNat_Int, decide_true, decide_false, List.all_cons, List.all_nil, Nat.zero_mul, Nat.mul_one, Nat.one_mul, runC_loop, wl, hd, ix, hc, ht, hle, hK1s, cq, d1, d2, d3, d4, d6, w1, ix2, hc2, q1, d7]
    unfold LP1 at l0
    generalize (envL prog).loop (runC (envL prog) (l13x0 (envL prog))) = LL at l0 ⊢
    refine outs_ctx (fun x => seqR (seqR (blockR 1 (blockR 2 x)) _) _) (l0 _ _ _ _ _ _ _ _ _ _ _ _ _ _ _ _ _ _ _ _ _ _ _ _ _ _ _ _ _ _ _ _ _ _ _ _ _ _ _ _ _ _ _ _ _ _ _ _ _ _ _ _ _ _ _ _ _ _ _ _ _ _ _ (by omega)) ?_
    rintro e t K' ⟨rfl, fv, rfl, ⟨rfl, f6, ho⟩ | ⟨rfl, f6, ho⟩⟩
    ·have ok : okAt bl ar (l.take i) p = true := by rw [okv2, ho]; rfl
     rw [ok, ← tk0]
     simp only [Bool.true_and]
     simp -implicitDefEqProofs (maxSteps := 5000000) only [go_sem, Nat.reduceShiftRight, Nat.reduceAnd, Nat.reduceBNe, Int.reduceEq, Nat.reduceAdd, Nat.reduceSub, Nat.reduceMul, Nat.reduceLeDiff, reduceIte, reduceCtorEq, Nat.reduceBEq, Nat.reduceEqDiff, e2, f6]
     exact key _ _ _ _ _ _ _ _ _ _ _ _ _ _ _ _ _ _ _ _ _ _ _ _ _ _ _ _ _ _ _ _ _ _ _ _ _ _ _ _ _ _ _ _ _ _ _ _ _ _ _ _ _ _ _ _ _ _ _ _ aK1 (by omega)
    ·have ok : okAt bl ar (l.take i) p = false := by rw [okv2, ho]; rfl
     rw [ok]
     simp only [Bool.false_and]
     simp -implicitDefEqProofs (maxSteps := 5000000) only [go_sem, Nat.reduceShiftRight, Nat.reduceAnd, Nat.reduceBNe, Int.reduceEq, Nat.reduceAdd, Nat.reduceSub, Nat.reduceMul, Nat.reduceLeDiff, reduceIte, reduceCtorEq, Nat.reduceBEq, Nat.reduceEqDiff, seqR_ret, outs_normal]
     exact ⟨aK1, exF2 rfl (.inr ⟨f6, trivial⟩)⟩
theorem rgoodC : (envL prog).call 13 [v, .int .i64 bl, .int .i64 ar] H = some (.bool (tgood l bl ar), H) := by
 have l0 := rgoodL g hl bl ar (k := l.length) (i := 0) (K := H)
 rw [show ((0 : Nat) : Int) = 0 from rfl, List.drop_zero, List.take_zero] at l0
 have wl := g.len
 have key : Outs (runC (envL prog) (b13 (envL prog)) ([v, .int .i64 bl, .int .i64 ar] ++ List.replicate (68 - [v, AV.int .i64 bl, AV.int .i64 ar].length) .undef) H) fun e' t K => Adds H K ∧ fin [.tmp 6] (some (e', t, K)) = some (.bool (tgood l bl ar), K) := by
  unfold b13
  generalize hQ : (fun (e' : Ex) (t : T) (K : AHeap) => Adds H K ∧ fin [.tmp 6] (some (e', t, K)) = some (AV.bool (tgood l bl ar), K)) = Q
  simp -implicitDefEqProofs (maxSteps := 5000000) only [go_sem, Nat.reduceShiftRight, Nat.reduceAnd, Nat.reduceBNe, Int.reduceEq, Nat.reduceAdd, Nat.reduceSub, Nat.reduceMul, Nat.reduceLeDiff, reduceIte, reduceCtorEq, Nat.reduceBEq, Nat.reduceEqDiff, wrap64, runC_loop, runC_range, callF_fn, callV_fn, callV_yld, yield_eq, yieldBody, yieldRaw, roundMid, roundEnd, rangeEnd, Bool.not_not, put_cons, put_nil, trim_same, at_zero, at_add, set_zero, set_add, store_one, write_zero, write_add, write_head, write_succ, splice_one, splice_more, List.drop_nil, List.take_nil, cell_int, cell_bool, fillS, splice_one, idxA, Ex.isNormal, List.set_nil, List.length_set, List.all_cons, List.all_nil, Bool.and_self, and_self, true_and, and_true, List.getElem?_nil, Int.reduceLT, Int.reduceLE, Int.reduceToNat, Int.toNat_zero, Int.toNat_one, Int.reduceAdd, Int.reduceSub, Int.reduceMul, Int.reduceNeg, Int.reduceBEq, Int.reduceBNe, Int.reduceGE, Int.reduceGT, Nat.reduceLT, trim_keep, under_fn, under_ptr, under_sl, Nat.lt_irrefl, not_lt_add, trim_tail, keepOk, ABlk.vals, Int.cast_ofNat_Int, decide_true, decide_false, List.all_cons, List.all_nil, Nat.zero_mul, Nat.mul_one, Nat.one_mul, runC_loop, wl]
  unfold LP1 at l0
  generalize (envL prog).loop (runC (envL prog) (l13x1 (envL prog))) = L0 at l0 ⊢
  refine outs_ctx (fun r => seqR (blockR 0 r) _) (l0 _ _ _ _ _ _ _ _ _ _ _ _ _ _ _ _ _ _ _ _ _ _ _ _ _ _ _ _ _ _ _ _ _ _ _ _ _ _ _ _ _ _ _ _ _ _ _ _ _ _ _ _ _ _ _ _ _ _ _ _ _ _ _ (Adds.refl H) (by omega)) ?_
  rintro e t K ⟨aK, fv, rfl, ⟨rfl, ho⟩ | ⟨rfl, f6, ho⟩⟩
  ·have eg : tgood l bl ar = true := ho
   rw [eg] at hQ
   simp -implicitDefEqProofs (maxSteps := 5000000) only [go_sem, Nat.reduceShiftRight, Nat.reduceAnd, Nat.reduceBNe, Int.reduceEq, Nat.reduceAdd, Nat.reduceSub, Nat.reduceMul, Nat.reduceLeDiff, reduceIte, reduceCtorEq, Nat.reduceBEq, Nat.reduceEqDiff, outs_normal]
   subst hQ
   refine ⟨aK, ?_⟩
   simp -implicitDefEqProofs (maxSteps := 5000000) only [go_sem, Nat.reduceShiftRight, Nat.reduceAnd, Nat.reduceBNe, Int.reduceEq, Nat.reduceAdd, Nat.reduceSub, Nat.reduceMul, Nat.reduceLeDiff, reduceIte, reduceCtorEq, Nat.reduceBEq, Nat.reduceEqDiff]
  ·have eg : tgood l bl ar = false := ho
   rw [eg] at hQ
   simp -implicitDefEqProofs (maxSteps := 5000000) only [go_sem, Nat.reduceShiftRight, Nat.reduceAnd, Nat.reduceBNe, Int.reduceEq, Nat.reduceAdd, Nat.reduceSub, Nat.reduceMul, Nat.reduceLeDiff, reduceIte, reduceCtorEq, Nat.reduceBEq, Nat.reduceEqDiff, outs_normal]
   subst hQ
   refine ⟨aK, ?_⟩
   simp -implicitDefEqProofs (maxSteps := 5000000) only [go_sem, Nat.reduceShiftRight, Nat.reduceAnd, Nat.reduceBNe, Int.reduceEq, Nat.reduceAdd, Nat.reduceSub, Nat.reduceMul, Nat.reduceLeDiff, reduceIte, reduceCtorEq, Nat.reduceBEq, Nat.reduceEqDiff, f6]
 obtain ⟨e', t, K, hr, ⟨Y, rfl⟩, hf⟩ := key
 rw [c13, hr, hf]; exact trim_app rfl
end
end Go.Proofs.Ytekceggcbpeoeaa.G10
end
section
namespace Go.Proofs.Ytekceggcbpeoeaa.G10
open Go Go.Proofs.Ytekceggcbpeoeaa.Eng
def IsI (H : AHeap) (v : AV) (zs : List Int) : Prop := (v = .nilSl ∧ zs = []) ∨ ∃ b c ex, v = .sl b 0 1 zs.length c ex ∧ cellsOf H b = some (zs.map fun z => AV.int .i64 z)
theorem isI_len {H : AHeap} {v : AV} {zs : List Int} (g : IsI H v zs) : lenSl v = some (.int .i64 zs.length) := by
 rcases g with ⟨rfl, rfl⟩ | ⟨b, c, ex, rfl, _⟩ <;> rfl
theorem isI_idx {H : AHeap} {v : AV} {zs : List Int} (g : IsI H v zs) {i : Nat} {z : Int} (h : zs[i]? = some z) : ∃ b cs, idxAddrS 1 v (.int .i64 (i : Int)) = some (.ptr b i) ∧ cellsOf H b = some cs ∧ cs[i]? = some (.int .i64 z) := by
 have lt := (List.getElem?_eq_some_iff.1 h).1
 rcases g with ⟨_, rfl⟩ | ⟨b, c, ex, rfl, hc⟩
 ·simp at lt
 ·refine ⟨b, _, ?_, hc, get_map _ h⟩
  have := idx_nat b 1 zs.length c i ex .i64 (by omega) lt
  rwa [Nat.mul_one] at this
theorem FS.isI {H : AHeap} {B : Nat} {v : AV} {zs : List Int} (g : FS H B v zs) : IsI H v zs := by
 rcases g with ⟨h, rfl⟩ | ⟨_, b, _, rfl, h⟩
 ·exact .inl ⟨rfl, List.map_eq_nil_iff.1 h⟩
 ·refine .inr ⟨b, zs.length, false, by simp, ?_⟩
  have e : ∀ ys : List Int, (ys.map fun z => [AV.int .i64 z]).flatten = ys.map fun z => AV.int .i64 z := fun ys => by
   induction ys with
   | nil => rfl
   | cons z ys ih => rw [List.map_cons, List.flatten_cons, ih]; rfl
  rw [cells_rw h, e]
theorem IsI.adds {H H' : AHeap} {v : AV} {zs : List Int} (g : IsI H v zs) (a : Adds H H') : IsI H' v zs := by
 rcases g with h | ⟨b, c, ex, rfl, hc⟩
 ·exact .inl h
 ·exact .inr ⟨b, c, ex, rfl, a.cells hc⟩
section
variable {H : AHeap} {v w : AV} {l m : List Int} (g : IsI H v l) (f : IsI H w m) (hl : l.length ≤ 1000000)
include g f hl
set_option maxHeartbeats 4000000 in
theorem intsL (he : l.length = m.length) (x2 x3 x6 x7 x8 x9 x10 : AV) : ∀ (k i : Nat) (j11 j12 j13 j14 j15 j16 j17 j18 j19 j20 j21 j22 j23 j24 j25 : AV), i + k = l.length →
  Outs (LP1 l17x0 [v, w, x2, x3, .bool false, .int .i64 (i : Int), x6, x7, x8, x9, x10, j11, j12, j13, j14, j15, j16, j17, j18, j19, j20, j21, j22, j23, j24, j25] H) fun e t K => K = H ∧ ∃ fv : Nat → AV, t = [v, w, x2, x3, (fv 4), (fv 5), x6, x7, x8, x9, x10, (fv 11), (fv 12), (fv 13), (fv 14), (fv 15), (fv 16), (fv 17), (fv 18), (fv 19), (fv 20), (fv 21), (fv 22), (fv 23), (fv 24), (fv 25)] ∧ ((e = .exit 0 ∧ l.drop i = m.drop i) ∨ (e = .ret ∧ fv 4 = .bool false ∧ l.drop i ≠ m.drop i)) := by
 intro k
 obtain ⟨L0, hL0⟩ : ∃ L, L = LP1 l17x0 := ⟨_, rfl⟩
 have lo := loop_open hL0
 have wl := isI_len g
 rw [← hL0]
 induction k with
 | zero =>
  intro i j11 j12 j13 j14 j15 j16 j17 j18 j19 j20 j21 j22 j23 j24 j25 hi
  obtain rfl : i = l.length := by omega
  have hd : decide ((l.length : Int) < (l.length : Int)) = false := by simp
  rw [lo]
  unfold l17x0
  simp -implicitDefEqProofs (maxSteps := 5000000) only [go_sem, Nat.reduceShiftRight, Nat.reduceAnd, Nat.reduceBNe, Int.reduceEq, Nat.reduceAdd, Nat.reduceSub, Nat.reduceMul, Nat.reduceLeDiff, reduceIte, reduceCtorEq, Nat.reduceBEq, Nat.reduceEqDiff, wl, hd, seqR_exit', outs_normal]
  exact exF2 rfl (.inl (by rw [List.drop_length, he, List.drop_length]))
 | succ k ih =>
  intro i j11 j12 j13 j14 j15 j16 j17 j18 j19 j20 j21 j22 j23 j24 j25 hi
  have hlt : i < l.length := by omega
  have hlt2 : i < m.length := by omega
  have hd : decide ((i : Int) < (l.length : Int)) = true := decide_eq_true (by omega)
  have e2 : IntKind.i64.wrap ((i : Int) + 1) = ((i + 1 : Nat) : Int) := by rw [wrap64 (by omega) (by omega)]; omega
  have hx := List.getElem?_eq_getElem hlt
  have hy := List.getElem?_eq_getElem hlt2
  rw [List.drop_eq_getElem_cons hlt, List.drop_eq_getElem_cons hlt2]
  generalize l[i] = p at *
  generalize m[i] = q at *
  obtain ⟨bb, cs, ix, hc, ht⟩ := isI_idx g hx
  obtain ⟨bb2, cs2, ix2, hc2, ht2⟩ := isI_idx f hy
  rw [lo]
  unfold l17x0
  by_cases h : p = q
  ·have ne : (p != q) = false := by simp [h]
   simp -implicitDefEqProofs (maxSteps := 5000000) only [go_sem, Nat.reduceShiftRight, Nat.reduceAnd, Nat.reduceBNe, Int.reduceEq, Nat.reduceAdd, Nat.reduceSub, Nat.reduceMul, Nat.reduceLeDiff, reduceIte, reduceCtorEq, Nat.reduceBEq, Nat.reduceEqDiff, wrap64, runC_loop, runC_range, callF_fn, callV_fn, callV_yld, yield_eq, yieldBody, yieldRaw, roundMid, roundEnd, rangeEnd, Bool.not_not, put_cons, put_nil, trim_same, at_zero, at_add, set_zero, set_add, store_one, write_zero, write_add, write_head, write_succ, splice_one, splice_more, List.drop_nil, List.take_nil, cell_int, cell_bool, fillS, splice_one, idxA, Ex.isNormal, List.set_nil, List.length_set, List.all_cons, List.all_nil, Bool.and_self, and_self, true_and, and_true, List.getElem?_nil, Int.reduceLT, Int.reduceLE, Int.reduceToNat, Int.toNat_zero, Int.toNat_one, Int.reduceAdd, Int.reduceSub, Int.reduceMul, Int.reduceNeg, Int.reduceBEq, Int.reduceBNe, Int.reduceGE, Int.reduceGT, Nat.reduceLT, trim_keep, under_fn, under_ptr, under_sl, Nat.lt_irrefl, not_lt_add, trim_tail, keepOk, ABlk.vals, Int.cast_ofNat_Int, decide_true, decide_false, List.all_cons, List.all_nil, Nat.zero_mul, Nat.mul_one, Nat.one_mul, wl, hd, ix, hc, ht, ix2, hc2, ht2, ne, e2]
   refine (ih (i + 1) _ _ _ _ _ _ _ _ _ _ _ _ _ _ _ (by omega)).mono ?_
   rintro e t K ⟨h1, fv, h2, h3⟩
   refine ⟨h1, fv, h2, ?_⟩
   subst h
   rcases h3 with ⟨h3, h4⟩ | ⟨h3, h4, h5⟩
   ·exact .inl ⟨h3, by rw [h4]⟩
   ·exact .inr ⟨h3, h4, fun e => h5 (List.cons.inj e).2⟩
  ·have ne : (p != q) = true := by simp [h]
   simp -implicitDefEqProofs (maxSteps := 5000000) only [go_sem, Nat.reduceShiftRight, Nat.reduceAnd, Nat.reduceBNe, Int.reduceEq, Nat.reduceAdd, Nat.reduceSub, Nat.reduceMul, Nat.reduceLeDiff, reduceIte, reduceCtorEq, Nat.reduceBEq, Nat.reduceEqDiff, wrap64, runC_loop, runC_range, callF_fn, callV_fn, callV_yld, yield_eq, yieldBody, yieldRaw, roundMid, roundEnd, rangeEnd, Bool.not_not, put_cons, put_nil, trim_same, at_zero, at_add, set_zero, set_add, store_one, write_zero, write_add, write_head, write_succ, splice_one, splice_more, List.drop_nil, List.take_nil, cell_int, cell_bool, fillS, splice_one, idxA, Ex.isNormal, List.set_nil, List.length_set, List.all_cons, List.all_nil, Bool.and_self, and_self, true_and, and_true, List.getElem?_nil, Int.reduceLT, Int.reduceLE, Int.reduceToNat, Int.toNat_zero, Int.toNat_one, Int.reduceAdd, Int.reduceSub, Int.reduceMul, Int.reduceNeg, Int.reduceBEq, Int.reduceBNe, Int.reduceGE, Int.reduceGT, Nat.reduceLT, trim_keep, under_fn, under_ptr, under_sl, Nat.lt_irrefl, not_lt_add, trim_tail, keepOk, ABlk.vals, Int.cast_ofNat_Int, decide_true, decide_false, List.all_cons, List.all_nil, Nat.zero_mul, Nat.mul_one, Nat.one_mul, wl, hd, ix, hc, ht, ix2, hc2, ht2, ne, seqR_ret, outs_normal]
   exact exF2 rfl (.inr ⟨rfl, fun e => h (List.cons.inj e).1⟩)
theorem intsC : (envL prog).call 17 [v, w] H = some (.bool (decide (l = m)), H) := by
 have wl := isI_len g
 have wm := isI_len f
 by_cases he : l.length = m.length
 ·have l0 := intsL g f hl he (k := l.length) (i := 0)
  rw [show ((0 : Nat) : Int) = 0 from rfl, List.drop_zero, List.drop_zero] at l0
  have nn : ((l.length : Int) != (m.length : Int)) = false := by rw [he]; simp
  have key : Outs (runC (envL prog) (b17 (envL prog)) ([v, w] ++ List.replicate (26 - [v, w].length) .undef) H) fun e' t K => K = H ∧ fin [.tmp 4] (some (e', t, K)) = some (.bool (decide (l = m)), K) := by
   unfold b17
   generalize hQ : (fun (e' : Ex) (t : T) (K : AHeap) => K = H ∧ fin [.tmp 4] (some (e', t, K)) = some (AV.bool (decide (l = m)), K)) = Q
   simp -implicitDefEqProofs (maxSteps := 5000000) only [go_sem, Nat.reduceShiftRight, Nat.reduceAnd, Nat.reduceBNe, Int.reduceEq, Nat.reduceAdd, Nat.reduceSub, Nat.reduceMul, Nat.reduceLeDiff, reduceIte, reduceCtorEq, Nat.reduceBEq, Nat.reduceEqDiff, wrap64, runC_loop, runC_range, callF_fn, callV_fn, callV_yld, yield_eq, yieldBody, yieldRaw, roundMid, roundEnd, rangeEnd, Bool.not_not, put_cons, put_nil, trim_same, at_zero, at_add, set_zero, set_add, store_one, write_zero, write_add, write_head, write_succ, splice_one, splice_more, List.drop_nil, List.take_nil, cell_int, cell_bool, fillS, splice_one, idxA, Ex.isNormal, List.set_nil, List.length_set, List.all_cons, List.all_nil, Bool.and_self, and_self, true_and, and_true, List.getElem?_nil, Int.reduceLT, Int.reduceLE, Int.reduceToNat, Int.toNat_zero, Int.toNat_one, Int.reduceAdd, Int.reduceSub, Int.reduceMul, Int.reduceNeg, Int.reduceBEq, Int.reduceBNe, Int.reduceGE, Int.reduceGT, Nat.reduceLT, trim_keep, under_fn, under_ptr, under_sl, Nat.lt_irrefl, not_lt_add, trim_tail, keepOk, ABlk.vals, Int.cast_ofNat_Int, decide_true, decide_false, List.all_cons, List.all_nil, Nat.zero_mul, Nat.mul_one, Nat.one_mul, runC_loop, wl, wm, nn]
   unfold LP1 at l0
   generalize (envL prog).loop (runC (envL prog) (l17x0 (envL prog))) = L0 at l0 ⊢
   refine outs_ctx (fun r => seqR (blockR 0 r) _) (l0 _ _ _ _ _ _ _ _ _ _ _ _ _ _ _ _ _ _ _ _ _ _ (by omega)) ?_
   rintro e t K ⟨rfl, fv, rfl, ⟨rfl, ho⟩ | ⟨rfl, f4, ho⟩⟩
   ·simp -implicitDefEqProofs (maxSteps := 5000000) only [go_sem, Nat.reduceShiftRight, Nat.reduceAnd, Nat.reduceBNe, Int.reduceEq, Nat.reduceAdd, Nat.reduceSub, Nat.reduceMul, Nat.reduceLeDiff, reduceIte, reduceCtorEq, Nat.reduceBEq, Nat.reduceEqDiff, outs_normal]
    subst hQ
    rw [decide_eq_true ho]
    refine ⟨rfl, ?_⟩
    simp -implicitDefEqProofs (maxSteps := 5000000) only [go_sem, Nat.reduceShiftRight, Nat.reduceAnd, Nat.reduceBNe, Int.reduceEq, Nat.reduceAdd, Nat.reduceSub, Nat.reduceMul, Nat.reduceLeDiff, reduceIte, reduceCtorEq, Nat.reduceBEq, Nat.reduceEqDiff]
   ·simp -implicitDefEqProofs (maxSteps := 5000000) only [go_sem, Nat.reduceShiftRight, Nat.reduceAnd, Nat.reduceBNe, Int.reduceEq, Nat.reduceAdd, Nat.reduceSub, Nat.reduceMul, Nat.reduceLeDiff, reduceIte, reduceCtorEq, Nat.reduceBEq, Nat.reduceEqDiff, outs_normal]
    subst hQ
    rw [decide_eq_false ho]
    refine ⟨rfl, ?_⟩
    simp -implicitDefEqProofs (maxSteps := 5000000) only [go_sem, Nat.reduceShiftRight, Nat.reduceAnd, Nat.reduceBNe, Int.reduceEq, Nat.reduceAdd, Nat.reduceSub, Nat.reduceMul, Nat.reduceLeDiff, reduceIte, reduceCtorEq, Nat.reduceBEq, Nat.reduceEqDiff, f4]
  obtain ⟨e', t, K, hr, rfl, hf⟩ := key
  rw [c17, hr, hf]; exact trim_same rfl
 ·have nn : ((l.length : Int) != (m.length : Int)) = true := by simp; omega
  rw [decide_eq_false (fun e => he (by rw [e]))]
  rw [c17]
  unfold b17
  simp -implicitDefEqProofs (maxSteps := 5000000) only [go_sem, Nat.reduceShiftRight, Nat.reduceAnd, Nat.reduceBNe, Int.reduceEq, Nat.reduceAdd, Nat.reduceSub, Nat.reduceMul, Nat.reduceLeDiff, reduceIte, reduceCtorEq, Nat.reduceBEq, Nat.reduceEqDiff, wrap64, runC_loop, runC_range, callF_fn, callV_fn, callV_yld, yield_eq, yieldBody, yieldRaw, roundMid, roundEnd, rangeEnd, Bool.not_not, put_cons, put_nil, trim_same, at_zero, at_add, set_zero, set_add, store_one, write_zero, write_add, write_head, write_succ, splice_one, splice_more, List.drop_nil, List.take_nil, cell_int, cell_bool, fillS, splice_one, idxA, Ex.isNormal, List.set_nil, List.length_set, List.all_cons, List.all_nil, Bool.and_self, and_self, true_and, and_true, List.getElem?_nil, Int.reduceLT, Int.reduceLE, Int.reduceToNat, Int.toNat_zero, Int.toNat_one, Int.reduceAdd, Int.reduceSub, Int.reduceMul, Int.reduceNeg, Int.reduceBEq, Int.reduceBNe, Int.reduceGE, Int.reduceGT, Nat.reduceLT, trim_keep, under_fn, under_ptr, under_sl, Nat.lt_irrefl, not_lt_add, trim_tail, keepOk, ABlk.vals, Int.cast_ofNat_Int, decide_true, decide_false, List.all_cons, List.all_nil, Nat.zero_mul, Nat.mul_one, Nat.one_mul, wl, wm, nn]
end
noncomputable def X3 : Over := X2.up prog 10
theorem x3_ok : X3.Ok prog := up_ok goodP x2_ok _
theorem x3_call (f : Nat) (args : List AV) (h : AHeap) (em : (f == 10) = false) (e0 : (f == 15) = false) (e1 : (f == 21) = false) (e2 : (f == 25) = false) : (envX prog X3).call f args h = (envL prog).call f args h := by
 unfold X3 Over.up; rw [x_miss _ _ em, x2_call _ _ _ e0 e1 e2]
theorem x3_put {args : List AV} {h : AHeap} {r : AV × AHeap} (e : callBody prog (envX prog X1) 15 args h = some r) : (envX prog X3).call 15 args h = some r := by
 unfold X3 Over.up; rw [x_miss _ _ (by decide)]; exact x2_put e
theorem x3_merge {args : List AV} {h : AHeap} {r : AV × AHeap} (e : callBody prog (envX prog X2) 10 args h = some r) : (envX prog X3).call 10 args h = some r := x_hit e
set_option maxHeartbeats 8000000 in
theorem wakesC : ∃ h1, callBody prog (envX prog X3) 7 [] [] = some (.bool true, h1) := by
 obtain ⟨v1, K1, e1, a1, g1⟩ := putC (H := [.rw [.int .i64 1, .int .i64 4, .int .i64 5, .int .i64 2]]) (v := .sl 0 0 2 2 2 true) (l := [(1, 4), (5, 2)]) (.inr ⟨0, 2, true, rfl, by decide, rfl⟩) (by decide) 3 7
 have e1 := x3_put e1
 rw [show tput [(1, 4), (5, 2)] 3 7 = [(1, 4), (3, 7), (5, 2)] by decide] at g1
 have A1 : Adds K1 (K1 ++ [ABlk.rw [.int .i64 3, .int .i64 9, .int .i64 4, .int .i64 8]]) := ⟨_, rfl⟩
 obtain ⟨v2, v3, K2, e2, a2, g2, g3⟩ := mergeC (H := K1 ++ [ABlk.rw [.int .i64 3, .int .i64 9, .int .i64 4, .int .i64 8]]) (g1.isP.adds A1) (by decide) (vb := .sl K1.length 0 2 2 2 true) (lb := [(3, 9), (4, 8)]) (.inr ⟨K1.length, 2, true, rfl, by decide, by unfold cellsOf; simp; rfl⟩) (by decide)
 have e2 := x3_merge e2
 rw [show tmerge [(1, 4), (3, 7), (5, 2)] [(3, 9), (4, 8)] [(1, 4), (3, 7), (5, 2)] [] = ([(1, 4), (3, 7), (4, 8), (5, 2)], [9]) by decide] at g2 g3
 simp only at g2 g3
 have p1 := (g1.isP.adds A1).adds a2
 have e3 := findC p1 (by decide) 3
 have e3 : (envL prog).call 8 [v1, .int .i64 3] K2 = some (.tup [.int .i64 7, .bool true], K2) := e3
 have l1 := p1.len
 have l2 := g2.isP.len
 obtain ⟨b1, cs1, _, ix1, hc1, q1, _, _, _⟩ := p1.idx (i := 1) (p := (3, 7)) rfl
 obtain ⟨b2, cs2, _, ix2, hc2, q2, _, _, _⟩ := g2.isP.idx (i := 2) (p := (4, 8)) rfl
 have A3 : Adds K2 (K2 ++ [ABlk.rw [.int .i64 9]]) := ⟨_, rfl⟩
 have e4 := intsC (H := K2 ++ [ABlk.rw [.int .i64 9]]) (g3.isI.adds A3) (w := .sl K2.length 0 1 1 1 true) (m := [9]) (.inr ⟨K2.length, 1, true, rfl, by unfold cellsOf; simp⟩) (by decide)
 have e5 := goodC (g2.isP.adds A3) (by decide) 6 9
 have e6 := goodC (g2.isP.adds A3) (by decide) 5 9
 rw [show tgood [(1, 4), (3, 7), (4, 8), (5, 2)] 6 9 = true by decide] at e5
 rw [show tgood [(1, 4), (3, 7), (4, 8), (5, 2)] 5 9 = false by decide] at e6
 rw [show decide (([9] : List Int) = [9]) = true by decide] at e4
 rw [show (((1 : Nat)) : Int) = 1 from rfl] at ix1
 rw [show (((2 : Nat)) : Int) = 2 from rfl] at ix2
 simp only [List.length_cons, List.length_nil] at l1 l2
 simp only [Nat.reduceAdd, Nat.reduceMul, show ((3 : Nat) : Int) = 3 from rfl, show ((4 : Nat) : Int) = 4 from rfl] at l1 l2 ix1 ix2 q1 q2
 rw [d7]
 unfold b7
 have key : Outs (runC (envX prog X3) (b7 (envX prog X3)) ([] ++ List.replicate (66 - ([] : List AV).length) .undef) []) fun e t h1 => fin [.tmp 0] (some (e, t, h1)) = some (AV.bool true, h1) := by
  unfold b7
  generalize hQ : (fun (e : Ex) (t : T) (h1 : AHeap) => fin [.tmp 0] (some (e, t, h1)) = some (AV.bool true, h1)) = Q
  simp -implicitDefEqProofs (maxSteps := 5000000) only [go_sem, Nat.reduceShiftRight, Nat.reduceAnd, Nat.reduceBNe, Int.reduceEq, Nat.reduceAdd, Nat.reduceSub, Nat.reduceMul, Nat.reduceLeDiff, reduceIte, reduceCtorEq, Nat.reduceBEq, Nat.reduceEqDiff, wrap64, runC_loop, runC_range, callF_fn, callV_fn, callV_yld, yield_eq, yieldBody, yieldRaw, roundMid, roundEnd, rangeEnd, Bool.not_not, put_cons, put_nil, trim_same, at_zero, at_add, set_zero, set_add, store_one, write_zero, write_add, write_head, write_succ, splice_one, splice_more, List.drop_nil, List.take_nil, cell_int, cell_bool, fillS, splice_one, idxA, Ex.isNormal, List.set_nil, List.length_set, List.all_cons, List.all_nil, Bool.and_self, and_self, true_and, and_true, List.getElem?_nil, Int.reduceLT, Int.reduceLE, Int.reduceToNat, Int.toNat_zero, Int.toNat_one, Int.reduceAdd, Int.reduceSub, Int.reduceMul, Int.reduceNeg, Int.reduceBEq, Int.reduceBNe, Int.reduceGE, Int.reduceGT, Nat.reduceLT, trim_keep, under_fn, under_ptr, under_sl, Nat.lt_irrefl, not_lt_add, trim_tail, keepOk, ABlk.vals, Int.cast_ofNat_Int, decide_true, decide_false, List.all_cons, List.all_nil, Nat.zero_mul, Nat.mul_one, Nat.one_mul, x3_call, e1, e2, e3, l1, ix1, hc1, q1, l2, ix2, hc2, q2, e4, e5, e6, outs_normal]
  subst hQ
  simp -implicitDefEqProofs (maxSteps := 5000000) only [go_sem, Nat.reduceShiftRight, Nat.reduceAnd, Nat.reduceBNe, Int.reduceEq, Nat.reduceAdd, Nat.reduceSub, Nat.reduceMul, Nat.reduceLeDiff, reduceIte, reduceCtorEq, Nat.reduceBEq, Nat.reduceEqDiff]
 unfold b7 at key
 exact of_outs key
end Go.Proofs.Ytekceggcbpeoeaa.G10
end
