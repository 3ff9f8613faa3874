/- What the functions that TableFinds reaches answer, for every argument. No condition but those in each statement. -/
import Derived.Test.YtekceggcbpeoeaaBD
set_option linter.unusedSimpArgs false
set_option linter.unusedVariables false
set_option linter.unusedSectionVars false
set_option maxRecDepth 10000
namespace Go.Proofs.Ytekceggcbpeoeaa.G10
open Go Go.Proofs.Ytekceggcbpeoeaa.Eng
section
variable {H : AHeap} {v : AV} {l : List PrS} (g : IsP H v l) (hl : l.length ≤ 1000)
include g hl
set_option maxHeartbeats 4000000 in
theorem findsL (x1 x2 x3 x9 x10 x11 x12 x13 x14 x15 x16 x17 x18 x19 x20 x50 x51 x52 x53 x54 x55 x56 x57 x58 x59 x60 x61 x62 x63 x64 x65 x66 x67 x68 x69 x70 x71 x72 x73 x74 x75 x76 x77 x78 x79 x80 x81 x82 x83 x84 x85 x86 x87 x88 x89 x90 x91 x92 : AV) : ∀ (k : Nat) (b : Int) (j4 j6 j7 j8 j21 j22 j23 j24 j25 j26 j27 j28 j29 j30 j31 j32 j33 j34 j35 j36 j37 j38 j39 j40 j41 j42 j43 j44 j45 j46 j47 j48 j49 : AV), b + k = 65 → -1 ≤ b →
  Outs (LZ l6x0 [v, x1, x2, x3, j4, .int .i64 b, j6, j7, j8, x9, x10, x11, x12, x13, x14, x15, x16, x17, x18, x19, x20, j21, j22, j23, j24, j25, j26, j27, j28, j29, j30, j31, j32, j33, j34, j35, j36, j37, j38, j39, j40, j41, j42, j43, j44, j45, j46, j47, j48, j49, x50, x51, x52, x53, x54, x55, x56, x57, x58, x59, x60, x61, x62, x63, x64, x65, x66, x67, x68, x69, x70, x71, x72, x73, x74, x75, x76, x77, x78, x79, x80, x81, x82, x83, x84, x85, x86, x87, x88, x89, x90, x91, x92] H) fun e t K => K = H ∧ e = .exit 0 ∧ ∃ fv : Nat → AV, t = [v, x1, x2, x3, (fv 4), (fv 5), (fv 6), (fv 7), (fv 8), x9, x10, x11, x12, x13, x14, x15, x16, x17, x18, x19, x20, (fv 21), (fv 22), (fv 23), (fv 24), (fv 25), (fv 26), (fv 27), (fv 28), (fv 29), (fv 30), (fv 31), (fv 32), (fv 33), (fv 34), (fv 35), (fv 36), (fv 37), (fv 38), (fv 39), (fv 40), (fv 41), (fv 42), (fv 43), (fv 44), (fv 45), (fv 46), (fv 47), (fv 48), (fv 49), x50, x51, x52, x53, x54, x55, x56, x57, x58, x59, x60, x61, x62, x63, x64, x65, x66, x67, x68, x69, x70, x71, x72, x73, x74, x75, x76, x77, x78, x79, x80, x81, x82, x83, x84, x85, x86, x87, x88, x89, x90, x91, x92] := by
 intro k
 obtain ⟨L0, hL0⟩ : ∃ L, L = LZ l6x0 := ⟨_, rfl⟩
 have lo := loop_open hL0
 rw [← hL0]
 induction k with
 | zero =>
  intro b j4 j6 j7 j8 j21 j22 j23 j24 j25 j26 j27 j28 j29 j30 j31 j32 j33 j34 j35 j36 j37 j38 j39 j40 j41 j42 j43 j44 j45 j46 j47 j48 j49 hi hb
  have hd : decide (b ≤ 64) = false := decide_eq_false (by omega)
  rw [lo]
  unfold l6x0
  simp -implicitDefEqProofs (maxSteps := 5000000) only [go_sem, Nat.reduceShiftRight, Nat.reduceAnd, Nat.reduceBNe, Int.reduceEq, Nat.reduceAdd, Nat.reduceSub, Nat.reduceMul, Nat.reduceLeDiff, reduceIte, reduceCtorEq, Nat.reduceBEq, Nat.reduceEqDiff, hd, seqR_exit', outs_normal]
  exact exF rfl
 | succ k ih =>
  intro b j4 j6 j7 j8 j21 j22 j23 j24 j25 j26 j27 j28 j29 j30 j31 j32 j33 j34 j35 j36 j37 j38 j39 j40 j41 j42 j43 j44 j45 j46 j47 j48 j49 hi hb
  have hd : decide (b ≤ 64) = true := decide_eq_true (by omega)
  have e2 : IntKind.i64.wrap (b + 1) = b + 1 := wrap64 (by omega) (by omega)
  have ef := findF g (by omega) b
  have er := rfindC g (by omega) b
  have nb2 : ∀ q : Bool, (q != q) = false := fun q => by cases q <;> rfl
  have nn : ∀ q : Int, (q != q) = false := fun q => by simp
  have key := fun j4 j6 j7 j8 j21 j22 j23 j24 j25 j26 j27 j28 j29 j30 j31 j32 j33 j34 j35 j36 j37 j38 j39 j40 j41 j42 j43 j44 j45 j46 j47 j48 j49 => ih (b + 1) j4 j6 j7 j8 j21 j22 j23 j24 j25 j26 j27 j28 j29 j30 j31 j32 j33 j34 j35 j36 j37 j38 j39 j40 j41 j42 j43 j44 j45 j46 j47 j48 j49
  rw [lo]
  unfold l6x0
  rcases idxS_rng l b with hq | ⟨hq1, hq2⟩
  ·rw [hq] at ef er
   rw [show decide ((0 : Int) ≤ -1) = false from rfl] at ef
   have dg : decide ((-1 : Int) ≥ 0) = false := rfl
   simp -implicitDefEqProofs (maxSteps := 5000000) only [go_sem, Nat.reduceShiftRight, Nat.reduceAnd, Nat.reduceBNe, Int.reduceEq, Nat.reduceAdd, Nat.reduceSub, Nat.reduceMul, Nat.reduceLeDiff, reduceIte, reduceCtorEq, Nat.reduceBEq, Nat.reduceEqDiff, wrap64, runC_loop, runC_range, callF_fn, callV_fn, callV_yld, yield_eq, yieldBody, yieldRaw, roundMid, roundEnd, rangeEnd, Bool.not_not, put_cons, put_nil, trim_same, at_zero, at_add, set_zero, set_add, store_one, write_zero, write_add, write_head, write_succ, splice_one, splice_more, List.drop_nil, List.take_nil, cell_int, cell_bool, fillS, splice_one, idxA, Ex.isNormal, List.set_nil, List.length_set, List.all_cons, List.all_nil, Bool.and_self, and_self, true_and, and_true, List.getElem?_nil, Int.reduceLT, Int.reduceLE, Int.reduceToNat, Int.toNat_zero, Int.toNat_one, Int.reduceAdd, Int.reduceSub, Int.reduceMul, Int.reduceNeg, Int.reduceBEq, Int.reduceBNe, Int.reduceGE, Int.reduceGT, Nat.reduceLT, trim_keep, under_fn, under_ptr, under_sl, Nat.lt_irrefl, not_lt_add, trim_tail, keepOk, ABlk.vals, Int.cast_ofNat_Int, decide_true, decide_false, List.all_cons, List.all_nil, Nat.zero_mul, Nat.mul_one, Nat.one_mul, idx_arr, x4_call, hd, ef, er, dg, nb2, nn, e2]
   exact key _ _ _ _ _ _ _ _ _ _ _ _ _ _ _ _ _ _ _ _ _ _ _ _ _ _ _ _ _ _ _ _ _ (by omega) (by omega)
  ·obtain ⟨i, hi⟩ : ∃ i : Nat, idxS l b = i := ⟨(idxS l b).toNat, by omega⟩
   have il : i < l.length := by omega
   have hx := List.getElem?_eq_getElem il
   have fe : fnd l b = (l[i]).2 := by unfold fnd; rw [hi, if_pos (by omega), Int.toNat_natCast, hx]; rfl
   rw [hi] at ef er
   rw [fe, decide_eq_true (show (0 : Int) ≤ (i : Int) by omega)] at ef
   obtain ⟨bx, cs, _, ix, hc, _, r2, _, _⟩ := g.idx hx
   have dg : decide ((i : Int) ≥ 0) = true := decide_eq_true (by omega)
   simp -implicitDefEqProofs (maxSteps := 5000000) only [go_sem, Nat.reduceShiftRight, Nat.reduceAnd, Nat.reduceBNe, Int.reduceEq, Nat.reduceAdd, Nat.reduceSub, Nat.reduceMul, Nat.reduceLeDiff, reduceIte, reduceCtorEq, Nat.reduceBEq, Nat.reduceEqDiff, wrap64, runC_loop, runC_range, callF_fn, callV_fn, callV_yld, yield_eq, yieldBody, yieldRaw, roundMid, roundEnd, rangeEnd, Bool.not_not, put_cons, put_nil, trim_same, at_zero, at_add, set_zero, set_add, store_one, write_zero, write_add, write_head, write_succ, splice_one, splice_more, List.drop_nil, List.take_nil, cell_int, cell_bool, fillS, splice_one, idxA, Ex.isNormal, List.set_nil, List.length_set, List.all_cons, List.all_nil, Bool.and_self, and_self, true_and, and_true, List.getElem?_nil, Int.reduceLT, Int.reduceLE, Int.reduceToNat, Int.toNat_zero, Int.toNat_one, Int.reduceAdd, Int.reduceSub, Int.reduceMul, Int.reduceNeg, Int.reduceBEq, Int.reduceBNe, Int.reduceGE, Int.reduceGT, Nat.reduceLT, trim_keep, under_fn, under_ptr, under_sl, Nat.lt_irrefl, not_lt_add, trim_tail, keepOk, ABlk.vals, Int.cast_ofNat_Int, decide_true, decide_false, List.all_cons, List.all_nil, Nat.zero_mul, Nat.mul_one, Nat.one_mul, idx_arr, x4_call, hd, ef, er, dg, nb2, nn, e2, ix, hc, r2]
   exact key _ _ _ _ _ _ _ _ _ _ _ _ _ _ _ _ _ _ _ _ _ _ _ _ _ _ _ _ _ _ _ _ _ (by omega) (by omega)
end
structure Split (l m r : List PrS) : Prop where
 up : asc l
 um : asc m
 ur : asc r
 all : ∀ p, p ∈ l ↔ p ∈ m ∨ p ∈ r
 len : m.length ≤ 1000
theorem split_next {l m r : List PrS} (s : Split l m r) {i : Nat} (hi : i < r.length) (hl : m.length + r.length ≤ 1000) : Split l (tput m r[i].1 r[i].2) (r.take i ++ r.drop (i + 1)) := by
 obtain ⟨t1, t2, t3⟩ := tput_mem s.um r[i].1 r[i].2
 have e1 : r = r.take i ++ r[i] :: r.drop (i + 1) := by rw [← List.drop_eq_getElem_cons hi, List.take_append_drop]
 have hm : ∀ p, p ∈ r ↔ p = r[i] ∨ p ∈ r.take i ++ r.drop (i + 1) := fun p => by
  conv => lhs; rw [e1]
  rw [List.mem_append, List.mem_cons, List.mem_append]
  constructor
  ·rintro (h | h | h)
   ·exact .inr (.inl h)
   ·exact .inl h
   ·exact .inr (.inr h)
  ·rintro (h | h | h)
   ·exact .inr (.inl h)
   ·exact .inl h
   ·exact .inr (.inr h)
 have ur := s.ur
 rw [e1] at ur
 obtain ⟨u1, u2, u3⟩ := asc_app.1 ur
 obtain ⟨u4, u5⟩ := asc_cons.1 u2
 have hri : r[i] ∈ r := List.getElem_mem hi
 refine ⟨s.up, t1, asc_app.2 ⟨u1, u5, fun p hp q hq => u3 p hp q (List.mem_cons_of_mem _ hq)⟩, fun p => ?_, ?_⟩
 ·rw [s.all, t2, hm]
  constructor
  ·rintro (h | h | h)
   ·by_cases e : p.1 = r[i].1
    ·exact .inl (.inl (asc_inj s.up p ((s.all p).2 (.inl h)) _ ((s.all _).2 (.inr hri)) e))
    ·exact .inl (.inr ⟨h, e⟩)
   ·exact .inl (.inl h)
   ·exact .inr h
  ·rintro ((h | ⟨h, _⟩) | h)
   ·exact .inr (.inl h)
   ·exact .inl h
   ·exact .inr (.inr h)
 ·have := tput_len m r[i].1 r[i].2; omega
section
variable {H : AHeap} {l : List PrS}
set_option maxHeartbeats 8000000 in
theorem findsL1 {sd : Nat} (hsd : sd ≤ 255) (x0 x2 x3 x4 x5 x6 x7 x8 x12 x13 x14 x15 x16 x17 x18 x19 x20 x21 x22 x23 x24 x25 x26 x27 x28 x29 x30 x31 x32 x33 x34 x35 x36 x37 x38 x39 x40 x41 x42 x43 x44 x45 x46 x47 x48 x49 x50 x51 x52 x83 x84 x85 x86 x87 x88 x89 x90 x91 x92 : AV) : ∀ (k : Nat) (K : AHeap) (v9 v10 : AV) (m r : List PrS) (j11 j53 j54 j55 j56 j57 j58 j59 j60 j61 j62 j63 j64 j65 j66 j67 j68 j69 j70 j71 j72 j73 j74 j75 j76 j77 j78 j79 j80 j81 j82 : AV), Adds H K → IsP K v9 m → IsP K v10 r → Split l m r → m.length + r.length ≤ 1000 → r.length = k →
  Outs (LZ l6x1 [x0, .int .u8 (sd : Int), x2, x3, x4, x5, x6, x7, x8, v9, v10, j11, x12, x13, x14, x15, x16, x17, x18, x19, x20, x21, x22, x23, x24, x25, x26, x27, x28, x29, x30, x31, x32, x33, x34, x35, x36, x37, x38, x39, x40, x41, x42, x43, x44, x45, x46, x47, x48, x49, x50, x51, x52, j53, j54, j55, j56, j57, j58, j59, j60, j61, j62, j63, j64, j65, j66, j67, j68, j69, j70, j71, j72, j73, j74, j75, j76, j77, j78, j79, j80, j81, j82, x83, x84, x85, x86, x87, x88, x89, x90, x91, x92] K) fun e t K' => e = .exit 2 ∧ Adds H K' ∧ ∃ fv : Nat → AV, t = [x0, .int .u8 (sd : Int), x2, x3, x4, x5, x6, x7, x8, (fv 9), (fv 10), (fv 11), x12, x13, x14, x15, x16, x17, x18, x19, x20, x21, x22, x23, x24, x25, x26, x27, x28, x29, x30, x31, x32, x33, x34, x35, x36, x37, x38, x39, x40, x41, x42, x43, x44, x45, x46, x47, x48, x49, x50, x51, x52, (fv 53), (fv 54), (fv 55), (fv 56), (fv 57), (fv 58), (fv 59), (fv 60), (fv 61), (fv 62), (fv 63), (fv 64), (fv 65), (fv 66), (fv 67), (fv 68), (fv 69), (fv 70), (fv 71), (fv 72), (fv 73), (fv 74), (fv 75), (fv 76), (fv 77), (fv 78), (fv 79), (fv 80), (fv 81), (fv 82), x83, x84, x85, x86, x87, x88, x89, x90, x91, x92] ∧ IsP K' (fv 9) l := by
 intro k
 obtain ⟨L0, hL0⟩ : ∃ L, L = LZ l6x1 := ⟨_, rfl⟩
 have lo := loop_open hL0
 rw [← hL0]
 induction k with
 | zero =>
  intro K v9 v10 m r j11 j53 j54 j55 j56 j57 j58 j59 j60 j61 j62 j63 j64 j65 j66 j67 j68 j69 j70 j71 j72 j73 j74 j75 j76 j77 j78 j79 j80 j81 j82 aK g9 g10 s hb hi
  obtain rfl := List.length_eq_zero_iff.1 hi
  have wr := g10.len
  rw [List.length_nil, show ((0 : Nat) : Int) = 0 from rfl] at wr
  obtain rfl : l = m := asc_uniq s.up s.um fun p => by rw [s.all]; simp
  rw [lo]
  unfold l6x1
  simp -implicitDefEqProofs (maxSteps := 5000000) only [go_sem, Nat.reduceShiftRight, Nat.reduceAnd, Nat.reduceBNe, Int.reduceEq, Nat.reduceAdd, Nat.reduceSub, Nat.reduceMul, Nat.reduceLeDiff, reduceIte, reduceCtorEq, Nat.reduceBEq, Nat.reduceEqDiff, wrap64, runC_loop, runC_range, callF_fn, callV_fn, callV_yld, yield_eq, yieldBody, yieldRaw, roundMid, roundEnd, rangeEnd, Bool.not_not, put_cons, put_nil, trim_same, at_zero, at_add, set_zero, set_add, store_one, write_zero, write_add, write_head, write_succ, splice_one, splice_more, List.drop_nil, List.take_nil, cell_int, cell_bool, fillS, splice_one, idxA, Ex.isNormal, List.set_nil, List.length_set, List.all_cons, List.all_nil, Bool.and_self, and_self, true_and, and_true, List.getElem?_nil, Int.reduceLT, Int.reduceLE, Int.reduceToNat, Int.toNat_zero, Int.toNat_one, Int.reduceAdd, Int.reduceSub, Int.reduceMul, Int.reduceNeg, Int.reduceBEq, Int.reduceBNe, Int.reduceGE, Int.reduceGT, Nat.reduceLT, trim_keep, under_fn, under_ptr, under_sl, Nat.lt_irrefl, not_lt_add, trim_tail, keepOk, ABlk.vals, Int.cast_ofNat_Int, decide_true, decide_false, List.all_cons, List.all_nil, Nat.zero_mul, Nat.mul_one, Nat.one_mul, wr, seqR_exit', outs_normal]
  exact ⟨aK, exF2 rfl g9⟩
 | succ k ih =>
  intro K v9 v10 m r j11 j53 j54 j55 j56 j57 j58 j59 j60 j61 j62 j63 j64 j65 j66 j67 j68 j69 j70 j71 j72 j73 j74 j75 j76 j77 j78 j79 j80 j81 j82 aK g9 g10 s hb hi
  have wr := g10.len
  rw [hi] at wr
  have hd : decide (((k + 1 : Nat) : Int) > 0) = true := decide_eq_true (by omega)
  have wsd : IntKind.i64.wrap (sd : Int) = (sd : Int) := wrap64 (by omega) (by omega)
  have rm := int_rem .none .i64 (sd : Int) ((k + 1 : Nat) : Int) (by omega)
  rw [← Int.ofNat_tmod] at rm
  obtain ⟨i, hir⟩ : ∃ i, sd % (k + 1) = i := ⟨_, rfl⟩
  have ilt : i < r.length := by rw [hi, ← hir]; exact Nat.mod_lt _ (by omega)
  rw [hir] at rm
  try rw [wrap64 (a := (i : Int)) (by omega) (by omega)] at rm
  have hx := List.getElem?_eq_getElem ilt
  have sn := split_next s ilt hb
  have tl := tput_len m r[i].1 r[i].2
  obtain ⟨bb, cs, sb, ix, hc, h1, h2, ht, hle⟩ := g10.idx hx
  obtain ⟨v9', K1, ep, A1, gm⟩ := putC g9 (by omega) r[i].1 r[i].2
  have ep := x4_put ep
  generalize r[i] = p at *
  have g10' := g10.adds A1
  obtain ⟨y, ey, yf⟩ := isP_to g10' (Nat.le_of_lt ilt)
  obtain ⟨z, ez, zf⟩ := isP_from g10' (k := i + 1) ilt
  have lt := g10'.lt
  have e2 : IntKind.i64.wrap ((i : Int) + 1) = ((i + 1 : Nat) : Int) := by rw [wrap64 (by omega) (by omega)]; omega
  have hr : (roomy : Nat) = 140737488355328 := rfl
  have g0 : Gp (K1 ++ [.rw []]) K1.length (.sl K1.length 0 2 0 0 true) [] := .inr (.inl ⟨rfl, K1.length, Nat.le_refl _, rfl, by simp⟩)
  have lt1 : (r.take i).length + (r.drop (i + 1)).length + 1 = r.length := by rw [List.length_take, List.length_drop]; omega
  obtain ⟨w1, K2, ea1, gk, fr, _, _⟩ := gp_app g0 (by simp) (yf _ ⟨[.rw []], rfl⟩).1 (yf _ ⟨[.rw []], rfl⟩).2 (by rw [List.length_nil]; omega)
  rw [List.nil_append] at gk
  have A2 : Adds K1 K2 := fr.old ⟨_, rfl⟩ fun x hx h => by (injection h with h; omega)
  obtain ⟨zl, zc2⟩ := zf K2 A2
  obtain ⟨w2, K3, ea2, gk3, fr3, _, _⟩ := gp_app (gk.low (Nat.le_refl _)) A2.len zl zc2 (by omega)
  have A3 : Adds K1 K3 := fr3.old A2 fun x hx h => by have := (gk.out x h).1; omega
  have key := fun j11 j53 j54 j55 j56 j57 j58 j59 j60 j61 j62 j63 j64 j65 j66 j67 j68 j69 j70 j71 j72 j73 j74 j75 j76 j77 j78 j79 j80 j81 j82 => ih K3 v9' w2 (tput m p.1 p.2) (r.take i ++ r.drop (i + 1)) j11 j53 j54 j55 j56 j57 j58 j59 j60 j61 j62 j63 j64 j65 j66 j67 j68 j69 j70 j71 j72 j73 j74 j75 j76 j77 j78 j79 j80 j81 j82 ((aK.trans A1).trans A3) (gm.isP.adds A3) gk3.isP sn (by rw [List.length_append]; omega) (by rw [List.length_append]; omega)
  have c9 := gm.isP.cell
  rw [lo]
  unfold l6x1
  simp -implicitDefEqProofs (maxSteps := 5000000) only [go_sem, Nat.reduceShiftRight, Nat.reduceAnd, Nat.reduceBNe, Int.reduceEq, Nat.reduceAdd, Nat.reduceSub, Nat.reduceMul, Nat.reduceLeDiff, reduceIte, reduceCtorEq, Nat.reduceBEq, Nat.reduceEqDiff, wrap64, runC_loop, runC_range, callF_fn, callV_fn, callV_yld, yield_eq, yieldBody, yieldRaw, roundMid, roundEnd, rangeEnd, Bool.not_not, put_cons, put_nil, trim_same, at_zero, at_add, set_zero, set_add, store_one, write_zero, write_add, write_head, write_succ, splice_one, splice_more, List.drop_nil, List.take_nil, cell_int, cell_bool, fillS, splice_one, idxA, Ex.isNormal, List.set_nil, List.length_set, List.all_cons, List.all_nil, Bool.and_self, and_self, true_and, and_true, List.getElem?_nil, Int.reduceLT, Int.reduceLE, Int.reduceToNat, Int.toNat_zero, Int.toNat_one, Int.reduceAdd, Int.reduceSub, Int.reduceMul, Int.reduceNeg, Int.reduceBEq, Int.reduceBNe, Int.reduceGE, Int.reduceGT, Nat.reduceLT, trim_keep, under_fn, under_ptr, under_sl, Nat.lt_irrefl, not_lt_add, trim_tail, keepOk, ABlk.vals, Int.cast_ofNat_Int, decide_true, decide_false, List.all_cons, List.all_nil, Nat.zero_mul, Nat.mul_one, Nat.one_mul, idx_arr, hd, wr, wsd, rm, ix, hc, h1, h2, ep, ey, ez, e2, ea1, ea2]
  exact key _ _ _ _ _ _ _ _ _ _ _ _ _ _ _ _ _ _ _ _ _ _ _ _ _ _ _ _ _ _ _
end
set_option maxHeartbeats 16000000 in
theorem tableFinds (v : AV) (sd : Int) (k0 : 0 ≤ sd ∧ sd ≤ 255) (h : AHeap) (d : DatC h (.sl [.int .i64, .int .i64]) v) : ∃ h', callBody prog (envX prog X4) 6 [v, .int .u8 sd] h = some (.bool true, h') := by
 obtain ⟨l, pl, nl, _⟩ := pairs_isP d
 obtain ⟨sn, rfl⟩ : ∃ n : Nat, sd = n := ⟨sd.toNat, by omega⟩
 rw [d6]
 refine of_outs ?_
 unfold b6
 generalize hQ : (fun (e : Ex) (t : T) (h1 : AHeap) => fin [.tmp 4] (some (e, t, h1)) = some (AV.bool true, h1)) = Q
 have wl := pl.len
 by_cases h1 : (l.length : Int) > 40
 ·have d1 := decide_eq_true h1
  simp -implicitDefEqProofs (maxSteps := 5000000) only [go_sem, Nat.reduceShiftRight, Nat.reduceAnd, Nat.reduceBNe, Int.reduceEq, Nat.reduceAdd, Nat.reduceSub, Nat.reduceMul, Nat.reduceLeDiff, reduceIte, reduceCtorEq, Nat.reduceBEq, Nat.reduceEqDiff, wrap64, runC_loop, runC_range, callF_fn, callV_fn, callV_yld, yield_eq, yieldBody, yieldRaw, roundMid, roundEnd, rangeEnd, Bool.not_not, put_cons, put_nil, trim_same, at_zero, at_add, set_zero, set_add, store_one, write_zero, write_add, write_head, write_succ, splice_one, splice_more, List.drop_nil, List.take_nil, cell_int, cell_bool, fillS, splice_one, idxA, Ex.isNormal, List.set_nil, List.length_set, List.all_cons, List.all_nil, Bool.and_self, and_self, true_and, and_true, List.getElem?_nil, Int.reduceLT, Int.reduceLE, Int.reduceToNat, Int.toNat_zero, Int.toNat_one, Int.reduceAdd, Int.reduceSub, Int.reduceMul, Int.reduceNeg, Int.reduceBEq, Int.reduceBNe, Int.reduceGE, Int.reduceGT, Nat.reduceLT, trim_keep, under_fn, under_ptr, under_sl, Nat.lt_irrefl, not_lt_add, trim_tail, keepOk, ABlk.vals, Int.cast_ofNat_Int, decide_true, decide_false, List.all_cons, List.all_nil, Nat.zero_mul, Nat.mul_one, Nat.one_mul, wl, d1, x4_wakes, outs_normal]
  subst hQ
  simp -implicitDefEqProofs (maxSteps := 5000000) only [go_sem, Nat.reduceShiftRight, Nat.reduceAnd, Nat.reduceBNe, Int.reduceEq, Nat.reduceAdd, Nat.reduceSub, Nat.reduceMul, Nat.reduceLeDiff, reduceIte, reduceCtorEq, Nat.reduceBEq, Nat.reduceEqDiff]
 have d1 := decide_eq_false h1
 have eg := rgoodC pl (by omega) 64 200
 rcases hg : tgood l 64 200 with _ | _
 ·rw [hg] at eg
  simp -implicitDefEqProofs (maxSteps := 5000000) only [go_sem, Nat.reduceShiftRight, Nat.reduceAnd, Nat.reduceBNe, Int.reduceEq, Nat.reduceAdd, Nat.reduceSub, Nat.reduceMul, Nat.reduceLeDiff, reduceIte, reduceCtorEq, Nat.reduceBEq, Nat.reduceEqDiff, wrap64, runC_loop, runC_range, callF_fn, callV_fn, callV_yld, yield_eq, yieldBody, yieldRaw, roundMid, roundEnd, rangeEnd, Bool.not_not, put_cons, put_nil, trim_same, at_zero, at_add, set_zero, set_add, store_one, write_zero, write_add, write_head, write_succ, splice_one, splice_more, List.drop_nil, List.take_nil, cell_int, cell_bool, fillS, splice_one, idxA, Ex.isNormal, List.set_nil, List.length_set, List.all_cons, List.all_nil, Bool.and_self, and_self, true_and, and_true, List.getElem?_nil, Int.reduceLT, Int.reduceLE, Int.reduceToNat, Int.toNat_zero, Int.toNat_one, Int.reduceAdd, Int.reduceSub, Int.reduceMul, Int.reduceNeg, Int.reduceBEq, Int.reduceBNe, Int.reduceGE, Int.reduceGT, Nat.reduceLT, trim_keep, under_fn, under_ptr, under_sl, Nat.lt_irrefl, not_lt_add, trim_tail, keepOk, ABlk.vals, Int.cast_ofNat_Int, decide_true, decide_false, List.all_cons, List.all_nil, Nat.zero_mul, Nat.mul_one, Nat.one_mul, wl, d1, x4_wakes, x4_call, eg, outs_normal]
  subst hQ
  simp -implicitDefEqProofs (maxSteps := 5000000) only [go_sem, Nat.reduceShiftRight, Nat.reduceAnd, Nat.reduceBNe, Int.reduceEq, Nat.reduceAdd, Nat.reduceSub, Nat.reduceMul, Nat.reduceLeDiff, reduceIte, reduceCtorEq, Nat.reduceBEq, Nat.reduceEqDiff]
 rw [hg] at eg
 have G := good_iff.1 hg
 have l0 := findsL pl (by omega) (k := 66) (b := -1)
 obtain ⟨x, K1, ea1, A1, gx⟩ := copyP pl (by omega)
 have l1 := findsL1 (H := h) (l := l) (sd := sn) (by omega) (k := l.length) (K := K1) (v9 := .nilSl) (v10 := x) (m := []) (r := l)
 simp -implicitDefEqProofs (maxSteps := 5000000) only [go_sem, Nat.reduceShiftRight, Nat.reduceAnd, Nat.reduceBNe, Int.reduceEq, Nat.reduceAdd, Nat.reduceSub, Nat.reduceMul, Nat.reduceLeDiff, reduceIte, reduceCtorEq, Nat.reduceBEq, Nat.reduceEqDiff, wrap64, runC_loop, runC_range, callF_fn, callV_fn, callV_yld, yield_eq, yieldBody, yieldRaw, roundMid, roundEnd, rangeEnd, Bool.not_not, put_cons, put_nil, trim_same, at_zero, at_add, set_zero, set_add, store_one, write_zero, write_add, write_head, write_succ, splice_one, splice_more, List.drop_nil, List.take_nil, cell_int, cell_bool, fillS, splice_one, idxA, Ex.isNormal, List.set_nil, List.length_set, List.all_cons, List.all_nil, Bool.and_self, and_self, true_and, and_true, List.getElem?_nil, Int.reduceLT, Int.reduceLE, Int.reduceToNat, Int.toNat_zero, Int.toNat_one, Int.reduceAdd, Int.reduceSub, Int.reduceMul, Int.reduceNeg, Int.reduceBEq, Int.reduceBNe, Int.reduceGE, Int.reduceGT, Nat.reduceLT, trim_keep, under_fn, under_ptr, under_sl, Nat.lt_irrefl, not_lt_add, trim_tail, keepOk, ABlk.vals, Int.cast_ofNat_Int, decide_true, decide_false, List.all_cons, List.all_nil, Nat.zero_mul, Nat.mul_one, Nat.one_mul, runC_loop, x_loop, idx_arr, x4_call, wl, d1, eg]
 unfold LZ at l0 l1
 generalize (envL prog).loop (runC (envX prog X4) (l6x0 (envX prog X4))) = LL at l0 ⊢
 refine outs_ctx (fun r => seqR (blockR 0 r) _) (l0 _ _ _ _ _ _ _ _ _ _ _ _ _ _ _ _ _ _ _ _ _ _ _ _ _ _ _ _ _ _ _ _ _ _ _ _ _ _ _ _ _ _ _ _ _ _ _ _ _ _ _ _ _ _ _ _ _ _ _ _ _ _ _ _ _ _ _ _ _ _ _ _ _ _ _ _ _ _ _ _ _ _ _ _ _ _ _ _ _ _ _ (by omega) (by omega)) ?_
 rintro e t H6 ⟨rfl, rfl, fv, rfl⟩
 simp -implicitDefEqProofs (maxSteps := 5000000) only [go_sem, Nat.reduceShiftRight, Nat.reduceAnd, Nat.reduceBNe, Int.reduceEq, Nat.reduceAdd, Nat.reduceSub, Nat.reduceMul, Nat.reduceLeDiff, reduceIte, reduceCtorEq, Nat.reduceBEq, Nat.reduceEqDiff, wrap64, runC_loop, runC_range, callF_fn, callV_fn, callV_yld, yield_eq, yieldBody, yieldRaw, roundMid, roundEnd, rangeEnd, Bool.not_not, put_cons, put_nil, trim_same, at_zero, at_add, set_zero, set_add, store_one, write_zero, write_add, write_head, write_succ, splice_one, splice_more, List.drop_nil, List.take_nil, cell_int, cell_bool, fillS, splice_one, idxA, Ex.isNormal, List.set_nil, List.length_set, List.all_cons, List.all_nil, Bool.and_self, and_self, true_and, and_true, List.getElem?_nil, Int.reduceLT, Int.reduceLE, Int.reduceToNat, Int.toNat_zero, Int.toNat_one, Int.reduceAdd, Int.reduceSub, Int.reduceMul, Int.reduceNeg, Int.reduceBEq, Int.reduceBNe, Int.reduceGE, Int.reduceGT, Nat.reduceLT, trim_keep, under_fn, under_ptr, under_sl, Nat.lt_irrefl, not_lt_add, trim_tail, keepOk, ABlk.vals, Int.cast_ofNat_Int, decide_true, decide_false, List.all_cons, List.all_nil, Nat.zero_mul, Nat.mul_one, Nat.one_mul, runC_loop, x_loop, ea1]
 generalize (envL prog).loop (runC (envX prog X4) (l6x1 (envX prog X4))) = LL at l1 ⊢
 refine outs_ctx (fun r => seqR (blockR 2 r) _) (l1 _ _ _ _ _ _ _ _ _ _ _ _ _ _ _ _ _ _ _ _ _ _ _ _ _ _ _ _ _ _ _ _ _ _ _ _ _ _ _ _ _ _ _ _ _ _ _ _ _ _ _ _ _ _ _ _ _ _ _ _ _ _ _ _ _ _ _ _ _ _ _ _ _ _ _ _ _ _ _ _ _ _ _ _ _ _ _ _ _ _ A1 (.inl ⟨rfl, rfl⟩) gx.isP ⟨G.up, asc_nil, G.up, fun p => by simp, by simp⟩ (by simp; omega) rfl) ?_
 rintro e t H7 ⟨rfl, A7, fw, rfl, g7⟩
 have e1 := pairsC g7 (pl.adds A7) (by omega)
 rw [decide_eq_true rfl] at e1
 have eg2 := goodC g7 (by omega) 64 200
 rw [hg] at eg2
 simp -implicitDefEqProofs (maxSteps := 5000000) only [go_sem, Nat.reduceShiftRight, Nat.reduceAnd, Nat.reduceBNe, Int.reduceEq, Nat.reduceAdd, Nat.reduceSub, Nat.reduceMul, Nat.reduceLeDiff, reduceIte, reduceCtorEq, Nat.reduceBEq, Nat.reduceEqDiff, wrap64, runC_loop, runC_range, callF_fn, callV_fn, callV_yld, yield_eq, yieldBody, yieldRaw, roundMid, roundEnd, rangeEnd, Bool.not_not, put_cons, put_nil, trim_same, at_zero, at_add, set_zero, set_add, store_one, write_zero, write_add, write_head, write_succ, splice_one, splice_more, List.drop_nil, List.take_nil, cell_int, cell_bool, fillS, splice_one, idxA, Ex.isNormal, List.set_nil, List.length_set, List.all_cons, List.all_nil, Bool.and_self, and_self, true_and, and_true, List.getElem?_nil, Int.reduceLT, Int.reduceLE, Int.reduceToNat, Int.toNat_zero, Int.toNat_one, Int.reduceAdd, Int.reduceSub, Int.reduceMul, Int.reduceNeg, Int.reduceBEq, Int.reduceBNe, Int.reduceGE, Int.reduceGT, Nat.reduceLT, trim_keep, under_fn, under_ptr, under_sl, Nat.lt_irrefl, not_lt_add, trim_tail, keepOk, ABlk.vals, Int.cast_ofNat_Int, decide_true, decide_false, List.all_cons, List.all_nil, Nat.zero_mul, Nat.mul_one, Nat.one_mul, x4_call, x4_wakes, e1, eg2, outs_normal]
 subst hQ
 simp -implicitDefEqProofs (maxSteps := 5000000) only [go_sem, Nat.reduceShiftRight, Nat.reduceAnd, Nat.reduceBNe, Int.reduceEq, Nat.reduceAdd, Nat.reduceSub, Nat.reduceMul, Nat.reduceLeDiff, reduceIte, reduceCtorEq, Nat.reduceBEq, Nat.reduceEqDiff]
end Go.Proofs.Ytekceggcbpeoeaa.G10
