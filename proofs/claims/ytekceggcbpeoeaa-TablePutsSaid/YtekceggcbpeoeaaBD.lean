/- What the functions that TablePuts reaches answer, for every argument. No condition but those in each statement. -/
import Derived.Test.YtekceggcbpeoeaaBC
import Derived.Test.YtekceggcbpeoeaaE6
set_option linter.unusedSimpArgs false
set_option linter.unusedVariables false
set_option linter.unusedSectionVars false
set_option maxRecDepth 10000
namespace Go.Proofs.Ytekceggcbpeoeaa.G10
open Go Go.Proofs.Ytekceggcbpeoeaa.Eng
noncomputable abbrev LZ (l : Env → CT) := (envL prog).loop (runC (envX prog X4) (l (envX prog X4)))
theorem findF {H : AHeap} {v : AV} {l : List PrS} (g : IsP H v l) (hl : l.length ≤ 1000000) (b : Int) : (envL prog).call 8 [v, .int .i64 b] H = some (.tup [.int .i64 (fnd l b), .bool (decide (0 ≤ idxS l b))], H) := findC g hl b
section
variable {H : AHeap} {v w : AV} {l m : List PrS} (g : IsP H v l) (f : IsP H w m) (hl : l.length ≤ 1000) (hm : m.length ≤ 1001)
include g f hl hm
set_option maxHeartbeats 4000000 in
theorem putsL {b : Int} (ok : ∀ p ∈ l, 0 ≤ idxS m p.1 ∧ (p.1 ≠ b → fnd m p.1 = p.2)) (x1 x2 x3 x6 x8 x9 x13 x14 x15 x16 x17 x18 x19 x20 x21 x22 x23 x24 x25 x26 x27 x28 x29 x30 x31 x32 x33 x34 x35 x36 x37 x38 x39 x40 x41 x42 x43 x44 x45 x46 x47 x48 x49 x50 x51 x52 x53 x90 x91 x92 x93 x94 x95 x96 x97 x98 x99 x100 x101 x102 x103 x104 x105 x106 x107 x108 x109 x110 x111 x112 x113 : AV) : ∀ (k i : Nat) (j4 j11 j12 j54 j55 j56 j57 j58 j59 j60 j61 j62 j63 j64 j65 j66 j67 j68 j69 j70 j71 j72 j73 j74 j75 j76 j77 j78 j79 j80 j81 j82 j83 j84 j85 j86 j87 j88 j89 : AV), i + k = l.length →
  Outs (LZ l5x0 [v, x1, x2, x3, j4, .int .i64 b, x6, w, x8, x9, .int .i64 (i : Int), j11, j12, x13, x14, x15, x16, x17, x18, x19, x20, x21, x22, x23, x24, x25, x26, x27, x28, x29, x30, x31, x32, x33, x34, x35, x36, x37, x38, x39, x40, x41, x42, x43, x44, x45, x46, x47, x48, x49, x50, x51, x52, x53, j54, j55, j56, j57, j58, j59, j60, j61, j62, j63, j64, j65, j66, j67, j68, j69, j70, j71, j72, j73, j74, j75, j76, j77, j78, j79, j80, j81, j82, j83, j84, j85, j86, j87, j88, j89, x90, x91, x92, x93, x94, x95, x96, x97, x98, x99, x100, x101, x102, x103, x104, x105, x106, x107, x108, x109, x110, x111, x112, x113] H) fun e t K => K = H ∧ e = .exit 0 ∧ ∃ fv : Nat → AV, t = [v, x1, x2, x3, (fv 4), .int .i64 b, x6, w, x8, x9, (fv 10), (fv 11), (fv 12), x13, x14, x15, x16, x17, x18, x19, x20, x21, x22, x23, x24, x25, x26, x27, x28, x29, x30, x31, x32, x33, x34, x35, x36, x37, x38, x39, x40, x41, x42, x43, x44, x45, x46, x47, x48, x49, x50, x51, x52, x53, (fv 54), (fv 55), (fv 56), (fv 57), (fv 58), (fv 59), (fv 60), (fv 61), (fv 62), (fv 63), (fv 64), (fv 65), (fv 66), (fv 67), (fv 68), (fv 69), (fv 70), (fv 71), (fv 72), (fv 73), (fv 74), (fv 75), (fv 76), (fv 77), (fv 78), (fv 79), (fv 80), (fv 81), (fv 82), (fv 83), (fv 84), (fv 85), (fv 86), (fv 87), (fv 88), (fv 89), x90, x91, x92, x93, x94, x95, x96, x97, x98, x99, x100, x101, x102, x103, x104, x105, x106, x107, x108, x109, x110, x111, x112, x113] := by
 intro k
 obtain ⟨L0, hL0⟩ : ∃ L, L = LZ l5x0 := ⟨_, rfl⟩
 have lo := loop_open hL0
 have wl := g.len
 rw [← hL0]
 induction k with
 | zero =>
  intro i j4 j11 j12 j54 j55 j56 j57 j58 j59 j60 j61 j62 j63 j64 j65 j66 j67 j68 j69 j70 j71 j72 j73 j74 j75 j76 j77 j78 j79 j80 j81 j82 j83 j84 j85 j86 j87 j88 j89 hi
  obtain rfl : i = l.length := by omega
  have hd : decide ((l.length : Int) < (l.length : Int)) = false := by simp
  rw [lo]
  unfold l5x0
  simp -implicitDefEqProofs (maxSteps := 5000000) only [go_sem, Nat.reduceShiftRight, Nat.reduceAnd, Nat.reduceBNe, Int.reduceEq, Nat.reduceAdd, Nat.reduceSub, Nat.reduceMul, Nat.reduceLeDiff, reduceIte, reduceCtorEq, Nat.reduceBEq, Nat.reduceEqDiff, wl, hd, seqR_exit', outs_normal]
  exact exF rfl
 | succ k ih =>
  intro i j4 j11 j12 j54 j55 j56 j57 j58 j59 j60 j61 j62 j63 j64 j65 j66 j67 j68 j69 j70 j71 j72 j73 j74 j75 j76 j77 j78 j79 j80 j81 j82 j83 j84 j85 j86 j87 j88 j89 hi
  have hlt : i < l.length := by omega
  have hd : decide ((i : Int) < (l.length : Int)) = true := decide_eq_true (by omega)
  have e2 : IntKind.i64.wrap ((i : Int) + 1) = ((i + 1 : Nat) : Int) := by rw [wrap64 (by omega) (by omega)]; omega
  have hx := List.getElem?_eq_getElem hlt
  obtain ⟨o1, o2⟩ := ok l[i] (List.getElem_mem hlt)
  generalize l[i] = p at *
  obtain ⟨bb, cs, sb, ix, hc, h1, h2, ht, hle⟩ := g.idx hx
  have ef := findF f (by omega) p.1
  rw [decide_eq_true o1] at ef
  have key := fun j4 j11 j12 j54 j55 j56 j57 j58 j59 j60 j61 j62 j63 j64 j65 j66 j67 j68 j69 j70 j71 j72 j73 j74 j75 j76 j77 j78 j79 j80 j81 j82 j83 j84 j85 j86 j87 j88 j89 => ih (i + 1) j4 j11 j12 j54 j55 j56 j57 j58 j59 j60 j61 j62 j63 j64 j65 j66 j67 j68 j69 j70 j71 j72 j73 j74 j75 j76 j77 j78 j79 j80 j81 j82 j83 j84 j85 j86 j87 j88 j89
  rw [lo]
  unfold l5x0
  by_cases hb : p.1 = b
  ·have nb : (p.1 != b) = false := by rw [hb]; simp
   simp -implicitDefEqProofs (maxSteps := 5000000) only [go_sem, Nat.reduceShiftRight, Nat.reduceAnd, Nat.reduceBNe, Int.reduceEq, Nat.reduceAdd, Nat.reduceSub, Nat.reduceMul, Nat.reduceLeDiff, reduceIte, reduceCtorEq, Nat.reduceBEq, Nat.reduceEqDiff, wrap64, runC_loop, runC_range, callF_fn, callV_fn, callV_yld, yield_eq, yieldBody, yieldRaw, roundMid, roundEnd, rangeEnd, Bool.not_not, put_cons, put_nil, trim_same, at_zero, at_add, set_zero, set_add, store_one, write_zero, write_add, write_head, write_succ, splice_one, splice_more, List.drop_nil, List.take_nil, cell_int, cell_bool, fillS, splice_one, idxA, Ex.isNormal, List.set_nil, List.length_set, List.all_cons, List.all_nil, Bool.and_self, and_self, true_and, and_true, List.getElem?_nil, Int.reduceLT, Int.reduceLE, Int.reduceToNat, Int.toNat_zero, Int.toNat_one, Int.reduceAdd, Int.reduceSub, Int.reduceMul, Int.reduceNeg, Int.reduceBEq, Int.reduceBNe, Int.reduceGE, Int.reduceGT, Nat.reduceLT, trim_keep, under_fn, under_ptr, under_sl, Nat.lt_irrefl, not_lt_add, trim_tail, keepOk, ABlk.vals, Int.cast_ofNat_Int, decide_true, decide_false, List.all_cons, List.all_nil, Nat.zero_mul, Nat.mul_one, Nat.one_mul, idx_arr, x4_call, wl, hd, ix, hc, h1, h2, ht, hle, ef, nb, e2]
   exact key _ _ _ _ _ _ _ _ _ _ _ _ _ _ _ _ _ _ _ _ _ _ _ _ _ _ _ _ _ _ _ _ _ _ _ _ _ _ _ (by omega)
  ·have nb : (p.1 != b) = true := by simpa using hb
   have nf : (fnd m p.1 != p.2) = false := by rw [o2 hb]; simp
   simp -implicitDefEqProofs (maxSteps := 5000000) only [go_sem, Nat.reduceShiftRight, Nat.reduceAnd, Nat.reduceBNe, Int.reduceEq, Nat.reduceAdd, Nat.reduceSub, Nat.reduceMul, Nat.reduceLeDiff, reduceIte, reduceCtorEq, Nat.reduceBEq, Nat.reduceEqDiff, wrap64, runC_loop, runC_range, callF_fn, callV_fn, callV_yld, yield_eq, yieldBody, yieldRaw, roundMid, roundEnd, rangeEnd, Bool.not_not, put_cons, put_nil, trim_same, at_zero, at_add, set_zero, set_add, store_one, write_zero, write_add, write_head, write_succ, splice_one, splice_more, List.drop_nil, List.take_nil, cell_int, cell_bool, fillS, splice_one, idxA, Ex.isNormal, List.set_nil, List.length_set, List.all_cons, List.all_nil, Bool.and_self, and_self, true_and, and_true, List.getElem?_nil, Int.reduceLT, Int.reduceLE, Int.reduceToNat, Int.toNat_zero, Int.toNat_one, Int.reduceAdd, Int.reduceSub, Int.reduceMul, Int.reduceNeg, Int.reduceBEq, Int.reduceBNe, Int.reduceGE, Int.reduceGT, Nat.reduceLT, trim_keep, under_fn, under_ptr, under_sl, Nat.lt_irrefl, not_lt_add, trim_tail, keepOk, ABlk.vals, Int.cast_ofNat_Int, decide_true, decide_false, List.all_cons, List.all_nil, Nat.zero_mul, Nat.mul_one, Nat.one_mul, idx_arr, x4_call, wl, hd, ix, hc, h1, h2, ht, hle, ef, nb, nf, e2]
   exact key _ _ _ _ _ _ _ _ _ _ _ _ _ _ _ _ _ _ _ _ _ _ _ _ _ _ _ _ _ _ _ _ _ _ _ _ _ _ _ (by omega)
end
set_option maxHeartbeats 16000000 in
theorem tablePuts (v : AV) (n0 n1 : Int) (k0 : 0 ≤ n0 ∧ n0 ≤ 255) (k1 : 0 ≤ n1 ∧ n1 ≤ 255) (h : AHeap) (d : DatC h (.sl [.int .i64, .int .i64]) v) : ∃ h', callBody prog (envX prog X4) 5 [v, .agg [.int .u8 n0, .int .u8 n1]] h = some (.bool true, h') := by
 obtain ⟨l, pl, nl, _⟩ := pairs_isP d
 rw [d5]
 refine of_outs ?_
 unfold b5
 generalize hQ : (fun (e : Ex) (t : T) (h1 : AHeap) => fin [.tmp 4] (some (e, t, h1)) = some (AV.bool true, h1)) = Q
 obtain ⟨h0, e0⟩ : ∃ h0, h0 = h ++ [ABlk.rw [.int .u8 n0, .int .u8 n1]] := ⟨_, rfl⟩
 have a0 : Adds h h0 := ⟨_, e0⟩
 have c0 : cellsOf h0 h.length = some [.int .u8 n0, .int .u8 n1] := by rw [e0]; unfold cellsOf; simp
 have e0 := e0.symm
 have p0 := pl.adds a0
 have wl := p0.len
 by_cases h1 : (l.length : Int) > 64
 ·have d1 := decide_eq_true h1
  simp -implicitDefEqProofs (maxSteps := 5000000) only [go_sem, Nat.reduceShiftRight, Nat.reduceAnd, Nat.reduceBNe, Int.reduceEq, Nat.reduceAdd, Nat.reduceSub, Nat.reduceMul, Nat.reduceLeDiff, reduceIte, reduceCtorEq, Nat.reduceBEq, Nat.reduceEqDiff, wrap64, runC_loop, runC_range, callF_fn, callV_fn, callV_yld, yield_eq, yieldBody, yieldRaw, roundMid, roundEnd, rangeEnd, Bool.not_not, put_cons, put_nil, trim_same, at_zero, at_add, set_zero, set_add, store_one, write_zero, write_add, write_head, write_succ, splice_one, splice_more, List.drop_nil, List.take_nil, cell_int, cell_bool, fillS, splice_one, idxA, Ex.isNormal, List.set_nil, List.length_set, List.all_cons, List.all_nil, Bool.and_self, and_self, true_and, and_true, List.getElem?_nil, Int.reduceLT, Int.reduceLE, Int.reduceToNat, Int.toNat_zero, Int.toNat_one, Int.reduceAdd, Int.reduceSub, Int.reduceMul, Int.reduceNeg, Int.reduceBEq, Int.reduceBNe, Int.reduceGE, Int.reduceGT, Nat.reduceLT, trim_keep, under_fn, under_ptr, under_sl, Nat.lt_irrefl, not_lt_add, trim_tail, keepOk, ABlk.vals, Int.cast_ofNat_Int, decide_true, decide_false, List.all_cons, List.all_nil, Nat.zero_mul, Nat.mul_one, Nat.one_mul, e0, wl, d1, x4_wakes, outs_normal]
  subst hQ
  simp -implicitDefEqProofs (maxSteps := 5000000) only [go_sem, Nat.reduceShiftRight, Nat.reduceAnd, Nat.reduceBNe, Int.reduceEq, Nat.reduceAdd, Nat.reduceSub, Nat.reduceMul, Nat.reduceLeDiff, reduceIte, reduceCtorEq, Nat.reduceBEq, Nat.reduceEqDiff]
 have d1 := decide_eq_false h1
 have eg := rgoodC p0 (by omega) 64 200
 rcases hg : tgood l 64 200 with _ | _
 ·rw [hg] at eg
  simp -implicitDefEqProofs (maxSteps := 5000000) only [go_sem, Nat.reduceShiftRight, Nat.reduceAnd, Nat.reduceBNe, Int.reduceEq, Nat.reduceAdd, Nat.reduceSub, Nat.reduceMul, Nat.reduceLeDiff, reduceIte, reduceCtorEq, Nat.reduceBEq, Nat.reduceEqDiff, wrap64, runC_loop, runC_range, callF_fn, callV_fn, callV_yld, yield_eq, yieldBody, yieldRaw, roundMid, roundEnd, rangeEnd, Bool.not_not, put_cons, put_nil, trim_same, at_zero, at_add, set_zero, set_add, store_one, write_zero, write_add, write_head, write_succ, splice_one, splice_more, List.drop_nil, List.take_nil, cell_int, cell_bool, fillS, splice_one, idxA, Ex.isNormal, List.set_nil, List.length_set, List.all_cons, List.all_nil, Bool.and_self, and_self, true_and, and_true, List.getElem?_nil, Int.reduceLT, Int.reduceLE, Int.reduceToNat, Int.toNat_zero, Int.toNat_one, Int.reduceAdd, Int.reduceSub, Int.reduceMul, Int.reduceNeg, Int.reduceBEq, Int.reduceBNe, Int.reduceGE, Int.reduceGT, Nat.reduceLT, trim_keep, under_fn, under_ptr, under_sl, Nat.lt_irrefl, not_lt_add, trim_tail, keepOk, ABlk.vals, Int.cast_ofNat_Int, decide_true, decide_false, List.all_cons, List.all_nil, Nat.zero_mul, Nat.mul_one, Nat.one_mul, e0, wl, d1, x4_wakes, x4_call, eg, outs_normal]
  subst hQ
  simp -implicitDefEqProofs (maxSteps := 5000000) only [go_sem, Nat.reduceShiftRight, Nat.reduceAnd, Nat.reduceBNe, Int.reduceEq, Nat.reduceAdd, Nat.reduceSub, Nat.reduceMul, Nat.reduceLeDiff, reduceIte, reduceCtorEq, Nat.reduceBEq, Nat.reduceEqDiff]
 rw [hg] at eg
 have G := good_iff.1 hg
 have w0 : IntKind.i64.wrap n0 = n0 := wrap64 (by omega) (by omega)
 have w1 : IntKind.i64.wrap n1 = n1 := wrap64 (by omega) (by omega)
 have w2 : IntKind.i64.wrap (200 + n1) = 200 + n1 := wrap64 (by omega) (by omega)
 have rm := int_rem .none .i64 n0 64 (by omega)
 obtain ⟨b, hb⟩ : ∃ b, n0.tmod 64 = b := ⟨_, rfl⟩
 have hb2 : 0 ≤ b ∧ b < 64 := by rw [← hb, Int.tmod_eq_emod_of_nonneg k0.1]; omega
 have w3 : IntKind.i64.wrap b = b := wrap64 (by omega) (by omega)
 rw [hb] at rm
 try rw [w3] at rm
 obtain ⟨at_, hat⟩ : ∃ a, 200 + n1 = a := ⟨_, rfl⟩
 rw [hat] at w2
 have hf : ∀ p ∈ l, p.2 ≠ at_ := fun p hp => by have := (G.rng p hp).2; omega
 have G2 := tput_good (ar2 := 500) (b := b) (a := at_) G hb2 (by omega) (by omega) hf
 obtain ⟨t1, t2, t3⟩ := tput_mem G.up b at_
 obtain ⟨w, K, ep, A, gm⟩ := putC p0 (by omega) b at_
 have ep := x4_put ep
 have pm := gm.isP
 have wm := pm.len
 have tl := tput_len l b at_
 have pK := p0.adds A
 have wK := pK.len
 have mb := fnd_mem t1 ((t2 (b, at_)).2 (.inl rfl))
 have ef := findF pm (by omega) b
 rw [decide_eq_true mb.1, mb.2] at ef
 have eg2 := goodC pm (by omega) 64 500
 rw [good_iff.2 G2] at eg2
 have ef2 := findF pK (by omega) b
 have ok : ∀ p ∈ l, 0 ≤ idxS (tput l b at_) p.1 ∧ (p.1 ≠ b → fnd (tput l b at_) p.1 = p.2) := fun p hp => by
  by_cases e : p.1 = b
  ·exact ⟨e ▸ mb.1, fun q => absurd e q⟩
  ·have := fnd_mem t1 ((t2 p).2 (.inr ⟨hp, e⟩)); exact ⟨this.1, fun _ => this.2⟩
 have l1 := putsL pK pm (by omega) (by omega) ok (k := l.length) (i := 0)
 rw [show ((0 : Nat) : Int) = 0 from rfl] at l1
 have nn : ∀ q : Int, (q != q) = false := fun q => by simp
 have ws : IntKind.i64.wrap (((tput l b at_).length : Int) - (l.length : Int)) = ((tput l b at_).length : Int) - (l.length : Int) := wrap64 (by omega) (by omega)
 have hle : decide (((tput l b at_).length : Int) - (l.length : Int) ≤ 1) = true := decide_eq_true (by omega)
 have hadd : (decide (0 ≤ idxS l b) == (((tput l b at_).length : Int) == (l.length : Int))) = true := by
  rw [t3]
  by_cases e : 0 ≤ idxS l b
  ·rw [if_pos e, decide_eq_true e]; simp
  ·rw [if_neg e, decide_eq_false e]
   have : (((l.length + 1 : Nat) : Int) == (l.length : Int)) = false := by
    rw [beq_eq_false_iff_ne]; omega
   rw [this]; rfl
 obtain ⟨b1, hb1⟩ : ∃ b1, decide (0 ≤ idxS l b) = b1 := ⟨_, rfl⟩
 obtain ⟨b2, hb2'⟩ : ∃ b2, (((tput l b at_).length : Int) == (l.length : Int)) = b2 := ⟨_, rfl⟩
 rw [hb1, hb2'] at hadd
 rw [hb1] at ef2
 generalize tput l b at_ = m at *
 simp -implicitDefEqProofs (maxSteps := 5000000) only [go_sem, Nat.reduceShiftRight, Nat.reduceAnd, Nat.reduceBNe, Int.reduceEq, Nat.reduceAdd, Nat.reduceSub, Nat.reduceMul, Nat.reduceLeDiff, reduceIte, reduceCtorEq, Nat.reduceBEq, Nat.reduceEqDiff, wrap64, runC_loop, runC_range, callF_fn, callV_fn, callV_yld, yield_eq, yieldBody, yieldRaw, roundMid, roundEnd, rangeEnd, Bool.not_not, put_cons, put_nil, trim_same, at_zero, at_add, set_zero, set_add, store_one, write_zero, write_add, write_head, write_succ, splice_one, splice_more, List.drop_nil, List.take_nil, cell_int, cell_bool, fillS, splice_one, idxA, Ex.isNormal, List.set_nil, List.length_set, List.all_cons, List.all_nil, Bool.and_self, and_self, true_and, and_true, List.getElem?_nil, Int.reduceLT, Int.reduceLE, Int.reduceToNat, Int.toNat_zero, Int.toNat_one, Int.reduceAdd, Int.reduceSub, Int.reduceMul, Int.reduceNeg, Int.reduceBEq, Int.reduceBNe, Int.reduceGE, Int.reduceGT, Nat.reduceLT, trim_keep, under_fn, under_ptr, under_sl, Nat.lt_irrefl, not_lt_add, trim_tail, keepOk, ABlk.vals, Int.cast_ofNat_Int, decide_true, decide_false, List.all_cons, List.all_nil, Nat.zero_mul, Nat.mul_one, Nat.one_mul, runC_loop, x_loop, idx_arr, x4_call, e0, c0, wl, d1, eg, w0, w1, rm, hat, w2, ep, ef, nn, eg2]
 unfold LZ at l1
 generalize (envL prog).loop (runC (envX prog X4) (l5x0 (envX prog X4))) = LL at l1 ⊢
 refine outs_ctx (fun r => seqR (blockR 0 r) _) (l1 _ _ _ _ _ _ _ _ _ _ _ _ _ _ _ _ _ _ _ _ _ _ _ _ _ _ _ _ _ _ _ _ _ _ _ _ _ _ _ _ _ _ _ _ _ _ _ _ _ _ _ _ _ _ _ _ _ _ _ _ _ _ _ _ _ _ _ _ _ _ _ _ _ _ _ _ _ _ _ _ _ _ _ _ _ _ _ _ _ _ _ _ _ _ _ _ _ _ _ _ _ _ _ _ _ _ _ _ _ _ (by omega)) ?_
 rintro e t H6 ⟨rfl, rfl, fv, rfl⟩
 simp -implicitDefEqProofs (maxSteps := 5000000) only [go_sem, Nat.reduceShiftRight, Nat.reduceAnd, Nat.reduceBNe, Int.reduceEq, Nat.reduceAdd, Nat.reduceSub, Nat.reduceMul, Nat.reduceLeDiff, reduceIte, reduceCtorEq, Nat.reduceBEq, Nat.reduceEqDiff, wrap64, runC_loop, runC_range, callF_fn, callV_fn, callV_yld, yield_eq, yieldBody, yieldRaw, roundMid, roundEnd, rangeEnd, Bool.not_not, put_cons, put_nil, trim_same, at_zero, at_add, set_zero, set_add, store_one, write_zero, write_add, write_head, write_succ, splice_one, splice_more, List.drop_nil, List.take_nil, cell_int, cell_bool, fillS, splice_one, idxA, Ex.isNormal, List.set_nil, List.length_set, List.all_cons, List.all_nil, Bool.and_self, and_self, true_and, and_true, List.getElem?_nil, Int.reduceLT, Int.reduceLE, Int.reduceToNat, Int.toNat_zero, Int.toNat_one, Int.reduceAdd, Int.reduceSub, Int.reduceMul, Int.reduceNeg, Int.reduceBEq, Int.reduceBNe, Int.reduceGE, Int.reduceGT, Nat.reduceLT, trim_keep, under_fn, under_ptr, under_sl, Nat.lt_irrefl, not_lt_add, trim_tail, keepOk, ABlk.vals, Int.cast_ofNat_Int, decide_true, decide_false, List.all_cons, List.all_nil, Nat.zero_mul, Nat.mul_one, Nat.one_mul, x4_call, x4_wakes, ef2, wm, wK, hb2', hadd, ws, hle, outs_normal]
 subst hQ
 simp -implicitDefEqProofs (maxSteps := 5000000) only [go_sem, Nat.reduceShiftRight, Nat.reduceAnd, Nat.reduceBNe, Int.reduceEq, Nat.reduceAdd, Nat.reduceSub, Nat.reduceMul, Nat.reduceLeDiff, reduceIte, reduceCtorEq, Nat.reduceBEq, Nat.reduceEqDiff]
end Go.Proofs.Ytekceggcbpeoeaa.G10
