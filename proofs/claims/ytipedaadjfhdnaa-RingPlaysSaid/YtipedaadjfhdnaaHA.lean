/- What the functions that RingPlays reaches answer, for every argument. No condition but those in each statement. -/
import Derived.Test.YtipedaadjfhdnaaXA
import Derived.Test.YtipedaadjfhdnaaPA
import Derived.Test.YtipedaadjfhdnaaGA
import Derived.Test.YtipedaadjfhdnaaE6
set_option linter.unusedSimpArgs false
set_option linter.unusedVariables false
set_option linter.unusedSectionVars false
set_option maxRecDepth 10000
section
namespace Go.Proofs.Ytipedaadjfhdnaa.G06
open Go Go.Proofs.Ytipedaadjfhdnaa.Eng
section
variable {q : QPl} {H : AHeap} {n : Nat} {r : RgS} {F : Nat → Prop} (m : RefAt q H n r F)
include m
theorem mayC (f c a : Int) : (envL prog).call 39 [.ptr q.p 0, .int .i64 f, .int .i64 c, .int .i64 a] H = some (.bool (decide (goodS r f c a)), H) := by
 have hl : r.a.length ≤ 4096 := by
  obtain ⟨L0, L1, m, _, _⟩ := m
  rw [← m.e0, List.length_map]; exact m.k0.sz
 obtain ⟨q0, q1, s0, v0, s1, v1, c0, c1, _, _, _⟩ := rqnSee m.rin
 rw [c39]
 unfold b39
 by_cases h1 : f ≥ 0
 ·have e1 : decide (f ≥ 0) = true := by simp [h1]
  by_cases h2 : c ≥ 2
  ·have e2 : decide (c ≥ 2) = true := by simp [h2]
   by_cases h3 : c ≤ 256
   ·have e3 : decide (c ≤ 256) = true := by simp [h3]
    by_cases h4 : f ≤ (r.a.length : Int)
    ·have e4 : decide (f ≤ (r.a.length : Int)) = true := by simp [h4]
     have w : IntKind.i64.wrap ((r.a.length : Int) - f) = (r.a.length : Int) - f := wrap64 (by omega) (by omega)
     by_cases h5 : c ≤ (r.a.length : Int) - f
     ·have e5 : decide (c ≤ (r.a.length : Int) - f) = true := by simp [h5]
      by_cases h6 : a ≥ 0
      ·have e6 : decide (a ≥ 0) = true := by simp [h6]
       have e7 : decide (goodS r f c a) = decide (a < c) := by
        unfold goodS
        by_cases h7 : a < c
        ·rw [decide_eq_true h7]; exact decide_eq_true ⟨h1, h2, h3, by omega, h6, h7⟩
        ·rw [decide_eq_false h7]; exact decide_eq_false fun h => h7 h.2.2.2.2.2
       rw [e7]
       simp -implicitDefEqProofs (maxSteps := 5000000) only [go_sem, Nat.reduceShiftRight, Nat.reduceAnd, Nat.reduceBNe, Int.reduceEq, Nat.reduceAdd, Nat.reduceSub, Nat.reduceMul, Nat.reduceLeDiff, reduceIte, reduceCtorEq, Nat.reduceBEq, Nat.reduceEqDiff, idx_arr, c0, c1, e1, e2, e3, e4, e5, e6, w, Int.reduceLT, Int.reduceLE, Int.reduceToNat, Int.toNat_zero, Nat.zero_mul, Int.cast_ofNat_Int]
      ·have e6 : decide (a ≥ 0) = false := by simp [h6]
       have e7 : decide (goodS r f c a) = false := decide_eq_false fun h => h6 h.2.2.2.2.1
       rw [e7]
       simp -implicitDefEqProofs (maxSteps := 5000000) only [go_sem, Nat.reduceShiftRight, Nat.reduceAnd, Nat.reduceBNe, Int.reduceEq, Nat.reduceAdd, Nat.reduceSub, Nat.reduceMul, Nat.reduceLeDiff, reduceIte, reduceCtorEq, Nat.reduceBEq, Nat.reduceEqDiff, idx_arr, c0, c1, e1, e2, e3, e4, e5, e6, w, Int.reduceLT, Int.reduceLE, Int.reduceToNat, Int.toNat_zero, Nat.zero_mul, Int.cast_ofNat_Int]
     ·have e5 : decide (c ≤ (r.a.length : Int) - f) = false := by simp [h5]
      have e7 : decide (goodS r f c a) = false := decide_eq_false fun h => h5 (by have := h.2.2.2.1; omega)
      rw [e7]
      simp -implicitDefEqProofs (maxSteps := 5000000) only [go_sem, Nat.reduceShiftRight, Nat.reduceAnd, Nat.reduceBNe, Int.reduceEq, Nat.reduceAdd, Nat.reduceSub, Nat.reduceMul, Nat.reduceLeDiff, reduceIte, reduceCtorEq, Nat.reduceBEq, Nat.reduceEqDiff, idx_arr, c0, c1, e1, e2, e3, e4, e5, w, Int.reduceLT, Int.reduceLE, Int.reduceToNat, Int.toNat_zero, Nat.zero_mul, Int.cast_ofNat_Int]
    ·have e4 : decide (f ≤ (r.a.length : Int)) = false := by simp [h4]
     have e7 : decide (goodS r f c a) = false := decide_eq_false fun h => h4 (by have := h.2.2.2.1; omega)
     rw [e7]
     simp -implicitDefEqProofs (maxSteps := 5000000) only [go_sem, Nat.reduceShiftRight, Nat.reduceAnd, Nat.reduceBNe, Int.reduceEq, Nat.reduceAdd, Nat.reduceSub, Nat.reduceMul, Nat.reduceLeDiff, reduceIte, reduceCtorEq, Nat.reduceBEq, Nat.reduceEqDiff, idx_arr, c0, c1, e1, e2, e3, e4, Int.reduceLT, Int.reduceLE, Int.reduceToNat, Int.toNat_zero, Nat.zero_mul, Int.cast_ofNat_Int]
   ·have e3 : decide (c ≤ 256) = false := by simp [h3]
    have e7 : decide (goodS r f c a) = false := decide_eq_false fun h => h3 h.2.2.1
    rw [e7]
    simp -implicitDefEqProofs (maxSteps := 5000000) only [go_sem, Nat.reduceShiftRight, Nat.reduceAnd, Nat.reduceBNe, Int.reduceEq, Nat.reduceAdd, Nat.reduceSub, Nat.reduceMul, Nat.reduceLeDiff, reduceIte, reduceCtorEq, Nat.reduceBEq, Nat.reduceEqDiff, e1, e2, e3]
  ·have e2 : decide (c ≥ 2) = false := by simp [h2]
   have e7 : decide (goodS r f c a) = false := decide_eq_false fun h => h2 h.2.1
   rw [e7]
   simp -implicitDefEqProofs (maxSteps := 5000000) only [go_sem, Nat.reduceShiftRight, Nat.reduceAnd, Nat.reduceBNe, Int.reduceEq, Nat.reduceAdd, Nat.reduceSub, Nat.reduceMul, Nat.reduceLeDiff, reduceIte, reduceCtorEq, Nat.reduceBEq, Nat.reduceEqDiff, e1, e2]
 ·have e1 : decide (f ≥ 0) = false := by simp [h1]
  have e7 : decide (goodS r f c a) = false := decide_eq_false fun h => h1 h.1
  rw [e7]
  simp -implicitDefEqProofs (maxSteps := 5000000) only [go_sem, Nat.reduceShiftRight, Nat.reduceAnd, Nat.reduceBNe, Int.reduceEq, Nat.reduceAdd, Nat.reduceSub, Nat.reduceMul, Nat.reduceLeDiff, reduceIte, reduceCtorEq, Nat.reduceBEq, Nat.reduceEqDiff, e1]
end
end Go.Proofs.Ytipedaadjfhdnaa.G06
end
section
namespace Go.Proofs.Ytipedaadjfhdnaa.G06
open Go Go.Proofs.Ytipedaadjfhdnaa.Eng
theorem decS_bad (z : List Int) (h : (decS z).2 ≠ 0) : (decS z).1 = zpg := by
 unfold decS at h ⊢
 split
 ·rename_i hh
  rw [if_pos hh] at h
  exact absurd rfl h
 ·rfl
section
variable {q : QPl} {H : AHeap} {n : Nat} {r : RgS} {F : Nat → Prop} (m : RefAt q H n r F) {f c a seq : Int} (hf : 0 ≤ f) (hc : 2 ≤ c) (hc2 : c ≤ 256) (hs : f + c ≤ 1000000000) (ha : 0 ≤ a) (ha2 : a < c)
include m hf hc hc2 hs ha ha2
set_option maxHeartbeats 8000000 in
theorem oneL (x5 x6 x7 x8 x9 : AV) : ∀ (k : Nat) (v : AV) (l : List ImS) (K : AHeap) (j10 j11 j14 j15 j16 j17 j18 j19 j20 j21 j22 j23 j24 j25 j26 j27 j28 j29 j30 j31 j32 j33 j34 j35 j36 j37 j38 j39 j40 j41 j42 j43 j44 j45 j46 j47 j48 j49 j50 j51 j52 j53 j54 j55 j56 j57 j58 j59 j60 j61 j62 j63 j64 j65 j66 j67 j68 j69 j70 j71 j72 j73 j74 j75 j76 j77 j78 j79 : AV), Adds H K → GR 49 K H.length v (imRows l) → (∀ x ∈ l, x.b.length = 48) → l.length + k = c.toNat →
  Outs (LP1 l42x0 [.ptr q.p 0, .int .i64 f, .int .i64 c, .int .i64 a, .int .u32 seq, x5, x6, x7, x8, x9, j10, j11, v, .int .i64 (l.length : Int), j14, j15, j16, j17, j18, j19, j20, j21, j22, j23, j24, j25, j26, j27, j28, j29, j30, j31, j32, j33, j34, j35, j36, j37, j38, j39, j40, j41, j42, j43, j44, j45, j46, j47, j48, j49, j50, j51, j52, j53, j54, j55, j56, j57, j58, j59, j60, j61, j62, j63, j64, j65, j66, j67, j68, j69, j70, j71, j72, j73, j74, j75, j76, j77, j78, j79] K) fun e t K' => Adds H K' ∧ ∃ fv : Nat → AV, t = [.ptr q.p 0, .int .i64 f, .int .i64 c, .int .i64 a, .int .u32 seq, x5, x6, x7, x8, x9, (fv 10), (fv 11), fv 12, fv 13, (fv 14), (fv 15), (fv 16), (fv 17), (fv 18), (fv 19), (fv 20), (fv 21), (fv 22), (fv 23), (fv 24), (fv 25), (fv 26), (fv 27), (fv 28), (fv 29), (fv 30), (fv 31), (fv 32), (fv 33), (fv 34), (fv 35), (fv 36), (fv 37), (fv 38), (fv 39), (fv 40), (fv 41), (fv 42), (fv 43), (fv 44), (fv 45), (fv 46), (fv 47), (fv 48), (fv 49), (fv 50), (fv 51), (fv 52), (fv 53), (fv 54), (fv 55), (fv 56), (fv 57), (fv 58), (fv 59), (fv 60), (fv 61), (fv 62), (fv 63), (fv 64), (fv 65), (fv 66), (fv 67), (fv 68), (fv 69), (fv 70), (fv 71), (fv 72), (fv 73), (fv 74), (fv 75), (fv 76), (fv 77), (fv 78), (fv 79)] ∧
   ((e = .exit 0 ∧ nextS r f c a seq k l = ([], 0)) ∨ (e = .ret ∧ fv 11 = .int .i64 (nextS r f c a seq k l).2 ∧ GR 49 K' H.length (fv 10) (imRows (nextS r f c a seq k l).1) ∧ ∀ x ∈ (nextS r f c a seq k l).1, x.b.length = 48)) := by
 intro k
 obtain ⟨L, hL⟩ : ∃ L, L = LP1 l42x0 := ⟨_, rfl⟩
 have lo := loop_open hL
 rw [← hL]
 have zl : zbody.length = 48 := zbody_b.1
 have zd : (u8s zbody).drop 48 = [] := List.drop_of_length_le (by rw [u8s_len, zl]; omega)
 induction k with
 | zero =>
  intro v l K j10 j11 j14 j15 j16 j17 j18 j19 j20 j21 j22 j23 j24 j25 j26 j27 j28 j29 j30 j31 j32 j33 j34 j35 j36 j37 j38 j39 j40 j41 j42 j43 j44 j45 j46 j47 j48 j49 j50 j51 j52 j53 j54 j55 j56 j57 j58 j59 j60 j61 j62 j63 j64 j65 j66 j67 j68 j69 j70 j71 j72 j73 j74 j75 j76 j77 j78 j79 aK g hb hi
  have hd : decide ((l.length : Int) < c) = false := decide_eq_false (by omega)
  rw [lo]
  unfold l42x0 nextS
  simp -implicitDefEqProofs (maxSteps := 5000000) only [go_sem, Nat.reduceShiftRight, Nat.reduceAnd, Nat.reduceBNe, Int.reduceEq, Nat.reduceAdd, Nat.reduceSub, Nat.reduceMul, Nat.reduceLeDiff, reduceIte, reduceCtorEq, Nat.reduceBEq, Nat.reduceEqDiff, hd, seqR_exit', outs_normal]
  exact ⟨aK, exF2 rfl (.inl trivial)⟩
 | succ k ih =>
  intro v l K j10 j11 j14 j15 j16 j17 j18 j19 j20 j21 j22 j23 j24 j25 j26 j27 j28 j29 j30 j31 j32 j33 j34 j35 j36 j37 j38 j39 j40 j41 j42 j43 j44 j45 j46 j47 j48 j49 j50 j51 j52 j53 j54 j55 j56 j57 j58 j59 j60 j61 j62 j63 j64 j65 j66 j67 j68 j69 j70 j71 j72 j73 j74 j75 j76 j77 j78 j79 aK g hb hi
  have hd : decide ((l.length : Int) < c) = true := decide_eq_true (by omega)
  have e2 : IntKind.i64.wrap ((l.length : Int) + 1) = ((l.length + 1 : Nat) : Int) := by rw [wrap64 (by omega) (by omega)]; omega
  have mK : RefAt q K n r F := by obtain ⟨G, rfl⟩ := aK; exact m.adds _
  have w1 : IntKind.i64.wrap (a + (l.length : Int)) = a + (l.length : Int) := wrap64 (by omega) (by omega)
  have tr := tmod_rng (show 0 ≤ a + (l.length : Int) by omega) (show 1 ≤ c by omega)
  have rm := int_rem .none .i64 (a + (l.length : Int)) c (by omega)
  have w2 : IntKind.i64.wrap (f + (a + (l.length : Int)).tmod c) = f + (a + (l.length : Int)).tmod c := wrap64 (by omega) (by omega)
  have rd := raRead mK 0 (f + (a + (l.length : Int)).tmod c)
  have ok := ra_ok m 0 (f + (a + (l.length : Int)).tmod c)
  have dc := fun X => rdecC ok (K ++ X)
  have dk := decS_ok ok
  have db := decS_bad (r.read 0 (f + (a + (l.length : Int)).tmod c)).1
  have rl := ok.1
  have sp1 := splice_all z64_len rl (by omega)
  have t64 := u8s_take rl
  have nil48 : ∀ x ∈ ([] : List ImS), x.b.length = 48 := fun x hx => by cases hx
  have gn : ∀ K', GR 49 K' H.length .nilSl (imRows []) := fun K' => .inl ⟨rfl, rfl⟩
  have aN : ∀ X : AHeap, Adds H (K ++ X) := fun X => aK.trans ⟨X, rfl⟩
  rw [lo]
  unfold l42x0 nextS readP
  generalize r.read 0 (f + (a + (l.length : Int)).tmod c) = X at *
  obtain ⟨z, e⟩ := X
  simp only at *
  by_cases he : e = 0
  ·have n0 : (e != 0) = false := by rw [he]; rfl
   simp only [if_pos he]
   generalize decS z = D at *
   obtain ⟨⟨pm, ps, pi, pb⟩, de⟩ := D
   have bl := dk.b.1
   unfold PgS.cells at dc
   simp only at dc bl db ⊢
   have t51 : (AV.int .u8 pm :: .int .u32 ps :: .int .i64 pi :: u8s pb).take 51 = AV.int .u8 pm :: .int .u32 ps :: .int .i64 pi :: u8s pb := List.take_of_length_le (by simp [u8s_len, bl])
   have tp51 := u8s_take bl
   have ne := ne_u8 (n := 48) bl zl
   have ret0 : ∀ K', GR 49 K' H.length .nilSl (imRows ([] : List ImS)) := gn
   by_cases hde : de = 0
   ·have n1 : (de != 0) = false := by rw [hde]; rfl
    by_cases hq : ps = seq
    ·have n2 : (ps != seq) = false := by rw [hq]; simp
     simp only [if_pos hq]
     by_cases h67 : pm = 67
     ·have n3 : (pm == 67) = true := by rw [h67]; rfl
      have h73 : ¬ pm = 73 := by omega
      simp only [if_neg h73]
      by_cases hl1 : (l.length : Int) < 1
      ·have d1 := decide_eq_true hl1
       have e0 : l = [] := List.eq_nil_of_length_eq_zero (by omega)
       have es : (if (⟨pm, ps, pi, pb⟩ : PgS) = commitP seq l.length then (l, (0 : Int)) else ([], 0)) = ([], 0) := by rw [e0]; split <;> rfl
       rw [es]
       simp -implicitDefEqProofs (maxSteps := 5000000) only [go_sem, Nat.reduceShiftRight, Nat.reduceAnd, Nat.reduceBNe, Int.reduceEq, Nat.reduceAdd, Nat.reduceSub, Nat.reduceMul, Nat.reduceLeDiff, reduceIte, reduceCtorEq, Nat.reduceBEq, Nat.reduceEqDiff, wrap64, runC_loop, runC_range, callF_fn, callV_fn, callV_yld, yield_eq, yieldBody, yieldRaw, roundMid, roundEnd, rangeEnd, Bool.not_not, put_cons, put_nil, trim_same, at_zero, at_add, set_zero, set_add, store_one, write_zero, write_add, write_head, write_succ, splice_one, splice_more, List.drop_nil, List.take_nil, cell_int, cell_bool, fillS, splice_one, idxA, Ex.isNormal, List.set_nil, List.length_set, List.all_cons, List.all_nil, Bool.and_self, and_self, true_and, and_true, List.getElem?_nil, Int.reduceLT, Int.reduceLE, Int.reduceToNat, Int.toNat_zero, Int.toNat_one, Int.reduceAdd, Int.reduceSub, Int.reduceMul, Int.reduceNeg, Int.reduceBEq, Int.reduceBNe, Int.reduceGE, Int.reduceGT, Nat.reduceLT, trim_keep, under_fn, under_ptr, under_sl, Nat.lt_irrefl, not_lt_add, trim_tail, keepOk, ABlk.vals, Int.cast_ofNat_Int, decide_true, decide_false, List.all_cons, List.all_nil, Nat.zero_mul, Nat.mul_one, Nat.one_mul, hd, w1, rm, w2, rd, dc, rep_z64, rep_z48, sp1, t64, u8s_len, rl, z64_len, zl, bl, zd, u8s_cell, n0, t51, tp51, n1, n2, n3, d1, seqR_ret, outs_normal]
       exact ⟨aN _, exF2 rfl (.inr ⟨rfl, gn _, nil48⟩)⟩
      ·have d1 := decide_eq_false hl1
       by_cases hpi : pi = (l.length : Int)
       ·have n4 : (pi != (l.length : Int)) = false := by rw [hpi]; simp
        by_cases hpb : pb = zbody
        ·have d2 := decide_eq_true hpb
         have hcm : (⟨pm, ps, pi, pb⟩ : PgS) = commitP seq l.length := by rw [h67, hq, hpi, hpb]; rfl
         simp only [if_pos hcm]
         simp -implicitDefEqProofs (maxSteps := 5000000) only [go_sem, Nat.reduceShiftRight, Nat.reduceAnd, Nat.reduceBNe, Int.reduceEq, Nat.reduceAdd, Nat.reduceSub, Nat.reduceMul, Nat.reduceLeDiff, reduceIte, reduceCtorEq, Nat.reduceBEq, Nat.reduceEqDiff, wrap64, runC_loop, runC_range, callF_fn, callV_fn, callV_yld, yield_eq, yieldBody, yieldRaw, roundMid, roundEnd, rangeEnd, Bool.not_not, put_cons, put_nil, trim_same, at_zero, at_add, set_zero, set_add, store_one, write_zero, write_add, write_head, write_succ, splice_one, splice_more, List.drop_nil, List.take_nil, cell_int, cell_bool, fillS, splice_one, idxA, Ex.isNormal, List.set_nil, List.length_set, List.all_cons, List.all_nil, Bool.and_self, and_self, true_and, and_true, List.getElem?_nil, Int.reduceLT, Int.reduceLE, Int.reduceToNat, Int.toNat_zero, Int.toNat_one, Int.reduceAdd, Int.reduceSub, Int.reduceMul, Int.reduceNeg, Int.reduceBEq, Int.reduceBNe, Int.reduceGE, Int.reduceGT, Nat.reduceLT, trim_keep, under_fn, under_ptr, under_sl, Nat.lt_irrefl, not_lt_add, trim_tail, keepOk, ABlk.vals, Int.cast_ofNat_Int, decide_true, decide_false, List.all_cons, List.all_nil, Nat.zero_mul, Nat.mul_one, Nat.one_mul, hd, w1, rm, w2, rd, dc, rep_z64, rep_z48, sp1, t64, u8s_len, rl, z64_len, zl, bl, zd, u8s_cell, n0, t51, tp51, n1, n2, n3, d1, n4, ne, d2, seqR_ret, outs_normal]
         exact ⟨aN _, exF2 rfl (.inr ⟨rfl, g.mono _, hb⟩)⟩
        ·have d2 := decide_eq_false hpb
         rw [if_neg (fun h => hpb (congrArg PgS.b h))]
         simp -implicitDefEqProofs (maxSteps := 5000000) only [go_sem, Nat.reduceShiftRight, Nat.reduceAnd, Nat.reduceBNe, Int.reduceEq, Nat.reduceAdd, Nat.reduceSub, Nat.reduceMul, Nat.reduceLeDiff, reduceIte, reduceCtorEq, Nat.reduceBEq, Nat.reduceEqDiff, wrap64, runC_loop, runC_range, callF_fn, callV_fn, callV_yld, yield_eq, yieldBody, yieldRaw, roundMid, roundEnd, rangeEnd, Bool.not_not, put_cons, put_nil, trim_same, at_zero, at_add, set_zero, set_add, store_one, write_zero, write_add, write_head, write_succ, splice_one, splice_more, List.drop_nil, List.take_nil, cell_int, cell_bool, fillS, splice_one, idxA, Ex.isNormal, List.set_nil, List.length_set, List.all_cons, List.all_nil, Bool.and_self, and_self, true_and, and_true, List.getElem?_nil, Int.reduceLT, Int.reduceLE, Int.reduceToNat, Int.toNat_zero, Int.toNat_one, Int.reduceAdd, Int.reduceSub, Int.reduceMul, Int.reduceNeg, Int.reduceBEq, Int.reduceBNe, Int.reduceGE, Int.reduceGT, Nat.reduceLT, trim_keep, under_fn, under_ptr, under_sl, Nat.lt_irrefl, not_lt_add, trim_tail, keepOk, ABlk.vals, Int.cast_ofNat_Int, decide_true, decide_false, List.all_cons, List.all_nil, Nat.zero_mul, Nat.mul_one, Nat.one_mul, hd, w1, rm, w2, rd, dc, rep_z64, rep_z48, sp1, t64, u8s_len, rl, z64_len, zl, bl, zd, u8s_cell, n0, t51, tp51, n1, n2, n3, d1, n4, ne, d2, seqR_ret, outs_normal]
         exact ⟨aN _, exF2 rfl (.inr ⟨rfl, gn _, nil48⟩)⟩
       ·have n4 : (pi != (l.length : Int)) = true := by simpa using hpi
        rw [if_neg (fun h => hpi (congrArg PgS.i h))]
        simp -implicitDefEqProofs (maxSteps := 5000000) only [go_sem, Nat.reduceShiftRight, Nat.reduceAnd, Nat.reduceBNe, Int.reduceEq, Nat.reduceAdd, Nat.reduceSub, Nat.reduceMul, Nat.reduceLeDiff, reduceIte, reduceCtorEq, Nat.reduceBEq, Nat.reduceEqDiff, wrap64, runC_loop, runC_range, callF_fn, callV_fn, callV_yld, yield_eq, yieldBody, yieldRaw, roundMid, roundEnd, rangeEnd, Bool.not_not, put_cons, put_nil, trim_same, at_zero, at_add, set_zero, set_add, store_one, write_zero, write_add, write_head, write_succ, splice_one, splice_more, List.drop_nil, List.take_nil, cell_int, cell_bool, fillS, splice_one, idxA, Ex.isNormal, List.set_nil, List.length_set, List.all_cons, List.all_nil, Bool.and_self, and_self, true_and, and_true, List.getElem?_nil, Int.reduceLT, Int.reduceLE, Int.reduceToNat, Int.toNat_zero, Int.toNat_one, Int.reduceAdd, Int.reduceSub, Int.reduceMul, Int.reduceNeg, Int.reduceBEq, Int.reduceBNe, Int.reduceGE, Int.reduceGT, Nat.reduceLT, trim_keep, under_fn, under_ptr, under_sl, Nat.lt_irrefl, not_lt_add, trim_tail, keepOk, ABlk.vals, Int.cast_ofNat_Int, decide_true, decide_false, List.all_cons, List.all_nil, Nat.zero_mul, Nat.mul_one, Nat.one_mul, hd, w1, rm, w2, rd, dc, rep_z64, rep_z48, sp1, t64, u8s_len, rl, z64_len, zl, bl, zd, u8s_cell, n0, t51, tp51, n1, n2, n3, d1, n4, seqR_ret, outs_normal]
        exact ⟨aN _, exF2 rfl (.inr ⟨rfl, gn _, nil48⟩)⟩
     ·have n3 : (pm == 67) = false := by simpa using h67
      by_cases h73 : pm = 73
      ·simp only [if_pos h73]
       have n4 : (pm != 73) = false := by rw [h73]; rfl
       obtain ⟨v', K', aK', g', ea⟩ := GR.app (k := 49) (by omega) (d := ty 49 true 56 (.int .i64 0 :: u8s zbody)) rfl (by decide) (P := H) (H := K ++ [.rw (u8s z), .rw (.int .u8 pm :: .int .u32 ps :: .int .i64 pi :: u8s pb), .rw (.int .i64 pi :: u8s pb)]) (l := v) (rows := imRows l) (r := .int .i64 pi :: u8s pb) (y := .sl (K.length + 2) 0 49 1 1 true) (aN _) (g.mono _) (by
         intro x hx
         obtain ⟨y, hy, rfl⟩ := List.mem_map.1 hx
         simp [ImS.cells, u8s_len, hb y hy]) rfl (by
         unfold srcCells readN cellsOf
         simp [u8s_len, bl, List.take_of_length_le]) (by simp only [List.all_cons, u8s_cell, AV.isCell, Bool.and_self]) (by
         unfold imRows
         rw [List.length_map]
         show (l.length + 1) * 56 ≤ roomy
         unfold roomy; omega)
       rw [show imRows l ++ [.int .i64 pi :: u8s pb] = imRows (l ++ [⟨pi, pb⟩]) by unfold imRows; rw [List.map_append]; rfl] at g'
       have sp : splice (.int .i64 pi :: u8s zbody) 1 (u8s pb) = .int .i64 pi :: u8s pb := by
        rw [splice_long _ _ _ (by rw [u8s_len]; omega), u8s_len, bl]
        show .int .i64 pi :: (u8s pb ++ (u8s zbody).drop 48) = _
        rw [zd, List.append_nil]
       have sp2 : splice (.int .i64 0 :: u8s zbody) 0 (.int .i64 pi :: u8s pb) = .int .i64 pi :: u8s pb := by
        rw [splice_long _ _ _ (by simp [u8s_len, bl]), List.drop_of_length_le (by simp [u8s_len, bl, zl]), List.append_nil]; rfl
       have hb2 : ∀ x ∈ l ++ [(⟨pi, pb⟩ : ImS)], x.b.length = 48 := fun x hx => by
        rcases List.mem_append.1 hx with h | h
        ·exact hb x h
        ·rw [List.mem_singleton.1 h]; exact bl
       have hi2 : (l ++ [(⟨pi, pb⟩ : ImS)]).length + k = c.toNat := by rw [List.length_append, List.length_singleton]; omega
       have key := ih v' (l ++ [⟨pi, pb⟩]) K'
       rw [show (((l ++ [(⟨pi, pb⟩ : ImS)]).length : Nat) : Int) = ((l.length + 1 : Nat) : Int) by rw [List.length_append, List.length_singleton]] at key
       clear ih
       generalize nextS r f c a seq k (l ++ [(⟨pi, pb⟩ : ImS)]) = N at key ⊢
       simp -implicitDefEqProofs (maxSteps := 5000000) only [go_sem, Nat.reduceShiftRight, Nat.reduceAnd, Nat.reduceBNe, Int.reduceEq, Nat.reduceAdd, Nat.reduceSub, Nat.reduceMul, Nat.reduceLeDiff, reduceIte, reduceCtorEq, Nat.reduceBEq, Nat.reduceEqDiff, wrap64, runC_loop, runC_range, callF_fn, callV_fn, callV_yld, yield_eq, yieldBody, yieldRaw, roundMid, roundEnd, rangeEnd, Bool.not_not, put_cons, put_nil, trim_same, at_zero, at_add, set_zero, set_add, store_one, write_zero, write_add, write_head, write_succ, splice_one, splice_more, List.drop_nil, List.take_nil, cell_int, cell_bool, fillS, splice_one, idxA, Ex.isNormal, List.set_nil, List.length_set, List.all_cons, List.all_nil, Bool.and_self, and_self, true_and, and_true, List.getElem?_nil, Int.reduceLT, Int.reduceLE, Int.reduceToNat, Int.toNat_zero, Int.toNat_one, Int.reduceAdd, Int.reduceSub, Int.reduceMul, Int.reduceNeg, Int.reduceBEq, Int.reduceBNe, Int.reduceGE, Int.reduceGT, Nat.reduceLT, trim_keep, under_fn, under_ptr, under_sl, Nat.lt_irrefl, not_lt_add, trim_tail, keepOk, ABlk.vals, Int.cast_ofNat_Int, decide_true, decide_false, List.all_cons, List.all_nil, Nat.zero_mul, Nat.mul_one, Nat.one_mul, hd, w1, rm, w2, rd, dc, rep_z64, rep_z48, sp1, t64, u8s_len, rl, z64_len, zl, bl, zd, u8s_cell, n0, t51, tp51, n1, n2, n3, n4, sp, sp2, ea, e2]
       exact key _ _ _ _ _ _ _ _ _ _ _ _ _ _ _ _ _ _ _ _ _ _ _ _ _ _ _ _ _ _ _ _ _ _ _ _ _ _ _ _ _ _ _ _ _ _ _ _ _ _ _ _ _ _ _ _ _ _ _ _ _ _ _ _ _ _ _ _ aK' g' hb2 hi2
      ·have n4 : (pm != 73) = true := by simpa using h73
       simp only [if_neg h73]
       rw [if_neg (fun h => h67 (congrArg PgS.m h))]
       simp -implicitDefEqProofs (maxSteps := 5000000) only [go_sem, Nat.reduceShiftRight, Nat.reduceAnd, Nat.reduceBNe, Int.reduceEq, Nat.reduceAdd, Nat.reduceSub, Nat.reduceMul, Nat.reduceLeDiff, reduceIte, reduceCtorEq, Nat.reduceBEq, Nat.reduceEqDiff, wrap64, runC_loop, runC_range, callF_fn, callV_fn, callV_yld, yield_eq, yieldBody, yieldRaw, roundMid, roundEnd, rangeEnd, Bool.not_not, put_cons, put_nil, trim_same, at_zero, at_add, set_zero, set_add, store_one, write_zero, write_add, write_head, write_succ, splice_one, splice_more, List.drop_nil, List.take_nil, cell_int, cell_bool, fillS, splice_one, idxA, Ex.isNormal, List.set_nil, List.length_set, List.all_cons, List.all_nil, Bool.and_self, and_self, true_and, and_true, List.getElem?_nil, Int.reduceLT, Int.reduceLE, Int.reduceToNat, Int.toNat_zero, Int.toNat_one, Int.reduceAdd, Int.reduceSub, Int.reduceMul, Int.reduceNeg, Int.reduceBEq, Int.reduceBNe, Int.reduceGE, Int.reduceGT, Nat.reduceLT, trim_keep, under_fn, under_ptr, under_sl, Nat.lt_irrefl, not_lt_add, trim_tail, keepOk, ABlk.vals, Int.cast_ofNat_Int, decide_true, decide_false, List.all_cons, List.all_nil, Nat.zero_mul, Nat.mul_one, Nat.one_mul, hd, w1, rm, w2, rd, dc, rep_z64, rep_z48, sp1, t64, u8s_len, rl, z64_len, zl, bl, zd, u8s_cell, n0, t51, tp51, n1, n2, n3, n4, seqR_ret, outs_normal]
       exact ⟨aN _, exF2 rfl (.inr ⟨rfl, gn _, nil48⟩)⟩
    ·have n2 : (ps != seq) = true := by simpa using hq
     simp only [if_neg hq]
     simp -implicitDefEqProofs (maxSteps := 5000000) only [go_sem, Nat.reduceShiftRight, Nat.reduceAnd, Nat.reduceBNe, Int.reduceEq, Nat.reduceAdd, Nat.reduceSub, Nat.reduceMul, Nat.reduceLeDiff, reduceIte, reduceCtorEq, Nat.reduceBEq, Nat.reduceEqDiff, wrap64, runC_loop, runC_range, callF_fn, callV_fn, callV_yld, yield_eq, yieldBody, yieldRaw, roundMid, roundEnd, rangeEnd, Bool.not_not, put_cons, put_nil, trim_same, at_zero, at_add, set_zero, set_add, store_one, write_zero, write_add, write_head, write_succ, splice_one, splice_more, List.drop_nil, List.take_nil, cell_int, cell_bool, fillS, splice_one, idxA, Ex.isNormal, List.set_nil, List.length_set, List.all_cons, List.all_nil, Bool.and_self, and_self, true_and, and_true, List.getElem?_nil, Int.reduceLT, Int.reduceLE, Int.reduceToNat, Int.toNat_zero, Int.toNat_one, Int.reduceAdd, Int.reduceSub, Int.reduceMul, Int.reduceNeg, Int.reduceBEq, Int.reduceBNe, Int.reduceGE, Int.reduceGT, Nat.reduceLT, trim_keep, under_fn, under_ptr, under_sl, Nat.lt_irrefl, not_lt_add, trim_tail, keepOk, ABlk.vals, Int.cast_ofNat_Int, decide_true, decide_false, List.all_cons, List.all_nil, Nat.zero_mul, Nat.mul_one, Nat.one_mul, hd, w1, rm, w2, rd, dc, rep_z64, rep_z48, sp1, t64, u8s_len, rl, z64_len, zl, bl, zd, u8s_cell, n0, t51, tp51, n1, n2, seqR_ret, outs_normal]
     exact ⟨aN _, exF2 rfl (.inr ⟨rfl, gn _, nil48⟩)⟩
   ·have n1 : (de != 0) = true := by simpa using hde
    have hz := db hde
    have m0 : pm = 0 := congrArg PgS.m hz
    simp only [if_neg (show ¬ pm = 73 by omega), if_neg (show ¬ ((⟨pm, ps, pi, pb⟩ : PgS) = commitP seq l.length) from fun h => by have := congrArg PgS.m h; rw [show (commitP seq l.length).m = 67 from rfl] at this; simp only at this; omega), ite_self]
    simp -implicitDefEqProofs (maxSteps := 5000000) only [go_sem, Nat.reduceShiftRight, Nat.reduceAnd, Nat.reduceBNe, Int.reduceEq, Nat.reduceAdd, Nat.reduceSub, Nat.reduceMul, Nat.reduceLeDiff, reduceIte, reduceCtorEq, Nat.reduceBEq, Nat.reduceEqDiff, wrap64, runC_loop, runC_range, callF_fn, callV_fn, callV_yld, yield_eq, yieldBody, yieldRaw, roundMid, roundEnd, rangeEnd, Bool.not_not, put_cons, put_nil, trim_same, at_zero, at_add, set_zero, set_add, store_one, write_zero, write_add, write_head, write_succ, splice_one, splice_more, List.drop_nil, List.take_nil, cell_int, cell_bool, fillS, splice_one, idxA, Ex.isNormal, List.set_nil, List.length_set, List.all_cons, List.all_nil, Bool.and_self, and_self, true_and, and_true, List.getElem?_nil, Int.reduceLT, Int.reduceLE, Int.reduceToNat, Int.toNat_zero, Int.toNat_one, Int.reduceAdd, Int.reduceSub, Int.reduceMul, Int.reduceNeg, Int.reduceBEq, Int.reduceBNe, Int.reduceGE, Int.reduceGT, Nat.reduceLT, trim_keep, under_fn, under_ptr, under_sl, Nat.lt_irrefl, not_lt_add, trim_tail, keepOk, ABlk.vals, Int.cast_ofNat_Int, decide_true, decide_false, List.all_cons, List.all_nil, Nat.zero_mul, Nat.mul_one, Nat.one_mul, hd, w1, rm, w2, rd, dc, rep_z64, rep_z48, sp1, t64, u8s_len, rl, z64_len, zl, bl, zd, u8s_cell, n0, t51, tp51, n1, seqR_ret, outs_normal]
    exact ⟨aN _, exF2 rfl (.inr ⟨rfl, gn _, nil48⟩)⟩
  ·have n0 : (e != 0) = true := by simpa using he
   simp only [if_neg he]
   simp -implicitDefEqProofs (maxSteps := 5000000) only [go_sem, Nat.reduceShiftRight, Nat.reduceAnd, Nat.reduceBNe, Int.reduceEq, Nat.reduceAdd, Nat.reduceSub, Nat.reduceMul, Nat.reduceLeDiff, reduceIte, reduceCtorEq, Nat.reduceBEq, Nat.reduceEqDiff, wrap64, runC_loop, runC_range, callF_fn, callV_fn, callV_yld, yield_eq, yieldBody, yieldRaw, roundMid, roundEnd, rangeEnd, Bool.not_not, put_cons, put_nil, trim_same, at_zero, at_add, set_zero, set_add, store_one, write_zero, write_add, write_head, write_succ, splice_one, splice_more, List.drop_nil, List.take_nil, cell_int, cell_bool, fillS, splice_one, idxA, Ex.isNormal, List.set_nil, List.length_set, List.all_cons, List.all_nil, Bool.and_self, and_self, true_and, and_true, List.getElem?_nil, Int.reduceLT, Int.reduceLE, Int.reduceToNat, Int.toNat_zero, Int.toNat_one, Int.reduceAdd, Int.reduceSub, Int.reduceMul, Int.reduceNeg, Int.reduceBEq, Int.reduceBNe, Int.reduceGE, Int.reduceGT, Nat.reduceLT, trim_keep, under_fn, under_ptr, under_sl, Nat.lt_irrefl, not_lt_add, trim_tail, keepOk, ABlk.vals, Int.cast_ofNat_Int, decide_true, decide_false, List.all_cons, List.all_nil, Nat.zero_mul, Nat.mul_one, Nat.one_mul, hd, w1, rm, w2, rd, rep_z64, sp1, t64, u8s_len, rl, z64_len, u8s_cell, n0, seqR_ret, outs_normal]
   exact ⟨aN _, exF2 rfl (.inr ⟨rfl, gn _, nil48⟩)⟩
end
end Go.Proofs.Ytipedaadjfhdnaa.G06
end
section
namespace Go.Proofs.Ytipedaadjfhdnaa.G06
open Go Go.Proofs.Ytipedaadjfhdnaa.Eng
section
variable {q : QPl} {H : AHeap} {n : Nat} {r : RgS} {F : Nat → Prop} (m : RefAt q H n r F) {f c a seq : Int} (hf : 0 ≤ f) (hc : 2 ≤ c) (hc2 : c ≤ 256) (hs : f + c ≤ 1000000000) (ha : 0 ≤ a) (ha2 : a < c)
include m hf hc hc2 hs ha ha2
set_option maxHeartbeats 8000000 in
theorem oneC : ∃ v K, Adds H K ∧ GR 49 K H.length v (imRows (nextS r f c a seq c.toNat []).1) ∧ (∀ x ∈ (nextS r f c a seq c.toNat []).1, x.b.length = 48) ∧ (envL prog).call 42 [.ptr q.p 0, .int .i64 f, .int .i64 c, .int .i64 a, .int .u32 seq] H = some (.tup [v, .int .i64 (nextS r f c a seq c.toNat []).2], K) := by
 have l0 := oneL (seq := seq) m hf hc hc2 hs ha ha2 (k := c.toNat) (v := .nilSl) (l := []) (K := H)
 rw [show ((([] : List ImS).length : Nat) : Int) = 0 from rfl] at l0
 generalize nextS r f c a seq c.toNat [] = N at l0 ⊢
 have o : Outs (runC (envL prog) (b42 (envL prog)) ([.ptr q.p 0, .int .i64 f, .int .i64 c, .int .i64 a, .int .u32 seq] ++ List.replicate (80 - [AV.ptr q.p 0, .int .i64 f, .int .i64 c, .int .i64 a, .int .u32 seq].length) .undef) H) fun e' t K => Adds H K ∧ ∃ v, GR 49 K H.length v (imRows N.1) ∧ (∀ x ∈ N.1, x.b.length = 48) ∧ fin [.tmp 10, .tmp 11] (some (e', t, K)) = some (.tup [v, .int .i64 N.2], K) := by
  unfold b42
  generalize hQ : (fun (e' : Ex) (t : T) (K : AHeap) => Adds H K ∧ ∃ v, GR 49 K H.length v (imRows N.1) ∧ (∀ x ∈ N.1, x.b.length = 48) ∧ fin [.tmp 10, .tmp 11] (some (e', t, K)) = some (.tup [v, .int .i64 N.2], K)) = Q
  simp -implicitDefEqProofs (maxSteps := 5000000) only [go_sem, Nat.reduceShiftRight, Nat.reduceAnd, Nat.reduceBNe, Int.reduceEq, Nat.reduceAdd, Nat.reduceSub, Nat.reduceMul, Nat.reduceLeDiff, reduceIte, reduceCtorEq, Nat.reduceBEq, Nat.reduceEqDiff, runC_loop]
  unfold LP1 at l0
  generalize (envL prog).loop (runC (envL prog) (l42x0 (envL prog))) = L0 at l0 ⊢
  refine outs_ctx (fun r => seqR (blockR 0 r) _) (l0 _ _ _ _ _ _ _ _ _ _ _ _ _ _ _ _ _ _ _ _ _ _ _ _ _ _ _ _ _ _ _ _ _ _ _ _ _ _ _ _ _ _ _ _ _ _ _ _ _ _ _ _ _ _ _ _ _ _ _ _ _ _ _ _ _ _ _ _ _ _ _ _ _ (Adds.refl _) (.inl ⟨rfl, rfl⟩) (fun x hx => by cases hx) (by simp)) ?_
  rintro e t K' ⟨aK, fv, rfl, ⟨rfl, hN⟩ | ⟨rfl, h7, g, hb⟩⟩
  ·simp -implicitDefEqProofs (maxSteps := 5000000) only [go_sem, Nat.reduceShiftRight, Nat.reduceAnd, Nat.reduceBNe, Int.reduceEq, Nat.reduceAdd, Nat.reduceSub, Nat.reduceMul, Nat.reduceLeDiff, reduceIte, reduceCtorEq, Nat.reduceBEq, Nat.reduceEqDiff, outs_normal]
   subst hQ
   subst hN
   refine ⟨aK, .nilSl, .inl ⟨rfl, rfl⟩, (fun x hx => by cases hx), ?_⟩
   simp -implicitDefEqProofs (maxSteps := 5000000) only [go_sem, Nat.reduceShiftRight, Nat.reduceAnd, Nat.reduceBNe, Int.reduceEq, Nat.reduceAdd, Nat.reduceSub, Nat.reduceMul, Nat.reduceLeDiff, reduceIte, reduceCtorEq, Nat.reduceBEq, Nat.reduceEqDiff]
  ·simp -implicitDefEqProofs (maxSteps := 5000000) only [go_sem, Nat.reduceShiftRight, Nat.reduceAnd, Nat.reduceBNe, Int.reduceEq, Nat.reduceAdd, Nat.reduceSub, Nat.reduceMul, Nat.reduceLeDiff, reduceIte, reduceCtorEq, Nat.reduceBEq, Nat.reduceEqDiff, outs_normal]
   subst hQ
   refine ⟨aK, fv 10, g, hb, ?_⟩
   simp -implicitDefEqProofs (maxSteps := 5000000) only [go_sem, Nat.reduceShiftRight, Nat.reduceAnd, Nat.reduceBNe, Int.reduceEq, Nat.reduceAdd, Nat.reduceSub, Nat.reduceMul, Nat.reduceLeDiff, reduceIte, reduceCtorEq, Nat.reduceBEq, Nat.reduceEqDiff, h7]
 obtain ⟨e', t, K, hr, aK, v, g, hb, hf⟩ := o
 obtain ⟨K', aK', g', et⟩ := gr_trim aK g N.2
 exact ⟨v, K', aK', g', hb, by rw [c42, hr, hf, et]⟩
end
end Go.Proofs.Ytipedaadjfhdnaa.G06
end
section
namespace Go.Proofs.Ytipedaadjfhdnaa.G06
open Go Go.Proofs.Ytipedaadjfhdnaa.Eng
structure RsY (H : AHeap) (K : AHeap) (v : AV) (l : LogS) (vs : List AV) : Prop where
 old : ∀ b, b < H.length → K[b]? = H[b]?
 len : H.length + 2 ≤ K.length
 res : K[H.length]? = some (.rw [.nilSl, .int .i64 0, .int .u32 0, .int .i64 0])
 log : K[H.length + 1]? = some (.rw [v, .int .i64 l.at_, .int .u32 l.seq, .int .i64 0])
 lg : LogH K (H.length + 2) v l.t vs
structure RsZ (H : AHeap) (K : AHeap) (v : AV) (l : LogS) (er : Int) (vs : List AV) : Prop where
 old : ∀ b, b < H.length → K[b]? = H[b]?
 len : H.length ≤ K.length
 res : K[H.length]? = some (.rw [v, .int .i64 l.at_, .int .u32 l.seq, .int .i64 er])
 lg : LogH K H.length v l.t vs
section
variable {q : QPl} {H : AHeap} {n : Nat} {r : RgS} {F : Nat → Prop} (m : RefAt q H n r F) {f c : Int} (hf : 0 ≤ f) (hc : 2 ≤ c) (hc2 : c ≤ 256) (hs : f + c ≤ 1000000000)
include m hf hc hc2 hs
set_option maxHeartbeats 8000000 in
theorem rreplL (x3 x4 x5 x6 x7 x8 x9 x14 x15 x16 x17 x18 x19 x20 x21 x22 x23 x66 : AV) : ∀ (k : Nat) (v : AV) (l : LogS) (vs : List AV) (K : AHeap) (j12 j13 j24 j25 j26 j27 j28 j29 j30 j31 j32 j33 j34 j35 j36 j37 j38 j39 j40 j41 j42 j43 j44 j45 j46 j47 j48 j49 j50 j51 j52 j53 j54 j55 j56 j57 j58 j59 j60 j61 j62 j63 j64 j65 : AV), RsY H K v l vs → 0 ≤ l.at_ → l.at_ < c → l.t.length + k = c.toNat →
  Outs (LP1 l20x0 [.ptr q.p 0, .int .i64 f, .int .i64 c, x3, x4, x5, x6, x7, x8, x9, .ptr H.length 0, .ptr (H.length + 1) 0, j12, j13, x14, x15, x16, x17, x18, x19, x20, x21, x22, x23, j24, j25, j26, j27, j28, j29, j30, j31, j32, j33, j34, j35, j36, j37, j38, j39, j40, j41, j42, j43, j44, j45, j46, j47, j48, j49, j50, j51, j52, j53, j54, j55, j56, j57, j58, j59, j60, j61, j62, j63, j64, j65, x66] K) fun e t K' => ∃ fv : Nat → AV, t = [.ptr q.p 0, .int .i64 f, .int .i64 c, x3, x4, x5, x6, x7, x8, x9, .ptr H.length 0, .ptr (H.length + 1) 0, (fv 12), (fv 13), x14, x15, x16, x17, x18, x19, x20, x21, x22, x23, (fv 24), (fv 25), (fv 26), (fv 27), (fv 28), (fv 29), (fv 30), (fv 31), (fv 32), (fv 33), (fv 34), (fv 35), (fv 36), (fv 37), (fv 38), (fv 39), (fv 40), (fv 41), (fv 42), (fv 43), (fv 44), (fv 45), (fv 46), (fv 47), (fv 48), (fv 49), (fv 50), (fv 51), (fv 52), (fv 53), (fv 54), (fv 55), (fv 56), (fv 57), (fv 58), (fv 59), (fv 60), (fv 61), (fv 62), (fv 63), (fv 64), (fv 65), x66] ∧
   ((e = .exit 0 ∧ (replS r f c k l).2 = 0 ∧ ∃ v' vs', RsY H K' v' (replS r f c k l).1 vs') ∨ (e = .ret ∧ ∃ v' vs', RsZ H K' v' (replS r f c k l).1 (replS r f c k l).2 vs')) := by
 intro k
 obtain ⟨L, hL⟩ : ∃ L, L = LP1 l20x0 := ⟨_, rfl⟩
 have lo := loop_open hL
 rw [← hL]
 induction k with
 | zero =>
  intro v l vs K j12 j13 j24 j25 j26 j27 j28 j29 j30 j31 j32 j33 j34 j35 j36 j37 j38 j39 j40 j41 j42 j43 j44 j45 j46 j47 j48 j49 j50 j51 j52 j53 j54 j55 j56 j57 j58 j59 j60 j61 j62 j63 j64 j65 y h0 h1 hi
  have gl := y.lg.g.len
  have ol : (oneR vs).length = l.t.length := by unfold oneR; rw [List.length_map, y.lg.len]
  rw [ol] at gl
  have hd : decide ((l.t.length : Int) < c) = false := decide_eq_false (by omega)
  have cl := cells_rw y.log
  rw [lo]
  unfold l20x0 replS
  simp -implicitDefEqProofs (maxSteps := 5000000) only [go_sem, Nat.reduceShiftRight, Nat.reduceAnd, Nat.reduceBNe, Int.reduceEq, Nat.reduceAdd, Nat.reduceSub, Nat.reduceMul, Nat.reduceLeDiff, reduceIte, reduceCtorEq, Nat.reduceBEq, Nat.reduceEqDiff, cl, gl, hd, seqR_exit', outs_normal]
  exact exF2 rfl (.inl ⟨v, vs, y⟩)
 | succ k ih =>
  intro v l vs K j12 j13 j24 j25 j26 j27 j28 j29 j30 j31 j32 j33 j34 j35 j36 j37 j38 j39 j40 j41 j42 j43 j44 j45 j46 j47 j48 j49 j50 j51 j52 j53 j54 j55 j56 j57 j58 j59 j60 j61 j62 j63 j64 j65 y h0 h1 hi
  have gl := y.lg.g.len
  have ol : (oneR vs).length = l.t.length := by unfold oneR; rw [List.length_map, y.lg.len]
  rw [ol] at gl
  have hd : decide ((l.t.length : Int) < c) = true := decide_eq_true (by omega)
  have cl := cells_rw y.log
  have mK : RefAt q K n r F := m.fr (F := F) (G := fun _ => False) ⟨by have := y.len; omega, fun b hb _ => y.old b hb⟩ fun _ _ h => h
  obtain ⟨w, K1, a1, gw, w48, ew⟩ := oneC (seq := l.seq) mK hf hc hc2 hs h0 h1
  have y1 : RsY H K1 v l vs := ⟨fun b hb => by
   obtain ⟨G, rfl⟩ := a1
   rw [List.getElem?_append_left (by have := y.len; omega)]; exact y.old b hb, by obtain ⟨G, rfl⟩ := a1; have := y.len; rw [List.length_append]; omega, adds_at a1 y.res, adds_at a1 y.log, y.lg.fr (Fr.adds a1 (fun _ => False)) fun _ _ h => h⟩
  have cl1 := cells_rw (adds_at a1 y.log)
  have wl := gw.len
  unfold imRows at wl
  rw [List.length_map] at wl
  have gwc := gw.cells
  have gv := y.lg.g.cells
  have ltr := lt_of_at y1.res
  have wrE : ∀ er : Int, writeN K1 H.length 0 [.nilSl, .int .i64 0, .int .u32 0, .int .i64 er] = some (K1.set H.length (.rw [.nilSl, .int .i64 0, .int .u32 0, .int .i64 er])) := fun er => by
   rw [write_of y1.res, if_pos ⟨by simp, by rfl⟩, splice_long _ _ _ (by simp)]; rfl
  have wrL : writeN K1 H.length 0 [v, .int .i64 l.at_, .int .u32 l.seq, .int .i64 0] = some (K1.set H.length (.rw [v, .int .i64 l.at_, .int .u32 l.seq, .int .i64 0])) := by
   rw [write_of y1.res, if_pos ⟨by simp, by rw [List.all_cons, gv.2]; rfl⟩, splice_long _ _ _ (by simp)]; rfl
  have oZ : ∀ (k : ABlk) b, b < H.length → (K1.set H.length k)[b]? = H[b]? := fun k b hb => (at_set_ne _ _ _ _ (by omega)).trans (y1.old b hb)
  have lZ : ∀ k : ABlk, H.length ≤ (K1.set H.length k).length := fun k => by rw [List.length_set]; omega
  rw [lo]
  unfold l20x0 replS
  have nl := nextS_len r f c l.at_ l.seq c.toNat []
  generalize nextS r f c l.at_ l.seq c.toNat [] = N at *
  obtain ⟨x, er⟩ := N
  simp only at *
  rw [List.length_nil, Nat.add_zero] at nl
  by_cases he : er = 0
  ·have n0 : (er != 0) = false := by rw [he]; rfl
   simp only [if_pos he]
   by_cases hx : x = []
   ·simp only [if_pos hx]
    have ev : w = .nilSl := by
     rcases gw with ⟨_, h⟩ | ⟨h, _⟩
     ·exact h
     ·exact absurd (by rw [hx]; rfl) h
    subst ev
    simp -implicitDefEqProofs (maxSteps := 5000000) only [go_sem, Nat.reduceShiftRight, Nat.reduceAnd, Nat.reduceBNe, Int.reduceEq, Nat.reduceAdd, Nat.reduceSub, Nat.reduceMul, Nat.reduceLeDiff, reduceIte, reduceCtorEq, Nat.reduceBEq, Nat.reduceEqDiff, wrap64, runC_loop, runC_range, callF_fn, callV_fn, callV_yld, yield_eq, yieldBody, yieldRaw, roundMid, roundEnd, rangeEnd, Bool.not_not, put_cons, put_nil, trim_same, at_zero, at_add, set_zero, set_add, store_one, write_zero, write_add, write_head, write_succ, splice_one, splice_more, List.drop_nil, List.take_nil, cell_int, cell_bool, fillS, splice_one, idxA, Ex.isNormal, List.set_nil, List.length_set, List.all_cons, List.all_nil, Bool.and_self, and_self, true_and, and_true, List.getElem?_nil, Int.reduceLT, Int.reduceLE, Int.reduceToNat, Int.toNat_zero, Int.toNat_one, Int.reduceAdd, Int.reduceSub, Int.reduceMul, Int.reduceNeg, Int.reduceBEq, Int.reduceBNe, Int.reduceGE, Int.reduceGT, Nat.reduceLT, trim_keep, under_fn, under_ptr, under_sl, Nat.lt_irrefl, not_lt_add, trim_tail, keepOk, ABlk.vals, Int.cast_ofNat_Int, decide_true, decide_false, List.all_cons, List.all_nil, Nat.zero_mul, Nat.mul_one, Nat.one_mul, cl, cl1, gl, hd, ew, n0, wl, wrL, seqR_ret, outs_normal]
    exact exF2 rfl (.inr ⟨v, vs, oZ _, lZ _, at_set _ _ _ ltr, (y1.lg.fr (Fr.set (F := (· = H.length)) _ _ rfl) fun b hb => by omega).low (by omega)⟩)
   ·simp only [if_neg hx]
    have ev : ∃ b o z n' cc e, w = .sl b o z n' cc e := by
     rcases gw with ⟨h, _⟩ | ⟨_, b, _, h, _⟩
     ·exact absurd (by unfold imRows at h; simpa using h) hx
     ·exact ⟨_, _, _, _, _, _, h⟩
    have es : binV .eql .slice w .nilSl = some (.bool false) := by
     obtain ⟨_, _, _, _, _, _, rfl⟩ := ev; rfl
    obtain ⟨v', K2, ea, lg2, f2, len2, cv, iv⟩ := LogH.push (d := ty 1 false 24 [.nilSl]) rfl rfl y.lg a1 gw w48 (by have := y.len; omega) (by omega)
    have nB : ∀ b, b < H.length + 2 → ¬ slb v = some b := fun b hb h => by have := (y.lg.g.out b h).1; omega
    have b2 : K2[H.length + 1]? = some (.rw [v, .int .i64 l.at_, .int .u32 l.seq, .int .i64 0]) := f2.at (adds_at a1 y.log) (nB _ (by omega))
    have w1 : IntKind.i64.wrap (l.at_ + (x.length : Int)) = l.at_ + (x.length : Int) := wrap64 (by omega) (by omega)
    have w2 : IntKind.i64.wrap (l.at_ + (x.length : Int) + 1) = l.at_ + (x.length : Int) + 1 := wrap64 (by omega) (by omega)
    have rm := int_rem .none .i64 (l.at_ + (x.length : Int) + 1) c (by omega)
    have tr := tmod_rng (show 0 ≤ l.at_ + (x.length : Int) + 1 by omega) (show 1 ≤ c by omega)
    have lt2 := lt_of_at b2
    have wrA : writeN K2 (H.length + 1) 0 [v'] = some (K2.set (H.length + 1) (.rw [v', .int .i64 l.at_, .int .u32 l.seq, .int .i64 0])) := by
     rw [write_of b2, if_pos ⟨by simp, by simp [iv]⟩, splice_one]; rfl
    have wrB : writeN (K2.set (H.length + 1) (.rw [v', .int .i64 l.at_, .int .u32 l.seq, .int .i64 0])) (H.length + 1) 1 [.int .i64 ((l.at_ + (x.length : Int) + 1).tmod c)] = some (K2.set (H.length + 1) (.rw [v', .int .i64 ((l.at_ + (x.length : Int) + 1).tmod c), .int .u32 l.seq, .int .i64 0])) := by
     rw [write_of (at_set _ _ _ lt2), if_pos ⟨by simp, rfl⟩, splice_one, List.set_set]; rfl
    have wrC : writeN (K2.set (H.length + 1) (.rw [v', .int .i64 ((l.at_ + (x.length : Int) + 1).tmod c), .int .u32 l.seq, .int .i64 0])) (H.length + 1) 2 [.int .u32 (IntKind.u32.wrap (l.seq + 1))] = some (K2.set (H.length + 1) (.rw [v', .int .i64 ((l.at_ + (x.length : Int) + 1).tmod c), .int .u32 (IntKind.u32.wrap (l.seq + 1)), .int .i64 0])) := by
     rw [write_of (at_set _ _ _ lt2), if_pos ⟨by simp, rfl⟩, splice_one, List.set_set]; rfl
    have cA : cellsOf (K2.set (H.length + 1) (.rw [v', .int .i64 l.at_, .int .u32 l.seq, .int .i64 0])) (H.length + 1) = some [v', .int .i64 l.at_, .int .u32 l.seq, .int .i64 0] := cells_rw (at_set _ _ _ lt2)
    have cB : cellsOf (K2.set (H.length + 1) (.rw [v', .int .i64 ((l.at_ + (x.length : Int) + 1).tmod c), .int .u32 l.seq, .int .i64 0])) (H.length + 1) = some [v', .int .i64 ((l.at_ + (x.length : Int) + 1).tmod c), .int .u32 l.seq, .int .i64 0] := cells_rw (at_set _ _ _ lt2)
    have y2 : RsY H (K2.set (H.length + 1) (.rw [v', .int .i64 ((l.at_ + (x.length : Int) + 1).tmod c), .int .u32 (IntKind.u32.wrap (l.seq + 1)), .int .i64 0])) v' ⟨l.t ++ [x], (l.at_ + (x.length : Int) + 1).tmod c, IntKind.u32.wrap (l.seq + 1)⟩ (vs ++ [w]) := by
     refine ⟨fun b hb => ?_, by rw [List.length_set]; have := y1.len; omega, ?_, at_set _ _ _ lt2, lg2.fr (Fr.set (F := (· = H.length + 1)) _ _ rfl) fun b hb => by omega⟩
     ·rw [at_set_ne _ _ _ _ (by omega), f2.2 b (by have := y1.len; omega) (nB _ (by omega))]; exact y1.old b hb
     ·rw [at_set_ne _ _ _ _ (by omega)]; exact f2.at y1.res (nB _ (by omega))
    have key := ih v' ⟨l.t ++ [x], (l.at_ + (x.length : Int) + 1).tmod c, IntKind.u32.wrap (l.seq + 1)⟩ (vs ++ [w]) (K2.set (H.length + 1) (.rw [v', .int .i64 ((l.at_ + (x.length : Int) + 1).tmod c), .int .u32 (IntKind.u32.wrap (l.seq + 1)), .int .i64 0]))
    clear ih
    generalize replS r f c k ⟨l.t ++ [x], (l.at_ + (x.length : Int) + 1).tmod c, IntKind.u32.wrap (l.seq + 1)⟩ = N at key ⊢
    simp -implicitDefEqProofs (maxSteps := 5000000) only [go_sem, Nat.reduceShiftRight, Nat.reduceAnd, Nat.reduceBNe, Int.reduceEq, Nat.reduceAdd, Nat.reduceSub, Nat.reduceMul, Nat.reduceLeDiff, reduceIte, reduceCtorEq, Nat.reduceBEq, Nat.reduceEqDiff, wrap64, runC_loop, runC_range, callF_fn, callV_fn, callV_yld, yield_eq, yieldBody, yieldRaw, roundMid, roundEnd, rangeEnd, Bool.not_not, put_cons, put_nil, trim_same, at_zero, at_add, set_zero, set_add, store_one, write_zero, write_add, write_head, write_succ, splice_one, splice_more, List.drop_nil, List.take_nil, cell_int, cell_bool, fillS, splice_one, idxA, Ex.isNormal, List.set_nil, List.length_set, List.all_cons, List.all_nil, Bool.and_self, and_self, true_and, and_true, List.getElem?_nil, Int.reduceLT, Int.reduceLE, Int.reduceToNat, Int.toNat_zero, Int.toNat_one, Int.reduceAdd, Int.reduceSub, Int.reduceMul, Int.reduceNeg, Int.reduceBEq, Int.reduceBNe, Int.reduceGE, Int.reduceGT, Nat.reduceLT, trim_keep, under_fn, under_ptr, under_sl, Nat.lt_irrefl, not_lt_add, trim_tail, keepOk, ABlk.vals, Int.cast_ofNat_Int, decide_true, decide_false, List.all_cons, List.all_nil, Nat.zero_mul, Nat.mul_one, Nat.one_mul, cl, cl1, gl, hd, ew, n0, wl, es, gwc.1, ea, wrA, wrB, wrC, cA, cB, w1, w2, rm, cv, store_one]
    exact key _ _ _ _ _ _ _ _ _ _ _ _ _ _ _ _ _ _ _ _ _ _ _ _ _ _ _ _ _ _ _ _ _ _ _ _ _ _ _ _ _ _ _ _ y2 tr.1 tr.2 (by simp only [List.length_append, List.length_singleton]; omega)
  ·have n0 : (er != 0) = true := by simpa using he
   simp only [if_neg he]
   have wr := wrE er
   simp -implicitDefEqProofs (maxSteps := 5000000) only [go_sem, Nat.reduceShiftRight, Nat.reduceAnd, Nat.reduceBNe, Int.reduceEq, Nat.reduceAdd, Nat.reduceSub, Nat.reduceMul, Nat.reduceLeDiff, reduceIte, reduceCtorEq, Nat.reduceBEq, Nat.reduceEqDiff, wrap64, runC_loop, runC_range, callF_fn, callV_fn, callV_yld, yield_eq, yieldBody, yieldRaw, roundMid, roundEnd, rangeEnd, Bool.not_not, put_cons, put_nil, trim_same, at_zero, at_add, set_zero, set_add, store_one, write_zero, write_add, write_head, write_succ, splice_one, splice_more, List.drop_nil, List.take_nil, cell_int, cell_bool, fillS, splice_one, idxA, Ex.isNormal, List.set_nil, List.length_set, List.all_cons, List.all_nil, Bool.and_self, and_self, true_and, and_true, List.getElem?_nil, Int.reduceLT, Int.reduceLE, Int.reduceToNat, Int.toNat_zero, Int.toNat_one, Int.reduceAdd, Int.reduceSub, Int.reduceMul, Int.reduceNeg, Int.reduceBEq, Int.reduceBNe, Int.reduceGE, Int.reduceGT, Nat.reduceLT, trim_keep, under_fn, under_ptr, under_sl, Nat.lt_irrefl, not_lt_add, trim_tail, keepOk, ABlk.vals, Int.cast_ofNat_Int, decide_true, decide_false, List.all_cons, List.all_nil, Nat.zero_mul, Nat.mul_one, Nat.one_mul, cl, gl, hd, ew, n0, wl, wr, seqR_ret, outs_normal]
   exact exF2 rfl (.inr ⟨.nilSl, [], oZ _, lZ _, at_set _ _ _ ltr, LogH.nil _ _⟩)
end
end Go.Proofs.Ytipedaadjfhdnaa.G06
end
section
namespace Go.Proofs.Ytipedaadjfhdnaa.G06
open Go Go.Proofs.Ytipedaadjfhdnaa.Eng
theorem log_trim4 {H K : AHeap} (a : Adds H K) {v : AV} {T : List (List ImS)} {vs : List AV} (l : LogH K H.length v T vs) (x y e : Int) : ∃ K' , Adds H K' ∧ LogH K' H.length v T vs ∧ trim H (some (.agg [v, .int .i64 x, .int .u32 y, .int .i64 e], K)) = some (.agg [v, .int .i64 x, .int .u32 y, .int .i64 e], K') := by
 rcases l.g with ⟨h0, rfl⟩ | ⟨h0, b, hb, rfl, h⟩
 ·obtain ⟨G, rfl⟩ := a
  have hv : vs = [] := by
   cases vs with
   | nil => rfl
   | cons _ _ => simp [oneR] at h0
  have hT : T = [] := List.eq_nil_of_length_eq_zero (by rw [← l.len, hv]; rfl)
  subst hv; subst hT
  exact ⟨H, Adds.refl H, LogH.nil H _, trim_app (by simp [AV.under, underAll])⟩
 ·exact ⟨K, a, l, trim_keep (by simp [AV.under, underAll]; omega)⟩
section
variable {q : QPl} {H : AHeap} {n : Nat} {r : RgS} {F : Nat → Prop} (m : RefAt q H n r F)
include m
set_option maxHeartbeats 8000000 in
theorem rreplC (f c a seq : Int) : ∃ v vs K, Adds H K ∧ LogH K H.length v (replayS r f c a seq).1.t vs ∧ (envL prog).call 20 [.ptr q.p 0, .int .i64 f, .int .i64 c, .int .i64 a, .int .u32 seq] H = some (.agg [v, .int .i64 (replayS r f c a seq).1.at_, .int .u32 (replayS r f c a seq).1.seq, .int .i64 (replayS r f c a seq).2], K) := by
 have gd := fun X => mayC (m.adds X) f c a
 have hl : r.a.length ≤ 4096 := by
  obtain ⟨L0, L1, m, _, _⟩ := m
  rw [← m.e0, List.length_map]; exact m.k0.sz
 unfold replayS
 by_cases hg : goodS r f c a
 ·rw [if_pos hg]
  have dg := decide_eq_true hg
  obtain ⟨hf, hc, hc2, hfl, ha, ha2⟩ := hg
  have l0 := rreplL m hf hc hc2 (by omega) (k := c.toNat) (v := .nilSl) (l := ⟨[], a, seq⟩) (vs := []) (K := H ++ [.rw [.nilSl, .int .i64 0, .int .u32 0, .int .i64 0], .rw [.nilSl, .int .i64 a, .int .u32 seq, .int .i64 0]])
  generalize replS r f c c.toNat ⟨[], a, seq⟩ = N at l0 ⊢
  have o : Outs (runC (envL prog) (b20 (envL prog)) ([.ptr q.p 0, .int .i64 f, .int .i64 c, .int .i64 a, .int .u32 seq] ++ List.replicate (67 - [AV.ptr q.p 0, .int .i64 f, .int .i64 c, .int .i64 a, .int .u32 seq].length) .undef) H) fun e' t K => Adds H K ∧ ∃ v vs, LogH K H.length v N.1.t vs ∧ fin [.cell 10 4 true] (some (e', t, K)) = some (.agg [v, .int .i64 N.1.at_, .int .u32 N.1.seq, .int .i64 N.2], K) := by
   unfold b20
   generalize hQ : (fun (e' : Ex) (t : T) (K : AHeap) => Adds H K ∧ ∃ v vs, LogH K H.length v N.1.t vs ∧ fin [.cell 10 4 true] (some (e', t, K)) = some (.agg [v, .int .i64 N.1.at_, .int .u32 N.1.seq, .int .i64 N.2], K)) = Q
   simp -implicitDefEqProofs (maxSteps := 5000000) only [go_sem, Nat.reduceShiftRight, Nat.reduceAnd, Nat.reduceBNe, Int.reduceEq, Nat.reduceAdd, Nat.reduceSub, Nat.reduceMul, Nat.reduceLeDiff, reduceIte, reduceCtorEq, Nat.reduceBEq, Nat.reduceEqDiff, wrap64, runC_loop, runC_range, callF_fn, callV_fn, callV_yld, yield_eq, yieldBody, yieldRaw, roundMid, roundEnd, rangeEnd, Bool.not_not, put_cons, put_nil, trim_same, at_zero, at_add, set_zero, set_add, store_one, write_zero, write_add, write_head, write_succ, splice_one, splice_more, List.drop_nil, List.take_nil, cell_int, cell_bool, fillS, splice_one, idxA, Ex.isNormal, List.set_nil, List.length_set, List.all_cons, List.all_nil, Bool.and_self, and_self, true_and, and_true, List.getElem?_nil, Int.reduceLT, Int.reduceLE, Int.reduceToNat, Int.toNat_zero, Int.toNat_one, Int.reduceAdd, Int.reduceSub, Int.reduceMul, Int.reduceNeg, Int.reduceBEq, Int.reduceBNe, Int.reduceGE, Int.reduceGT, Nat.reduceLT, trim_keep, under_fn, under_ptr, under_sl, Nat.lt_irrefl, not_lt_add, trim_tail, keepOk, ABlk.vals, Int.cast_ofNat_Int, decide_true, decide_false, List.all_cons, List.all_nil, Nat.zero_mul, Nat.mul_one, Nat.one_mul, runC_loop, gd, dg]
   unfold LP1 at l0
   generalize (envL prog).loop (runC (envL prog) (l20x0 (envL prog))) = L0 at l0 ⊢
   refine outs_ctx (fun r => seqR (blockR 0 r) _) (l0 _ _ _ _ _ _ _ _ _ _ _ _ _ _ _ _ _ _ _ _ _ _ _ _ _ _ _ _ _ _ _ _ _ _ _ _ _ _ _ _ _ _ _ _ _ _ _ _ _ _ _ _ _ _ _ _ _ _ _ _ _ _ ?_ ha ha2 (by simp)) ?_
   ·exact ⟨fun b hb => List.getElem?_append_left hb, by simp, by simp, by simp, LogH.nil _ _⟩
   rintro e t K' ⟨fv, rfl, ⟨rfl, hN, v', vs', y⟩ | ⟨rfl, v', vs', y⟩⟩
   ·have cl := cells_rw y.log
    have lt := lt_of_at y.res
    have aH : Adds H K' := Fr.old (h0 := H) (H := H) (F := fun _ => False) ⟨by have := y.len; omega, fun b hb _ => y.old b hb⟩ (Adds.refl H) fun _ _ h => h
    have gv := y.lg.g.cells
    have wr : writeN K' H.length 0 [v', .int .i64 N.1.at_, .int .u32 N.1.seq, .int .i64 0] = some (K'.set H.length (.rw [v', .int .i64 N.1.at_, .int .u32 N.1.seq, .int .i64 0])) := by
     rw [write_of y.res, if_pos ⟨by simp, by rw [List.all_cons, gv.2]; rfl⟩, splice_long _ _ _ (by simp)]; rfl
    have cr : cellsOf (K'.set H.length (.rw [v', .int .i64 N.1.at_, .int .u32 N.1.seq, .int .i64 0])) H.length = some [v', .int .i64 N.1.at_, .int .u32 N.1.seq, .int .i64 0] := cells_rw (at_set _ _ _ lt)
    have ll := y.lg.fr (Fr.set (F := (· = H.length)) K' (.rw [v', .int .i64 N.1.at_, .int .u32 N.1.seq, .int .i64 0]) rfl) fun b hb => by omega
    simp -implicitDefEqProofs (maxSteps := 5000000) only [go_sem, Nat.reduceShiftRight, Nat.reduceAnd, Nat.reduceBNe, Int.reduceEq, Nat.reduceAdd, Nat.reduceSub, Nat.reduceMul, Nat.reduceLeDiff, reduceIte, reduceCtorEq, Nat.reduceBEq, Nat.reduceEqDiff, wrap64, runC_loop, runC_range, callF_fn, callV_fn, callV_yld, yield_eq, yieldBody, yieldRaw, roundMid, roundEnd, rangeEnd, Bool.not_not, put_cons, put_nil, trim_same, at_zero, at_add, set_zero, set_add, store_one, write_zero, write_add, write_head, write_succ, splice_one, splice_more, List.drop_nil, List.take_nil, cell_int, cell_bool, fillS, splice_one, idxA, Ex.isNormal, List.set_nil, List.length_set, List.all_cons, List.all_nil, Bool.and_self, and_self, true_and, and_true, List.getElem?_nil, Int.reduceLT, Int.reduceLE, Int.reduceToNat, Int.toNat_zero, Int.toNat_one, Int.reduceAdd, Int.reduceSub, Int.reduceMul, Int.reduceNeg, Int.reduceBEq, Int.reduceBNe, Int.reduceGE, Int.reduceGT, Nat.reduceLT, trim_keep, under_fn, under_ptr, under_sl, Nat.lt_irrefl, not_lt_add, trim_tail, keepOk, ABlk.vals, Int.cast_ofNat_Int, decide_true, decide_false, List.all_cons, List.all_nil, Nat.zero_mul, Nat.mul_one, Nat.one_mul, cl, wr, outs_normal]
    subst hQ
    refine ⟨adds_set aH _ (Nat.le_refl _), v', vs', ll.low (by omega), ?_⟩
    rw [hN]
    simp -implicitDefEqProofs (maxSteps := 5000000) only [go_sem, Nat.reduceShiftRight, Nat.reduceAnd, Nat.reduceBNe, Int.reduceEq, Nat.reduceAdd, Nat.reduceSub, Nat.reduceMul, Nat.reduceLeDiff, reduceIte, reduceCtorEq, Nat.reduceBEq, Nat.reduceEqDiff, cr]
   ·have cr := cells_rw y.res
    have aH : Adds H K' := Fr.old (h0 := H) (H := H) (F := fun _ => False) ⟨y.len, fun b hb _ => y.old b hb⟩ (Adds.refl H) fun _ _ h => h
    simp -implicitDefEqProofs (maxSteps := 5000000) only [go_sem, Nat.reduceShiftRight, Nat.reduceAnd, Nat.reduceBNe, Int.reduceEq, Nat.reduceAdd, Nat.reduceSub, Nat.reduceMul, Nat.reduceLeDiff, reduceIte, reduceCtorEq, Nat.reduceBEq, Nat.reduceEqDiff, outs_normal]
    subst hQ
    refine ⟨aH, v', vs', y.lg, ?_⟩
    simp -implicitDefEqProofs (maxSteps := 5000000) only [go_sem, Nat.reduceShiftRight, Nat.reduceAnd, Nat.reduceBNe, Int.reduceEq, Nat.reduceAdd, Nat.reduceSub, Nat.reduceMul, Nat.reduceLeDiff, reduceIte, reduceCtorEq, Nat.reduceBEq, Nat.reduceEqDiff, cr]
  obtain ⟨e', t, K, hr, aK, v, vs, g, hf⟩ := o
  obtain ⟨K', aK', g', et⟩ := log_trim4 aK g N.1.at_ N.1.seq N.2
  exact ⟨v, vs, K', aK', g', by rw [c20, hr, hf, et]⟩
 ·rw [if_neg hg]
  have dg := decide_eq_false hg
  refine ⟨.nilSl, [], H, Adds.refl H, LogH.nil _ _, ?_⟩
  rw [c20]
  unfold b20
  simp -implicitDefEqProofs (maxSteps := 5000000) only [go_sem, Nat.reduceShiftRight, Nat.reduceAnd, Nat.reduceBNe, Int.reduceEq, Nat.reduceAdd, Nat.reduceSub, Nat.reduceMul, Nat.reduceLeDiff, reduceIte, reduceCtorEq, Nat.reduceBEq, Nat.reduceEqDiff, wrap64, runC_loop, runC_range, callF_fn, callV_fn, callV_yld, yield_eq, yieldBody, yieldRaw, roundMid, roundEnd, rangeEnd, Bool.not_not, put_cons, put_nil, trim_same, at_zero, at_add, set_zero, set_add, store_one, write_zero, write_add, write_head, write_succ, splice_one, splice_more, List.drop_nil, List.take_nil, cell_int, cell_bool, fillS, splice_one, idxA, Ex.isNormal, List.set_nil, List.length_set, List.all_cons, List.all_nil, Bool.and_self, and_self, true_and, and_true, List.getElem?_nil, Int.reduceLT, Int.reduceLE, Int.reduceToNat, Int.toNat_zero, Int.toNat_one, Int.reduceAdd, Int.reduceSub, Int.reduceMul, Int.reduceNeg, Int.reduceBEq, Int.reduceBNe, Int.reduceGE, Int.reduceGT, Nat.reduceLT, trim_keep, under_fn, under_ptr, under_sl, Nat.lt_irrefl, not_lt_add, trim_tail, keepOk, ABlk.vals, Int.cast_ofNat_Int, decide_true, decide_false, List.all_cons, List.all_nil, Nat.zero_mul, Nat.mul_one, Nat.one_mul, gd, dg]
end
end Go.Proofs.Ytipedaadjfhdnaa.G06
end
section
namespace Go.Proofs.Ytipedaadjfhdnaa.G06
open Go Go.Proofs.Ytipedaadjfhdnaa.Eng
section
variable {H : AHeap} {B : Nat} {w : AV} {l : List ImS} (g : GR 49 H B w (imRows l)) (h48 : ∀ x ∈ l, x.b.length = 48) (hl : l.length ≤ 1000)
include g h48 hl
set_option maxHeartbeats 8000000 in
theorem rappL0 (x0 x1 x2 x3 x4 x6 x7 x8 x9 x10 x11 x15 x16 x17 x18 x19 x20 x21 x22 x23 x24 x25 x26 x27 x28 x29 x30 x31 x32 x33 x34 x35 x36 x37 x58 x59 x60 x61 x62 x63 x64 x65 x66 x67 x68 x69 x70 x71 x72 x73 x74 x75 x76 x77 x78 x79 x80 x81 x82 x83 x84 x85 x86 x87 x88 x89 x90 x91 x92 x93 x94 x95 x96 x97 x98 x99 x100 x101 x102 x103 x104 x105 x106 x107 x108 x109 x110 x111 x112 x113 x114 x115 x116 x117 x118 : AV) : ∀ (k i : Nat) (j12 j13 j38 j39 j40 j41 j42 j43 j44 j45 j46 j47 j48 j49 j50 j51 j52 j53 j54 j55 j56 j57 : AV), i + k = l.length →
  Outs (LP1 l19x0 [x0, x1, x2, x3, x4, w, x6, x7, x8, x9, x10, x11, j12, j13, .int .i64 (i : Int), x15, x16, x17, x18, x19, x20, x21, x22, x23, x24, x25, x26, x27, x28, x29, x30, x31, x32, x33, x34, x35, x36, x37, j38, j39, j40, j41, j42, j43, j44, j45, j46, j47, j48, j49, j50, j51, j52, j53, j54, j55, j56, j57, x58, x59, x60, x61, x62, x63, x64, x65, x66, x67, x68, x69, x70, x71, x72, x73, x74, x75, x76, x77, x78, x79, x80, x81, x82, x83, x84, x85, x86, x87, x88, x89, x90, x91, x92, x93, x94, x95, x96, x97, x98, x99, x100, x101, x102, x103, x104, x105, x106, x107, x108, x109, x110, x111, x112, x113, x114, x115, x116, x117, x118] H) fun e t K' => K' = H ∧ ∃ fv : Nat → AV, t = [x0, x1, x2, x3, x4, w, x6, x7, x8, x9, x10, x11, (fv 12), (fv 13), fv 14, x15, x16, x17, x18, x19, x20, x21, x22, x23, x24, x25, x26, x27, x28, x29, x30, x31, x32, x33, x34, x35, x36, x37, (fv 38), (fv 39), (fv 40), (fv 41), (fv 42), (fv 43), (fv 44), (fv 45), (fv 46), (fv 47), (fv 48), (fv 49), (fv 50), (fv 51), (fv 52), (fv 53), (fv 54), (fv 55), (fv 56), (fv 57), x58, x59, x60, x61, x62, x63, x64, x65, x66, x67, x68, x69, x70, x71, x72, x73, x74, x75, x76, x77, x78, x79, x80, x81, x82, x83, x84, x85, x86, x87, x88, x89, x90, x91, x92, x93, x94, x95, x96, x97, x98, x99, x100, x101, x102, x103, x104, x105, x106, x107, x108, x109, x110, x111, x112, x113, x114, x115, x116, x117, x118] ∧
   ((e = .exit 0 ∧ (l.drop i).all okIm = true) ∨ (e = .ret ∧ fv 12 = .int .i64 0 ∧ fv 13 = .int .i64 1 ∧ (l.drop i).all okIm = false)) := by
 intro k
 obtain ⟨L, hL⟩ : ∃ L, L = LP1 l19x0 := ⟨_, rfl⟩
 have lo := loop_open hL
 have wl := g.len
 unfold imRows at wl
 rw [List.length_map] at wl
 rw [← hL]
 induction k with
 | zero =>
  intro i j12 j13 j38 j39 j40 j41 j42 j43 j44 j45 j46 j47 j48 j49 j50 j51 j52 j53 j54 j55 j56 j57 hi
  obtain rfl : i = l.length := by omega
  have hd : decide ((l.length : Int) < (l.length : Int)) = false := by simp
  rw [lo]
  unfold l19x0
  simp -implicitDefEqProofs (maxSteps := 5000000) only [go_sem, Nat.reduceShiftRight, Nat.reduceAnd, Nat.reduceBNe, Int.reduceEq, Nat.reduceAdd, Nat.reduceSub, Nat.reduceMul, Nat.reduceLeDiff, reduceIte, reduceCtorEq, Nat.reduceBEq, Nat.reduceEqDiff, wl, hd, seqR_exit', outs_normal]
  exact exF2 rfl (.inl (by simp))
 | succ k ih =>
  intro i j12 j13 j38 j39 j40 j41 j42 j43 j44 j45 j46 j47 j48 j49 j50 j51 j52 j53 j54 j55 j56 j57 hi
  have hlt : i < l.length := by omega
  have hd : decide ((i : Int) < (l.length : Int)) = true := decide_eq_true (by omega)
  have e2 : IntKind.i64.wrap ((i : Int) + 1) = ((i + 1 : Nat) : Int) := by rw [wrap64 (by omega) (by omega)]; omega
  have hx := List.getElem?_eq_getElem hlt
  have dr := List.drop_eq_getElem_cons hlt
  have xl := h48 _ (List.getElem_mem hlt)
  generalize l[i] = x at *
  have hr := get_map ImS.cells hx
  obtain ⟨b, cs, _, ix, hc, ht, hle⟩ := GR.read (by omega) g (fun r hr => by
   obtain ⟨y, hy, rfl⟩ := List.mem_map.1 hr
   simp [ImS.cells, u8s_len, h48 y hy]) hr
  obtain ⟨xi, xb⟩ := x
  unfold ImS.cells at ht
  simp only at ht xl
  have c0 : cs[i * 49]? = some (.int .i64 xi) := by
   have := congrArg (fun q => q[0]?) ht
   rw [List.getElem?_take, if_pos (by omega), List.getElem?_drop, Nat.add_zero] at this
   exact this
  rw [lo, dr]
  unfold l19x0
  rw [List.all_cons]
  by_cases h0 : xi < 0
  ·have d0 := decide_eq_true h0
   have ok : okIm ⟨xi, xb⟩ = false := by unfold okIm; rw [decide_eq_false (show ¬ (0 ≤ xi) by omega)]; rfl
   rw [ok, Bool.false_and]
   simp -implicitDefEqProofs (maxSteps := 5000000) only [go_sem, Nat.reduceShiftRight, Nat.reduceAnd, Nat.reduceBNe, Int.reduceEq, Nat.reduceAdd, Nat.reduceSub, Nat.reduceMul, Nat.reduceLeDiff, reduceIte, reduceCtorEq, Nat.reduceBEq, Nat.reduceEqDiff, wrap64, runC_loop, runC_range, callF_fn, callV_fn, callV_yld, yield_eq, yieldBody, yieldRaw, roundMid, roundEnd, rangeEnd, Bool.not_not, put_cons, put_nil, trim_same, at_zero, at_add, set_zero, set_add, store_one, write_zero, write_add, write_head, write_succ, splice_one, splice_more, List.drop_nil, List.take_nil, cell_int, cell_bool, fillS, splice_one, idxA, Ex.isNormal, List.set_nil, List.length_set, List.all_cons, List.all_nil, Bool.and_self, and_self, true_and, and_true, List.getElem?_nil, Int.reduceLT, Int.reduceLE, Int.reduceToNat, Int.toNat_zero, Int.toNat_one, Int.reduceAdd, Int.reduceSub, Int.reduceMul, Int.reduceNeg, Int.reduceBEq, Int.reduceBNe, Int.reduceGE, Int.reduceGT, Nat.reduceLT, trim_keep, under_fn, under_ptr, under_sl, Nat.lt_irrefl, not_lt_add, trim_tail, keepOk, ABlk.vals, Int.cast_ofNat_Int, decide_true, decide_false, List.all_cons, List.all_nil, Nat.zero_mul, Nat.mul_one, Nat.one_mul, wl, hd, ix, hc, c0, d0, seqR_ret, outs_normal]
   exact exF2 rfl (.inr ⟨rfl, rfl⟩)
  ·have d0 := decide_eq_false h0
   by_cases h1 : xi > 65535
   ·have d1 := decide_eq_true h1
    have ok : okIm ⟨xi, xb⟩ = false := by unfold okIm; rw [decide_eq_false (show ¬ (xi ≤ 65535) by omega), Bool.and_false]
    rw [ok, Bool.false_and]
    simp -implicitDefEqProofs (maxSteps := 5000000) only [go_sem, Nat.reduceShiftRight, Nat.reduceAnd, Nat.reduceBNe, Int.reduceEq, Nat.reduceAdd, Nat.reduceSub, Nat.reduceMul, Nat.reduceLeDiff, reduceIte, reduceCtorEq, Nat.reduceBEq, Nat.reduceEqDiff, wrap64, runC_loop, runC_range, callF_fn, callV_fn, callV_yld, yield_eq, yieldBody, yieldRaw, roundMid, roundEnd, rangeEnd, Bool.not_not, put_cons, put_nil, trim_same, at_zero, at_add, set_zero, set_add, store_one, write_zero, write_add, write_head, write_succ, splice_one, splice_more, List.drop_nil, List.take_nil, cell_int, cell_bool, fillS, splice_one, idxA, Ex.isNormal, List.set_nil, List.length_set, List.all_cons, List.all_nil, Bool.and_self, and_self, true_and, and_true, List.getElem?_nil, Int.reduceLT, Int.reduceLE, Int.reduceToNat, Int.toNat_zero, Int.toNat_one, Int.reduceAdd, Int.reduceSub, Int.reduceMul, Int.reduceNeg, Int.reduceBEq, Int.reduceBNe, Int.reduceGE, Int.reduceGT, Nat.reduceLT, trim_keep, under_fn, under_ptr, under_sl, Nat.lt_irrefl, not_lt_add, trim_tail, keepOk, ABlk.vals, Int.cast_ofNat_Int, decide_true, decide_false, List.all_cons, List.all_nil, Nat.zero_mul, Nat.mul_one, Nat.one_mul, wl, hd, ix, hc, c0, d0, d1, seqR_ret, outs_normal]
    exact exF2 rfl (.inr ⟨rfl, rfl⟩)
   ·have d1 := decide_eq_false h1
    have ok : okIm ⟨xi, xb⟩ = true := by unfold okIm; rw [decide_eq_true (show 0 ≤ xi by omega), decide_eq_true (show xi ≤ 65535 by omega)]; rfl
    rw [ok, Bool.true_and]
    simp -implicitDefEqProofs (maxSteps := 5000000) only [go_sem, Nat.reduceShiftRight, Nat.reduceAnd, Nat.reduceBNe, Int.reduceEq, Nat.reduceAdd, Nat.reduceSub, Nat.reduceMul, Nat.reduceLeDiff, reduceIte, reduceCtorEq, Nat.reduceBEq, Nat.reduceEqDiff, wrap64, runC_loop, runC_range, callF_fn, callV_fn, callV_yld, yield_eq, yieldBody, yieldRaw, roundMid, roundEnd, rangeEnd, Bool.not_not, put_cons, put_nil, trim_same, at_zero, at_add, set_zero, set_add, store_one, write_zero, write_add, write_head, write_succ, splice_one, splice_more, List.drop_nil, List.take_nil, cell_int, cell_bool, fillS, splice_one, idxA, Ex.isNormal, List.set_nil, List.length_set, List.all_cons, List.all_nil, Bool.and_self, and_self, true_and, and_true, List.getElem?_nil, Int.reduceLT, Int.reduceLE, Int.reduceToNat, Int.toNat_zero, Int.toNat_one, Int.reduceAdd, Int.reduceSub, Int.reduceMul, Int.reduceNeg, Int.reduceBEq, Int.reduceBNe, Int.reduceGE, Int.reduceGT, Nat.reduceLT, trim_keep, under_fn, under_ptr, under_sl, Nat.lt_irrefl, not_lt_add, trim_tail, keepOk, ABlk.vals, Int.cast_ofNat_Int, decide_true, decide_false, List.all_cons, List.all_nil, Nat.zero_mul, Nat.mul_one, Nat.one_mul, wl, hd, ix, hc, c0, d0, d1, e2]
    exact ih (i + 1) _ _ _ _ _ _ _ _ _ _ _ _ _ _ _ _ _ _ _ _ _ _ (by omega)
end
end Go.Proofs.Ytipedaadjfhdnaa.G06
end
section
namespace Go.Proofs.Ytipedaadjfhdnaa.G06
open Go Go.Proofs.Ytipedaadjfhdnaa.Eng
section
variable {q : QPl} {H : AHeap} {n : Nat} {r : RgS} {F : Nat → Prop} (m : RefAt q H n r F) {f c a seq : Int} (hf : 0 ≤ f) (hc : 2 ≤ c) (hc2 : c ≤ 256) (hs : f + c ≤ 1000000000) (ha : 0 ≤ a) (ha2 : a < c) (hq : 0 ≤ seq ∧ seq < 4294967296)
 {B : Nat} {w : AV} {l : List ImS} (g : GR 49 H B w (imRows l)) (gF : ∀ b, slb w = some b → ¬ F b) (h48 : ∀ x ∈ l, B48 x.b) (hl : l.length ≤ 1000) (ho : l.all okIm = true) (hn : n + l.length + 1 ≤ 1000000000)
include m hf hc hc2 hs ha ha2 hq g gF h48 hl ho hn
theorem rputP {K : AHeap} {i : Nat} {r' : RgS} {F' : Nat → Prop} (mK : RefAt q K (n + i) r' F') (hi : i ≤ l.length) {p : PgS} (pok : p.Ok) (pen : encOk p.m p.i = true) : ∃ K2 F2, RefAt q K2 (n + i + 1) (writeP r' f c (a + (i : Int)) p).1 F2 ∧ RStep K F' K2 F2 ∧ (envL prog).call 25 [.ptr q.p 0, .int .i64 0, .int .i64 (f + (a + (i : Int)).tmod c), .agg (u8s (encS p.m p.s p.i p.b))] K = some (.int .i64 (writeP r' f c (a + (i : Int)) p).2, K2) := by
 have e1 : p.enc.1 = encS p.m p.s p.i p.b := by unfold PgS.enc; rw [if_pos pen]
 have ok := enc_b64 pok
 rw [e1] at ok
 obtain ⟨K2, F2, m2, st, e⟩ := raWrite mK 0 (f + (a + (i : Int)).tmod c) ok (by omega)
 refine ⟨K2, F2, ?_, st, ?_⟩
 ·unfold writeP; rw [e1]; exact m2
 ·unfold writeP; rw [e1]; exact e
end
end Go.Proofs.Ytipedaadjfhdnaa.G06
end
section
namespace Go.Proofs.Ytipedaadjfhdnaa.G06
open Go Go.Proofs.Ytipedaadjfhdnaa.Eng
section
variable {q : QPl} {H : AHeap} {n : Nat} {r : RgS} {F : Nat → Prop} (m : RefAt q H n r F) {f c a seq : Int} (hf : 0 ≤ f) (hc : 2 ≤ c) (hc2 : c ≤ 256) (hs : f + c ≤ 1000000000) (ha : 0 ≤ a) (ha2 : a < c) (hq : 0 ≤ seq ∧ seq < 4294967296)
 {B : Nat} {w : AV} {l : List ImS} (g : GR 49 H B w (imRows l)) (gF : ∀ b, slb w = some b → ¬ F b) (h48 : ∀ x ∈ l, B48 x.b) (hl : l.length ≤ 1000) (ho : l.all okIm = true) (hn : n + l.length + 1 ≤ 1000000000)
include m hf hc hc2 hs ha ha2 hq g gF h48 hl ho hn
set_option maxHeartbeats 8000000 in
theorem rappL1 (x6 x7 x8 x9 x10 x11 x14 x21 x22 x23 x24 x25 x26 x27 x28 x29 x30 x31 x32 x33 x34 x35 x36 x37 x38 x39 x40 x41 x42 x43 x44 x45 x46 x47 x48 x49 x50 x51 x52 x53 x54 x55 x56 x57 x107 x108 x109 x110 x111 x112 x113 x114 x115 x116 x117 x118 : AV) : ∀ (k i : Nat) (K : AHeap) (r' : RgS) (F' : Nat → Prop) (j12 j13 j16 j17 j18 j19 j20 j58 j59 j60 j61 j62 j63 j64 j65 j66 j67 j68 j69 j70 j71 j72 j73 j74 j75 j76 j77 j78 j79 j80 j81 j82 j83 j84 j85 j86 j87 j88 j89 j90 j91 j92 j93 j94 j95 j96 j97 j98 j99 j100 j101 j102 j103 j104 j105 j106 : AV), RefAt q K (n + i) r' F' → RStep H F K F' → i + k = l.length →
  Outs (LP1 l19x1 [.ptr q.p 0, .int .i64 f, .int .i64 c, .int .i64 a, .int .u32 seq, w, x6, x7, x8, x9, x10, x11, j12, j13, x14, .int .i64 (i : Int), j16, j17, j18, j19, j20, x21, x22, x23, x24, x25, x26, x27, x28, x29, x30, x31, x32, x33, x34, x35, x36, x37, x38, x39, x40, x41, x42, x43, x44, x45, x46, x47, x48, x49, x50, x51, x52, x53, x54, x55, x56, x57, j58, j59, j60, j61, j62, j63, j64, j65, j66, j67, j68, j69, j70, j71, j72, j73, j74, j75, j76, j77, j78, j79, j80, j81, j82, j83, j84, j85, j86, j87, j88, j89, j90, j91, j92, j93, j94, j95, j96, j97, j98, j99, j100, j101, j102, j103, j104, j105, j106, x107, x108, x109, x110, x111, x112, x113, x114, x115, x116, x117, x118] K) fun e t K' => ∃ n' F'', RefAt q K' n' (restS f c a seq l.length r' i (l.drop i)).1 F'' ∧ n' ≤ n + l.length + 1 ∧ RStep H F K' F'' ∧ ∃ fv : Nat → AV, t = [.ptr q.p 0, .int .i64 f, .int .i64 c, .int .i64 a, .int .u32 seq, w, x6, x7, x8, x9, x10, x11, (fv 12), (fv 13), x14, fv 15, (fv 16), (fv 17), (fv 18), (fv 19), (fv 20), x21, x22, x23, x24, x25, x26, x27, x28, x29, x30, x31, x32, x33, x34, x35, x36, x37, x38, x39, x40, x41, x42, x43, x44, x45, x46, x47, x48, x49, x50, x51, x52, x53, x54, x55, x56, x57, (fv 58), (fv 59), (fv 60), (fv 61), (fv 62), (fv 63), (fv 64), (fv 65), (fv 66), (fv 67), (fv 68), (fv 69), (fv 70), (fv 71), (fv 72), (fv 73), (fv 74), (fv 75), (fv 76), (fv 77), (fv 78), (fv 79), (fv 80), (fv 81), (fv 82), (fv 83), (fv 84), (fv 85), (fv 86), (fv 87), (fv 88), (fv 89), (fv 90), (fv 91), (fv 92), (fv 93), (fv 94), (fv 95), (fv 96), (fv 97), (fv 98), (fv 99), (fv 100), (fv 101), (fv 102), (fv 103), (fv 104), (fv 105), (fv 106), x107, x108, x109, x110, x111, x112, x113, x114, x115, x116, x117, x118] ∧
   ((e = .exit 2 ∧ (restS f c a seq l.length r' i (l.drop i)).2 = 0) ∨ (e = .ret ∧ fv 12 = .int .i64 0 ∧ fv 13 = .int .i64 (restS f c a seq l.length r' i (l.drop i)).2 ∧ (restS f c a seq l.length r' i (l.drop i)).2 ≠ 0)) := by
 intro k
 obtain ⟨L, hL⟩ : ∃ L, L = LP1 l19x1 := ⟨_, rfl⟩
 have lo := loop_open hL
 have wl := g.len
 unfold imRows at wl
 rw [List.length_map] at wl
 rw [← hL]
 induction k with
 | zero =>
  intro i K r' F' j12 j13 j16 j17 j18 j19 j20 j58 j59 j60 j61 j62 j63 j64 j65 j66 j67 j68 j69 j70 j71 j72 j73 j74 j75 j76 j77 j78 j79 j80 j81 j82 j83 j84 j85 j86 j87 j88 j89 j90 j91 j92 j93 j94 j95 j96 j97 j98 j99 j100 j101 j102 j103 j104 j105 j106 mK st hi
  obtain rfl : i = l.length := by omega
  have hd : decide ((l.length : Int) ≤ (l.length : Int)) = true := decide_eq_true (Int.le_refl _)
  have hd2 : decide ((l.length : Int) < (l.length : Int)) = false := decide_eq_false (by omega)
  have hd3 : decide (((l.length + 1 : Nat) : Int) ≤ (l.length : Int)) = false := decide_eq_false (by omega)
  have e2 : IntKind.i64.wrap ((l.length : Int) + 1) = ((l.length + 1 : Nat) : Int) := by rw [wrap64 (by omega) (by omega)]; omega
  have wa : IntKind.i64.wrap (a + (l.length : Int)) = a + (l.length : Int) := wrap64 (by omega) (by omega)
  have tr := tmod_rng (show 0 ≤ a + (l.length : Int) by omega) (show 1 ≤ c by omega)
  have rm := int_rem .none .i64 (a + (l.length : Int)) c (by omega)
  have w2 : IntKind.i64.wrap (f + (a + (l.length : Int)).tmod c) = f + (a + (l.length : Int)).tmod c := wrap64 (by omega) (by omega)
  have zl : zbody.length = 48 := zbody_b.1
  have zd : (u8s zbody).drop 48 = [] := List.drop_of_length_le (by rw [u8s_len, zl]; omega)
  have hp : l.length ≤ 65535 := by omega
  have pok : (commitP seq l.length).Ok := ⟨by show (0 : Int) ≤ 67 ∧ (67 : Int) ≤ 255; omega, hq, by show _ ≤ (l.length : Int) ∧ (l.length : Int) ≤ _; omega, zbody_b⟩
  have pen : encOk 67 (l.length : Int) = true := by unfold encOk; rw [decide_eq_true (show 0 ≤ (l.length : Int) by omega), decide_eq_true (show (l.length : Int) ≤ 65535 by omega)]; rfl
  obtain ⟨K1, m1, st1, len1, ef⟩ := raFlush (mK.adds [.rw (.int .u8 67 :: .int .u32 seq :: .int .i64 (l.length : Int) :: u8s zbody)]) 0
  have ec := fun X => rencC pok (K1 ++ X)
  have ee : (commitP seq l.length).enc = (encS 67 seq l.length zbody, 0) := by unfold PgS.enc; rw [if_pos (show encOk (commitP seq l.length).m (commitP seq l.length).i = true from pen)]; rfl
  rw [ee] at ec
  unfold PgS.cells commitP at ec
  simp only at ec
  have ec0 := rencC pok K1
  rw [ee] at ec0
  unfold PgS.cells commitP at ec0
  simp only at ec0
  have el : (encS 67 seq l.length zbody).length = 64 := (encS_b64 pok.m pok.b).1
  have sK : RStep H F (K ++ [.rw (.int .u8 67 :: .int .u32 seq :: .int .i64 (l.length : Int) :: u8s zbody)]) F' := st.trans ⟨Fr.adds ⟨_, rfl⟩ _, fun b h => .inl h⟩
  have s1 := sK.trans st1
  have cC := st1.1.cells (b := K.length) (cs := .int .u8 67 :: .int .u32 seq :: .int .i64 (l.length : Int) :: u8s zbody) (by unfold cellsOf; simp) fun h => by have := mK.lt _ h; omega
  have spI : ∀ (x0 x1 x2 y0 y1 y2 : AV), splice (x0 :: x1 :: x2 :: u8s zbody) 0 (y0 :: y1 :: y2 :: u8s zbody) = y0 :: y1 :: y2 :: u8s zbody := fun x0 x1 x2 y0 y1 y2 => rfl
  have t51 : ∀ y0 y1 y2 : AV, (y0 :: y1 :: y2 :: u8s zbody).take 51 = y0 :: y1 :: y2 :: u8s zbody := fun y0 y1 y2 => List.take_of_length_le (by simp [u8s_len, zl])
  have sp64 := splice_all z64_len el (by omega)
  have t64 := u8s_take el
  obtain ⟨K2, F2, m2, st2, ew⟩ := rputP m hf hc hc2 hs ha ha2 hq g gF h48 hl ho hn (m1.adds [.rw (u8s (encS 67 seq l.length zbody))]) (Nat.le_refl _) pok pen
  have s2 := (s1.trans ⟨Fr.adds ⟨[.rw (u8s (encS 67 seq l.length zbody))], rfl⟩ _, fun b h => .inl h⟩).trans st2
  have cE := st2.1.cells (b := K1.length) (cs := u8s (encS 67 seq l.length zbody)) (by unfold cellsOf; simp) fun h => by have := m1.lt _ h; omega
  unfold commitP at ew
  simp only at ew
  rw [lo, List.drop_length, restS_nil]
  unfold l19x1 commitP
  unfold commitP at m2
  generalize hR : r'.flush 0 = R at *
  obtain ⟨r1, e1⟩ := R
  simp only at *
  generalize hW : writeP r1 f c (a + (l.length : Int)) ⟨67, seq, l.length, zbody⟩ = W at *
  obtain ⟨r2, er⟩ := W
  simp only at *
  by_cases h1 : e1 = 0
  ·have n1 : (e1 != 0) = false := by rw [h1]; rfl
   simp only [if_pos h1]
   by_cases he : er = 0
   ·have n0 : (er != 0) = false := by rw [he]; rfl
    simp -implicitDefEqProofs (maxSteps := 5000000) only [go_sem, Nat.reduceShiftRight, Nat.reduceAnd, Nat.reduceBNe, Int.reduceEq, Nat.reduceAdd, Nat.reduceSub, Nat.reduceMul, Nat.reduceLeDiff, reduceIte, reduceCtorEq, Nat.reduceBEq, Nat.reduceEqDiff, wrap64, runC_loop, runC_range, callF_fn, callV_fn, callV_yld, yield_eq, yieldBody, yieldRaw, roundMid, roundEnd, rangeEnd, Bool.not_not, put_cons, put_nil, trim_same, at_zero, at_add, set_zero, set_add, store_one, write_zero, write_add, write_head, write_succ, splice_one, splice_more, List.drop_nil, List.take_nil, cell_int, cell_bool, fillS, splice_one, idxA, Ex.isNormal, List.set_nil, List.length_set, List.all_cons, List.all_nil, Bool.and_self, and_self, true_and, and_true, List.getElem?_nil, Int.reduceLT, Int.reduceLE, Int.reduceToNat, Int.toNat_zero, Int.toNat_one, Int.reduceAdd, Int.reduceSub, Int.reduceMul, Int.reduceNeg, Int.reduceBEq, Int.reduceBNe, Int.reduceGE, Int.reduceGT, Nat.reduceLT, trim_keep, under_fn, under_ptr, under_sl, Nat.lt_irrefl, not_lt_add, trim_tail, keepOk, ABlk.vals, Int.cast_ofNat_Int, decide_true, decide_false, List.all_cons, List.all_nil, Nat.zero_mul, Nat.mul_one, Nat.one_mul, wl, hd, hd2, rep_z48, rep_z64, u8s_len, zl, zd, u8s_cell, spI, t51, ef, n1, cC, ec, ec0, el, z64_len, sp64, t64, wa, rm, w2, ew, cE, n0, e2]
    rw [lo]
    unfold l19x1
    simp -implicitDefEqProofs (maxSteps := 5000000) only [go_sem, Nat.reduceShiftRight, Nat.reduceAnd, Nat.reduceBNe, Int.reduceEq, Nat.reduceAdd, Nat.reduceSub, Nat.reduceMul, Nat.reduceLeDiff, reduceIte, reduceCtorEq, Nat.reduceBEq, Nat.reduceEqDiff, wl, hd3, seqR_exit', outs_normal]
    exact ⟨_, F2, m2, by omega, s2, exF2 rfl (.inl he)⟩
   ·have n0 : (er != 0) = true := by simpa using he
    simp -implicitDefEqProofs (maxSteps := 5000000) only [go_sem, Nat.reduceShiftRight, Nat.reduceAnd, Nat.reduceBNe, Int.reduceEq, Nat.reduceAdd, Nat.reduceSub, Nat.reduceMul, Nat.reduceLeDiff, reduceIte, reduceCtorEq, Nat.reduceBEq, Nat.reduceEqDiff, wrap64, runC_loop, runC_range, callF_fn, callV_fn, callV_yld, yield_eq, yieldBody, yieldRaw, roundMid, roundEnd, rangeEnd, Bool.not_not, put_cons, put_nil, trim_same, at_zero, at_add, set_zero, set_add, store_one, write_zero, write_add, write_head, write_succ, splice_one, splice_more, List.drop_nil, List.take_nil, cell_int, cell_bool, fillS, splice_one, idxA, Ex.isNormal, List.set_nil, List.length_set, List.all_cons, List.all_nil, Bool.and_self, and_self, true_and, and_true, List.getElem?_nil, Int.reduceLT, Int.reduceLE, Int.reduceToNat, Int.toNat_zero, Int.toNat_one, Int.reduceAdd, Int.reduceSub, Int.reduceMul, Int.reduceNeg, Int.reduceBEq, Int.reduceBNe, Int.reduceGE, Int.reduceGT, Nat.reduceLT, trim_keep, under_fn, under_ptr, under_sl, Nat.lt_irrefl, not_lt_add, trim_tail, keepOk, ABlk.vals, Int.cast_ofNat_Int, decide_true, decide_false, List.all_cons, List.all_nil, Nat.zero_mul, Nat.mul_one, Nat.one_mul, wl, hd, hd2, rep_z48, rep_z64, u8s_len, zl, zd, u8s_cell, spI, t51, ef, n1, cC, ec, ec0, el, z64_len, sp64, t64, wa, rm, w2, ew, cE, n0, seqR_ret, outs_normal]
    exact ⟨_, F2, m2, by omega, s2, exF2 rfl (.inr ⟨rfl, rfl, he⟩)⟩
  ·have n1 : (e1 != 0) = true := by simpa using h1
   simp only [if_neg h1]
   simp -implicitDefEqProofs (maxSteps := 5000000) only [go_sem, Nat.reduceShiftRight, Nat.reduceAnd, Nat.reduceBNe, Int.reduceEq, Nat.reduceAdd, Nat.reduceSub, Nat.reduceMul, Nat.reduceLeDiff, reduceIte, reduceCtorEq, Nat.reduceBEq, Nat.reduceEqDiff, wrap64, runC_loop, runC_range, callF_fn, callV_fn, callV_yld, yield_eq, yieldBody, yieldRaw, roundMid, roundEnd, rangeEnd, Bool.not_not, put_cons, put_nil, trim_same, at_zero, at_add, set_zero, set_add, store_one, write_zero, write_add, write_head, write_succ, splice_one, splice_more, List.drop_nil, List.take_nil, cell_int, cell_bool, fillS, splice_one, idxA, Ex.isNormal, List.set_nil, List.length_set, List.all_cons, List.all_nil, Bool.and_self, and_self, true_and, and_true, List.getElem?_nil, Int.reduceLT, Int.reduceLE, Int.reduceToNat, Int.toNat_zero, Int.toNat_one, Int.reduceAdd, Int.reduceSub, Int.reduceMul, Int.reduceNeg, Int.reduceBEq, Int.reduceBNe, Int.reduceGE, Int.reduceGT, Nat.reduceLT, trim_keep, under_fn, under_ptr, under_sl, Nat.lt_irrefl, not_lt_add, trim_tail, keepOk, ABlk.vals, Int.cast_ofNat_Int, decide_true, decide_false, List.all_cons, List.all_nil, Nat.zero_mul, Nat.mul_one, Nat.one_mul, wl, hd, hd2, rep_z48, rep_z64, u8s_len, zl, zd, u8s_cell, spI, t51, ef, n1, seqR_ret, outs_normal]
   exact ⟨_, F', m1, by omega, s1, exF2 rfl (.inr ⟨rfl, rfl, h1⟩)⟩
 | succ k ih =>
  intro i K r' F' j12 j13 j16 j17 j18 j19 j20 j58 j59 j60 j61 j62 j63 j64 j65 j66 j67 j68 j69 j70 j71 j72 j73 j74 j75 j76 j77 j78 j79 j80 j81 j82 j83 j84 j85 j86 j87 j88 j89 j90 j91 j92 j93 j94 j95 j96 j97 j98 j99 j100 j101 j102 j103 j104 j105 j106 mK st hi
  have hlt : i < l.length := by omega
  have hd : decide ((i : Int) ≤ (l.length : Int)) = true := decide_eq_true (by omega)
  have hd2 : decide ((i : Int) < (l.length : Int)) = true := decide_eq_true (by omega)
  have e2 : IntKind.i64.wrap ((i : Int) + 1) = ((i + 1 : Nat) : Int) := by rw [wrap64 (by omega) (by omega)]; omega
  have wa : IntKind.i64.wrap (a + (i : Int)) = a + (i : Int) := wrap64 (by omega) (by omega)
  have tr := tmod_rng (show 0 ≤ a + (i : Int) by omega) (show 1 ≤ c by omega)
  have rm := int_rem .none .i64 (a + (i : Int)) c (by omega)
  have w2 : IntKind.i64.wrap (f + (a + (i : Int)).tmod c) = f + (a + (i : Int)).tmod c := wrap64 (by omega) (by omega)
  have hx := List.getElem?_eq_getElem hlt
  have dr := List.drop_eq_getElem_cons hlt
  have xb := h48 _ (List.getElem_mem hlt)
  have xo := List.all_eq_true.1 ho _ (List.getElem_mem hlt)
  generalize l[i] = x at *
  have hr := get_map ImS.cells hx
  obtain ⟨b, cs, sb, ix, hcs, ht, hle⟩ := GR.read (by omega) g (fun r hr => by
   obtain ⟨y, hy, rfl⟩ := List.mem_map.1 hr
   simp [ImS.cells, u8s_len, (h48 y hy).1]) hr
  have cK := fun X : AHeap => cells_old (x := X) (st.1.cells hcs (gF b sb))
  obtain ⟨xi, xz⟩ := x
  unfold ImS.cells at ht
  simp only at ht xb
  have xl := xb.1
  have c0 : cs[i * 49]? = some (.int .i64 xi) := by
   have := congrArg (fun q => q[0]?) ht
   rw [List.getElem?_take, if_pos (by omega), List.getElem?_drop, Nat.add_zero] at this
   exact this
  have c1 : (cs.drop (i * 49 + 1)).take 48 = u8s xz := by
   have := congrArg (fun q : List AV => q.drop 1) ht
   simp only [List.drop_take, List.drop_drop] at this
   exact this
  have hle1 : i * 49 + 1 + 48 ≤ cs.length := by omega
  have oki : 0 ≤ xi ∧ xi ≤ 65535 := by unfold okIm at xo; simpa using xo
  have pok : (⟨73, seq, xi, xz⟩ : PgS).Ok := ⟨by show (0 : Int) ≤ 73 ∧ (73 : Int) ≤ 255; omega, hq, by show _ ≤ xi ∧ xi ≤ _; omega, xb⟩
  have pen : encOk 73 xi = true := by unfold encOk; rw [decide_eq_true oki.1, decide_eq_true oki.2]; rfl
  have ec := fun X => rencC pok (K ++ X)
  have ee : (⟨73, seq, xi, xz⟩ : PgS).enc = (encS 73 seq xi xz, 0) := by unfold PgS.enc; rw [if_pos pen]
  rw [ee] at ec
  unfold PgS.cells at ec
  simp only at ec
  have el : (encS 73 seq xi xz).length = 64 := (encS_b64 pok.m pok.b).1
  obtain ⟨K2, F2, m2, st2, ew⟩ := rputP m hf hc hc2 hs ha ha2 hq g gF h48 hl ho hn (mK.adds [.rw (.int .u8 73 :: .int .u32 seq :: .int .i64 xi :: u8s xz), .rw (u8s (encS 73 seq xi xz))]) (by omega) pok pen
  simp only at ew
  have st3 : RStep H F K2 F2 := (st.trans ⟨Fr.adds ⟨_, rfl⟩ _, fun b h => .inl h⟩).trans st2
  have cE := st2.1.cells (b := K.length + 1) (cs := u8s (encS 73 seq xi xz)) (by unfold cellsOf; simp) fun h => by have := mK.lt _ h; omega
  have zl : zbody.length = 48 := zbody_b.1
  have zd : (u8s zbody).drop 48 = [] := List.drop_of_length_le (by rw [u8s_len, zl]; omega)
  have sp2 : ∀ y0 y1 y2 : AV, splice (y0 :: y1 :: y2 :: u8s zbody) 3 (u8s xz) = y0 :: y1 :: y2 :: u8s xz := fun y0 y1 y2 => by
   rw [splice_long _ _ _ (by rw [u8s_len]; omega), u8s_len, xl]
   show y0 :: y1 :: y2 :: (u8s xz ++ (u8s zbody).drop 48) = _
   rw [zd, List.append_nil]
  have spI : ∀ (x0 x1 x2 y0 y1 y2 : AV), splice (x0 :: x1 :: x2 :: u8s zbody) 0 (y0 :: y1 :: y2 :: u8s xz) = y0 :: y1 :: y2 :: u8s xz := fun x0 x1 x2 y0 y1 y2 => by
   rw [splice_long _ _ _ (by simp), List.drop_of_length_le (by simp [u8s_len, xl, zl]), List.append_nil]; rfl
  have t51 : ∀ y0 y1 y2 : AV, (y0 :: y1 :: y2 :: u8s xz).take 51 = y0 :: y1 :: y2 :: u8s xz := fun y0 y1 y2 => List.take_of_length_le (by simp [u8s_len, xl])
  have sp64 := splice_all z64_len el (by omega)
  have t64 := u8s_take el
  have t48 := u8s_take xl
  rw [lo, dr, restS_cons]
  unfold l19x1
  simp only
  generalize hW : writeP r' f c (a + (i : Int)) ⟨73, seq, xi, xz⟩ = W at *
  obtain ⟨r2, er⟩ := W
  simp only at *
  by_cases he : er = 0
  ·have n0 : (er != 0) = false := by rw [he]; rfl
   rw [if_pos he]
   have key := ih (i + 1) K2 r2 F2
   generalize restS f c a seq l.length r2 (i + 1) (l.drop (i + 1)) = N at key ⊢
   simp -implicitDefEqProofs (maxSteps := 5000000) only [go_sem, Nat.reduceShiftRight, Nat.reduceAnd, Nat.reduceBNe, Int.reduceEq, Nat.reduceAdd, Nat.reduceSub, Nat.reduceMul, Nat.reduceLeDiff, reduceIte, reduceCtorEq, Nat.reduceBEq, Nat.reduceEqDiff, wrap64, runC_loop, runC_range, callF_fn, callV_fn, callV_yld, yield_eq, yieldBody, yieldRaw, roundMid, roundEnd, rangeEnd, Bool.not_not, put_cons, put_nil, trim_same, at_zero, at_add, set_zero, set_add, store_one, write_zero, write_add, write_head, write_succ, splice_one, splice_more, List.drop_nil, List.take_nil, cell_int, cell_bool, fillS, splice_one, idxA, Ex.isNormal, List.set_nil, List.length_set, List.all_cons, List.all_nil, Bool.and_self, and_self, true_and, and_true, List.getElem?_nil, Int.reduceLT, Int.reduceLE, Int.reduceToNat, Int.toNat_zero, Int.toNat_one, Int.reduceAdd, Int.reduceSub, Int.reduceMul, Int.reduceNeg, Int.reduceBEq, Int.reduceBNe, Int.reduceGE, Int.reduceGT, Nat.reduceLT, trim_keep, under_fn, under_ptr, under_sl, Nat.lt_irrefl, not_lt_add, trim_tail, keepOk, ABlk.vals, Int.cast_ofNat_Int, decide_true, decide_false, List.all_cons, List.all_nil, Nat.zero_mul, Nat.mul_one, Nat.one_mul, wl, hd, hd2, ix, cK, c0, c1, hle1, rep_z48, rep_z64, u8s_len, xl, zl, zd, u8s_cell, sp2, spI, t51, t48, ec, el, z64_len, sp64, t64, wa, rm, w2, ew, cE, n0, e2]
   exact key _ _ _ _ _ _ _ _ _ _ _ _ _ _ _ _ _ _ _ _ _ _ _ _ _ _ _ _ _ _ _ _ _ _ _ _ _ _ _ _ _ _ _ _ _ _ _ _ _ _ _ _ _ _ _ _ m2 st3 (by omega)
  ·have n0 : (er != 0) = true := by simpa using he
   rw [if_neg he]
   simp -implicitDefEqProofs (maxSteps := 5000000) only [go_sem, Nat.reduceShiftRight, Nat.reduceAnd, Nat.reduceBNe, Int.reduceEq, Nat.reduceAdd, Nat.reduceSub, Nat.reduceMul, Nat.reduceLeDiff, reduceIte, reduceCtorEq, Nat.reduceBEq, Nat.reduceEqDiff, wrap64, runC_loop, runC_range, callF_fn, callV_fn, callV_yld, yield_eq, yieldBody, yieldRaw, roundMid, roundEnd, rangeEnd, Bool.not_not, put_cons, put_nil, trim_same, at_zero, at_add, set_zero, set_add, store_one, write_zero, write_add, write_head, write_succ, splice_one, splice_more, List.drop_nil, List.take_nil, cell_int, cell_bool, fillS, splice_one, idxA, Ex.isNormal, List.set_nil, List.length_set, List.all_cons, List.all_nil, Bool.and_self, and_self, true_and, and_true, List.getElem?_nil, Int.reduceLT, Int.reduceLE, Int.reduceToNat, Int.toNat_zero, Int.toNat_one, Int.reduceAdd, Int.reduceSub, Int.reduceMul, Int.reduceNeg, Int.reduceBEq, Int.reduceBNe, Int.reduceGE, Int.reduceGT, Nat.reduceLT, trim_keep, under_fn, under_ptr, under_sl, Nat.lt_irrefl, not_lt_add, trim_tail, keepOk, ABlk.vals, Int.cast_ofNat_Int, decide_true, decide_false, List.all_cons, List.all_nil, Nat.zero_mul, Nat.mul_one, Nat.one_mul, wl, hd, hd2, ix, cK, c0, c1, hle1, rep_z48, rep_z64, u8s_len, xl, zl, zd, u8s_cell, sp2, spI, t51, t48, ec, el, z64_len, sp64, t64, wa, rm, w2, ew, cE, n0, seqR_ret, outs_normal]
   exact ⟨_, F2, m2, by omega, st3, exF2 rfl (.inr ⟨rfl, rfl, he⟩)⟩
end
end Go.Proofs.Ytipedaadjfhdnaa.G06
end
section
namespace Go.Proofs.Ytipedaadjfhdnaa.G06
open Go Go.Proofs.Ytipedaadjfhdnaa.Eng
section
variable {q : QPl} {H : AHeap} {n : Nat} {r : RgS} {F : Nat → Prop} (m : RefAt q H n r F) {f c a seq : Int} (hq : 0 ≤ seq ∧ seq < 4294967296)
 {B : Nat} {w : AV} {l : List ImS} (g : GR 49 H B w (imRows l)) (gF : ∀ b, slb w = some b → ¬ F b) (h48 : ∀ x ∈ l, B48 x.b) (hl : l.length ≤ 1000) (hn : n + l.length + 1 ≤ 1000000000)
include m hq g gF h48 hl hn
set_option maxHeartbeats 16000000 in
theorem rappdC : ∃ n' H' F', n' ≤ n + l.length + 1 ∧ RefAt q H' n' (appdS r f c a seq l).1 F' ∧ RStep H F H' F' ∧ (envL prog).call 19 [.ptr q.p 0, .int .i64 f, .int .i64 c, .int .i64 a, .int .u32 seq, w] H = some (.tup [.int .i64 (appdS r f c a seq l).2.1, .int .i64 (appdS r f c a seq l).2.2], H') := by
 have gd := mayC m f c a
 have wl := g.len
 unfold imRows at wl
 rw [List.length_map] at wl
 have hal : r.a.length ≤ 4096 := by
  obtain ⟨L0, L1, m, _, _⟩ := m
  rw [← m.e0, List.length_map]; exact m.k0.sz
 have key : Outs (runC (envL prog) (b19 (envL prog)) ([.ptr q.p 0, .int .i64 f, .int .i64 c, .int .i64 a, .int .u32 seq, w] ++ List.replicate (119 - [AV.ptr q.p 0, .int .i64 f, .int .i64 c, .int .i64 a, .int .u32 seq, w].length) .undef) H) fun e' t K => ∃ n' F', n' ≤ n + l.length + 1 ∧ RefAt q K n' (appdS r f c a seq l).1 F' ∧ RStep H F K F' ∧ fin [.tmp 12, .tmp 13] (some (e', t, K)) = some (.tup [.int .i64 (appdS r f c a seq l).2.1, .int .i64 (appdS r f c a seq l).2.2], K) := by
  unfold b19
  by_cases hg : goodS r f c a
  ·have dg := decide_eq_true hg
   obtain ⟨hf, hc, hc2, hfl, ha, ha2⟩ := id hg
   have w1 : IntKind.i64.wrap (c - 1) = c - 1 := wrap64 (by omega) (by omega)
   by_cases h1 : 1 ≤ l.length ∧ (l.length : Int) ≤ c - 1
   ·have d1 : decide ((l.length : Int) < 1) = false := decide_eq_false (by omega)
    have d2 : decide ((l.length : Int) > c - 1) = false := decide_eq_false (by omega)
    have l0 := rappL0 g (fun x hx => (h48 x hx).1) hl (k := l.length) (i := 0)
    rw [show ((0 : Nat) : Int) = 0 from rfl, List.drop_zero] at l0
    generalize hQ : (fun (e' : Ex) (t : T) (K : AHeap) => ∃ n' F', n' ≤ n + l.length + 1 ∧ RefAt q K n' (appdS r f c a seq l).1 F' ∧ RStep H F K F' ∧ fin [.tmp 12, .tmp 13] (some (e', t, K)) = some (.tup [.int .i64 (appdS r f c a seq l).2.1, .int .i64 (appdS r f c a seq l).2.2], K)) = Q
    simp -implicitDefEqProofs (maxSteps := 5000000) only [go_sem, Nat.reduceShiftRight, Nat.reduceAnd, Nat.reduceBNe, Int.reduceEq, Nat.reduceAdd, Nat.reduceSub, Nat.reduceMul, Nat.reduceLeDiff, reduceIte, reduceCtorEq, Nat.reduceBEq, Nat.reduceEqDiff, wrap64, runC_loop, runC_range, callF_fn, callV_fn, callV_yld, yield_eq, yieldBody, yieldRaw, roundMid, roundEnd, rangeEnd, Bool.not_not, put_cons, put_nil, trim_same, at_zero, at_add, set_zero, set_add, store_one, write_zero, write_add, write_head, write_succ, splice_one, splice_more, List.drop_nil, List.take_nil, cell_int, cell_bool, fillS, splice_one, idxA, Ex.isNormal, List.set_nil, List.length_set, List.all_cons, List.all_nil, Bool.and_self, and_self, true_and, and_true, List.getElem?_nil, Int.reduceLT, Int.reduceLE, Int.reduceToNat, Int.toNat_zero, Int.toNat_one, Int.reduceAdd, Int.reduceSub, Int.reduceMul, Int.reduceNeg, Int.reduceBEq, Int.reduceBNe, Int.reduceGE, Int.reduceGT, Nat.reduceLT, trim_keep, under_fn, under_ptr, under_sl, Nat.lt_irrefl, not_lt_add, trim_tail, keepOk, ABlk.vals, Int.cast_ofNat_Int, decide_true, decide_false, List.all_cons, List.all_nil, Nat.zero_mul, Nat.mul_one, Nat.one_mul, runC_loop, gd, dg, wl, d1, d2, w1]
    unfold LP1 at l0
    generalize (envL prog).loop (runC (envL prog) (l19x0 (envL prog))) = L0 at l0 ⊢
    refine outs_ctx (fun r => seqR (blockR 0 r) _) (l0 _ _ _ _ _ _ _ _ _ _ _ _ _ _ _ _ _ _ _ _ _ _ _ _ _ _ _ _ _ _ _ _ _ _ _ _ _ _ _ _ _ _ _ _ _ _ _ _ _ _ _ _ _ _ _ _ _ _ _ _ _ _ _ _ _ _ _ _ _ _ _ _ _ _ _ _ _ _ _ _ _ _ _ _ _ _ _ _ _ _ _ _ _ _ _ _ _ _ _ _ _ _ _ _ _ _ _ _ _ _ _ _ _ _ _ _ _ (by omega)) ?_
    rintro e t K0 ⟨rfl, fv, rfl, ⟨rfl, ho⟩ | ⟨rfl, f12, f13, ho⟩⟩
    ·have hs : f + c ≤ 1000000000 := by omega
     have l1 := rappL1 m hf hc hc2 hs ha ha2 hq g gF h48 hl ho hn (k := l.length) (i := 0) (K := K0) (r' := r) (F' := F)
     rw [show ((0 : Nat) : Int) = 0 from rfl, List.drop_zero] at l1
     have eA0 := appdS_rest r f c a seq l
     rw [if_pos hg, if_pos h1, if_pos ho] at eA0
     simp -implicitDefEqProofs (maxSteps := 5000000) only [go_sem, Nat.reduceShiftRight, Nat.reduceAnd, Nat.reduceBNe, Int.reduceEq, Nat.reduceAdd, Nat.reduceSub, Nat.reduceMul, Nat.reduceLeDiff, reduceIte, reduceCtorEq, Nat.reduceBEq, Nat.reduceEqDiff, wrap64, runC_loop, runC_range, callF_fn, callV_fn, callV_yld, yield_eq, yieldBody, yieldRaw, roundMid, roundEnd, rangeEnd, Bool.not_not, put_cons, put_nil, trim_same, at_zero, at_add, set_zero, set_add, store_one, write_zero, write_add, write_head, write_succ, splice_one, splice_more, List.drop_nil, List.take_nil, cell_int, cell_bool, fillS, splice_one, idxA, Ex.isNormal, List.set_nil, List.length_set, List.all_cons, List.all_nil, Bool.and_self, and_self, true_and, and_true, List.getElem?_nil, Int.reduceLT, Int.reduceLE, Int.reduceToNat, Int.toNat_zero, Int.toNat_one, Int.reduceAdd, Int.reduceSub, Int.reduceMul, Int.reduceNeg, Int.reduceBEq, Int.reduceBNe, Int.reduceGE, Int.reduceGT, Nat.reduceLT, trim_keep, under_fn, under_ptr, under_sl, Nat.lt_irrefl, not_lt_add, trim_tail, keepOk, ABlk.vals, Int.cast_ofNat_Int, decide_true, decide_false, List.all_cons, List.all_nil, Nat.zero_mul, Nat.mul_one, Nat.one_mul, runC_loop, wl]
     unfold LP1 at l1
     generalize restS f c a seq l.length r 0 l = P at l1 eA0
     obtain ⟨r1, e1⟩ := P
     simp only at l1 eA0
     generalize (envL prog).loop (runC (envL prog) (l19x1 (envL prog))) = L1 at l1 ⊢
     refine outs_ctx (fun r => seqR (blockR 2 r) _) (l1 _ _ _ _ _ _ _ _ _ _ _ _ _ _ _ _ _ _ _ _ _ _ _ _ _ _ _ _ _ _ _ _ _ _ _ _ _ _ _ _ _ _ _ _ _ _ _ _ _ _ _ _ _ _ _ _ _ _ _ _ _ _ _ _ _ _ _ _ _ _ _ _ _ _ _ _ _ _ _ _ _ _ _ _ _ _ _ _ _ _ _ _ _ _ _ _ _ _ _ _ _ _ _ _ _ _ _ _ _ _ _ _ m (RStep.refl _ _) (by omega)) ?_
     rintro e t K1 ⟨n1, F1, m1, hn1, st1, fv1, rfl, ⟨rfl, hP⟩ | ⟨rfl, f12, f13, hP⟩⟩
     ·obtain ⟨K2, m2, st2, len2, ef⟩ := raFlush m1 0
      rw [if_pos hP] at eA0
      have st12 := st1.trans st2
      have wa : IntKind.i64.wrap (a + (l.length : Int)) = a + (l.length : Int) := wrap64 (by omega) (by omega)
      have wb : IntKind.i64.wrap (a + (l.length : Int) + 1) = a + (l.length : Int) + 1 := wrap64 (by omega) (by omega)
      have rm := int_rem .none .i64 (a + (l.length : Int) + 1) c (by omega)
      generalize r1.flush 0 = R2 at *
      obtain ⟨r2, e2⟩ := R2
      simp only at ef m2 eA0
      by_cases h2 : e2 = 0
      ·rw [if_pos h2] at eA0
       have n2 : (e2 != 0) = false := by rw [h2]; rfl
       simp -implicitDefEqProofs (maxSteps := 5000000) only [go_sem, Nat.reduceShiftRight, Nat.reduceAnd, Nat.reduceBNe, Int.reduceEq, Nat.reduceAdd, Nat.reduceSub, Nat.reduceMul, Nat.reduceLeDiff, reduceIte, reduceCtorEq, Nat.reduceBEq, Nat.reduceEqDiff, wrap64, runC_loop, runC_range, callF_fn, callV_fn, callV_yld, yield_eq, yieldBody, yieldRaw, roundMid, roundEnd, rangeEnd, Bool.not_not, put_cons, put_nil, trim_same, at_zero, at_add, set_zero, set_add, store_one, write_zero, write_add, write_head, write_succ, splice_one, splice_more, List.drop_nil, List.take_nil, cell_int, cell_bool, fillS, splice_one, idxA, Ex.isNormal, List.set_nil, List.length_set, List.all_cons, List.all_nil, Bool.and_self, and_self, true_and, and_true, List.getElem?_nil, Int.reduceLT, Int.reduceLE, Int.reduceToNat, Int.toNat_zero, Int.toNat_one, Int.reduceAdd, Int.reduceSub, Int.reduceMul, Int.reduceNeg, Int.reduceBEq, Int.reduceBNe, Int.reduceGE, Int.reduceGT, Nat.reduceLT, trim_keep, under_fn, under_ptr, under_sl, Nat.lt_irrefl, not_lt_add, trim_tail, keepOk, ABlk.vals, Int.cast_ofNat_Int, decide_true, decide_false, List.all_cons, List.all_nil, Nat.zero_mul, Nat.mul_one, Nat.one_mul, ef, n2, wl, wa, wb, rm, outs_normal]
       subst hQ
       rw [eA0]
       refine ⟨_, F1, hn1, m2, st12, ?_⟩
       simp -implicitDefEqProofs (maxSteps := 5000000) only [go_sem, Nat.reduceShiftRight, Nat.reduceAnd, Nat.reduceBNe, Int.reduceEq, Nat.reduceAdd, Nat.reduceSub, Nat.reduceMul, Nat.reduceLeDiff, reduceIte, reduceCtorEq, Nat.reduceBEq, Nat.reduceEqDiff]
      ·rw [if_neg h2] at eA0
       have n2 : (e2 != 0) = true := by simpa using h2
       simp -implicitDefEqProofs (maxSteps := 5000000) only [go_sem, Nat.reduceShiftRight, Nat.reduceAnd, Nat.reduceBNe, Int.reduceEq, Nat.reduceAdd, Nat.reduceSub, Nat.reduceMul, Nat.reduceLeDiff, reduceIte, reduceCtorEq, Nat.reduceBEq, Nat.reduceEqDiff, wrap64, runC_loop, runC_range, callF_fn, callV_fn, callV_yld, yield_eq, yieldBody, yieldRaw, roundMid, roundEnd, rangeEnd, Bool.not_not, put_cons, put_nil, trim_same, at_zero, at_add, set_zero, set_add, store_one, write_zero, write_add, write_head, write_succ, splice_one, splice_more, List.drop_nil, List.take_nil, cell_int, cell_bool, fillS, splice_one, idxA, Ex.isNormal, List.set_nil, List.length_set, List.all_cons, List.all_nil, Bool.and_self, and_self, true_and, and_true, List.getElem?_nil, Int.reduceLT, Int.reduceLE, Int.reduceToNat, Int.toNat_zero, Int.toNat_one, Int.reduceAdd, Int.reduceSub, Int.reduceMul, Int.reduceNeg, Int.reduceBEq, Int.reduceBNe, Int.reduceGE, Int.reduceGT, Nat.reduceLT, trim_keep, under_fn, under_ptr, under_sl, Nat.lt_irrefl, not_lt_add, trim_tail, keepOk, ABlk.vals, Int.cast_ofNat_Int, decide_true, decide_false, List.all_cons, List.all_nil, Nat.zero_mul, Nat.mul_one, Nat.one_mul, ef, n2, outs_normal]
       subst hQ
       rw [eA0]
       refine ⟨_, F1, hn1, m2, st12, ?_⟩
       simp -implicitDefEqProofs (maxSteps := 5000000) only [go_sem, Nat.reduceShiftRight, Nat.reduceAnd, Nat.reduceBNe, Int.reduceEq, Nat.reduceAdd, Nat.reduceSub, Nat.reduceMul, Nat.reduceLeDiff, reduceIte, reduceCtorEq, Nat.reduceBEq, Nat.reduceEqDiff]
     ·rw [if_neg hP] at eA0
      simp -implicitDefEqProofs (maxSteps := 5000000) only [go_sem, Nat.reduceShiftRight, Nat.reduceAnd, Nat.reduceBNe, Int.reduceEq, Nat.reduceAdd, Nat.reduceSub, Nat.reduceMul, Nat.reduceLeDiff, reduceIte, reduceCtorEq, Nat.reduceBEq, Nat.reduceEqDiff, outs_normal]
      subst hQ
      rw [eA0]
      refine ⟨_, F1, hn1, m1, st1, ?_⟩
      simp -implicitDefEqProofs (maxSteps := 5000000) only [go_sem, Nat.reduceShiftRight, Nat.reduceAnd, Nat.reduceBNe, Int.reduceEq, Nat.reduceAdd, Nat.reduceSub, Nat.reduceMul, Nat.reduceLeDiff, reduceIte, reduceCtorEq, Nat.reduceBEq, Nat.reduceEqDiff, f12, f13]
    ·simp -implicitDefEqProofs (maxSteps := 5000000) only [go_sem, Nat.reduceShiftRight, Nat.reduceAnd, Nat.reduceBNe, Int.reduceEq, Nat.reduceAdd, Nat.reduceSub, Nat.reduceMul, Nat.reduceLeDiff, reduceIte, reduceCtorEq, Nat.reduceBEq, Nat.reduceEqDiff, outs_normal]
     subst hQ
     have eA : appdS r f c a seq l = (r, (0, 1)) := by
      unfold appdS
      rw [if_pos hg, if_pos h1, if_neg (by rw [ho]; simp)]
     rw [eA]
     refine ⟨n, F, by omega, m, RStep.refl _ _, ?_⟩
     simp -implicitDefEqProofs (maxSteps := 5000000) only [go_sem, Nat.reduceShiftRight, Nat.reduceAnd, Nat.reduceBNe, Int.reduceEq, Nat.reduceAdd, Nat.reduceSub, Nat.reduceMul, Nat.reduceLeDiff, reduceIte, reduceCtorEq, Nat.reduceBEq, Nat.reduceEqDiff, f12, f13]
   ·have eA : appdS r f c a seq l = (r, (0, 2)) := by
     unfold appdS
     rw [if_pos hg, if_neg h1]
    rw [eA]
    generalize hQ : (fun (e' : Ex) (t : T) (K : AHeap) => ∃ n' F', n' ≤ n + l.length + 1 ∧ RefAt q K n' r F' ∧ RStep H F K F' ∧ fin [.tmp 12, .tmp 13] (some (e', t, K)) = some (.tup [.int .i64 0, .int .i64 2], K)) = Q
    by_cases h2 : l.length < 1
    ·have d1 : decide ((l.length : Int) < 1) = true := decide_eq_true (by omega)
     simp -implicitDefEqProofs (maxSteps := 5000000) only [go_sem, Nat.reduceShiftRight, Nat.reduceAnd, Nat.reduceBNe, Int.reduceEq, Nat.reduceAdd, Nat.reduceSub, Nat.reduceMul, Nat.reduceLeDiff, reduceIte, reduceCtorEq, Nat.reduceBEq, Nat.reduceEqDiff, wrap64, runC_loop, runC_range, callF_fn, callV_fn, callV_yld, yield_eq, yieldBody, yieldRaw, roundMid, roundEnd, rangeEnd, Bool.not_not, put_cons, put_nil, trim_same, at_zero, at_add, set_zero, set_add, store_one, write_zero, write_add, write_head, write_succ, splice_one, splice_more, List.drop_nil, List.take_nil, cell_int, cell_bool, fillS, splice_one, idxA, Ex.isNormal, List.set_nil, List.length_set, List.all_cons, List.all_nil, Bool.and_self, and_self, true_and, and_true, List.getElem?_nil, Int.reduceLT, Int.reduceLE, Int.reduceToNat, Int.toNat_zero, Int.toNat_one, Int.reduceAdd, Int.reduceSub, Int.reduceMul, Int.reduceNeg, Int.reduceBEq, Int.reduceBNe, Int.reduceGE, Int.reduceGT, Nat.reduceLT, trim_keep, under_fn, under_ptr, under_sl, Nat.lt_irrefl, not_lt_add, trim_tail, keepOk, ABlk.vals, Int.cast_ofNat_Int, decide_true, decide_false, List.all_cons, List.all_nil, Nat.zero_mul, Nat.mul_one, Nat.one_mul, gd, dg, wl, d1, outs_normal]
     subst hQ
     refine ⟨n, F, by omega, m, RStep.refl _ _, ?_⟩
     simp -implicitDefEqProofs (maxSteps := 5000000) only [go_sem, Nat.reduceShiftRight, Nat.reduceAnd, Nat.reduceBNe, Int.reduceEq, Nat.reduceAdd, Nat.reduceSub, Nat.reduceMul, Nat.reduceLeDiff, reduceIte, reduceCtorEq, Nat.reduceBEq, Nat.reduceEqDiff]
    ·have d1 : decide ((l.length : Int) < 1) = false := decide_eq_false (by omega)
     have d2 : decide ((l.length : Int) > c - 1) = true := decide_eq_true (by omega)
     simp -implicitDefEqProofs (maxSteps := 5000000) only [go_sem, Nat.reduceShiftRight, Nat.reduceAnd, Nat.reduceBNe, Int.reduceEq, Nat.reduceAdd, Nat.reduceSub, Nat.reduceMul, Nat.reduceLeDiff, reduceIte, reduceCtorEq, Nat.reduceBEq, Nat.reduceEqDiff, wrap64, runC_loop, runC_range, callF_fn, callV_fn, callV_yld, yield_eq, yieldBody, yieldRaw, roundMid, roundEnd, rangeEnd, Bool.not_not, put_cons, put_nil, trim_same, at_zero, at_add, set_zero, set_add, store_one, write_zero, write_add, write_head, write_succ, splice_one, splice_more, List.drop_nil, List.take_nil, cell_int, cell_bool, fillS, splice_one, idxA, Ex.isNormal, List.set_nil, List.length_set, List.all_cons, List.all_nil, Bool.and_self, and_self, true_and, and_true, List.getElem?_nil, Int.reduceLT, Int.reduceLE, Int.reduceToNat, Int.toNat_zero, Int.toNat_one, Int.reduceAdd, Int.reduceSub, Int.reduceMul, Int.reduceNeg, Int.reduceBEq, Int.reduceBNe, Int.reduceGE, Int.reduceGT, Nat.reduceLT, trim_keep, under_fn, under_ptr, under_sl, Nat.lt_irrefl, not_lt_add, trim_tail, keepOk, ABlk.vals, Int.cast_ofNat_Int, decide_true, decide_false, List.all_cons, List.all_nil, Nat.zero_mul, Nat.mul_one, Nat.one_mul, gd, dg, wl, d1, d2, w1, outs_normal]
     subst hQ
     refine ⟨n, F, by omega, m, RStep.refl _ _, ?_⟩
     simp -implicitDefEqProofs (maxSteps := 5000000) only [go_sem, Nat.reduceShiftRight, Nat.reduceAnd, Nat.reduceBNe, Int.reduceEq, Nat.reduceAdd, Nat.reduceSub, Nat.reduceMul, Nat.reduceLeDiff, reduceIte, reduceCtorEq, Nat.reduceBEq, Nat.reduceEqDiff]
  ·have dg := decide_eq_false hg
   have eA : appdS r f c a seq l = (r, (0, 1)) := by
    unfold appdS
    rw [if_neg hg]
   rw [eA]
   generalize hQ : (fun (e' : Ex) (t : T) (K : AHeap) => ∃ n' F', n' ≤ n + l.length + 1 ∧ RefAt q K n' r F' ∧ RStep H F K F' ∧ fin [.tmp 12, .tmp 13] (some (e', t, K)) = some (.tup [.int .i64 0, .int .i64 1], K)) = Q
   simp -implicitDefEqProofs (maxSteps := 5000000) only [go_sem, Nat.reduceShiftRight, Nat.reduceAnd, Nat.reduceBNe, Int.reduceEq, Nat.reduceAdd, Nat.reduceSub, Nat.reduceMul, Nat.reduceLeDiff, reduceIte, reduceCtorEq, Nat.reduceBEq, Nat.reduceEqDiff, wrap64, runC_loop, runC_range, callF_fn, callV_fn, callV_yld, yield_eq, yieldBody, yieldRaw, roundMid, roundEnd, rangeEnd, Bool.not_not, put_cons, put_nil, trim_same, at_zero, at_add, set_zero, set_add, store_one, write_zero, write_add, write_head, write_succ, splice_one, splice_more, List.drop_nil, List.take_nil, cell_int, cell_bool, fillS, splice_one, idxA, Ex.isNormal, List.set_nil, List.length_set, List.all_cons, List.all_nil, Bool.and_self, and_self, true_and, and_true, List.getElem?_nil, Int.reduceLT, Int.reduceLE, Int.reduceToNat, Int.toNat_zero, Int.toNat_one, Int.reduceAdd, Int.reduceSub, Int.reduceMul, Int.reduceNeg, Int.reduceBEq, Int.reduceBNe, Int.reduceGE, Int.reduceGT, Nat.reduceLT, trim_keep, under_fn, under_ptr, under_sl, Nat.lt_irrefl, not_lt_add, trim_tail, keepOk, ABlk.vals, Int.cast_ofNat_Int, decide_true, decide_false, List.all_cons, List.all_nil, Nat.zero_mul, Nat.mul_one, Nat.one_mul, gd, dg, outs_normal]
   subst hQ
   refine ⟨n, F, by omega, m, RStep.refl _ _, ?_⟩
   simp -implicitDefEqProofs (maxSteps := 5000000) only [go_sem, Nat.reduceShiftRight, Nat.reduceAnd, Nat.reduceBNe, Int.reduceEq, Nat.reduceAdd, Nat.reduceSub, Nat.reduceMul, Nat.reduceLeDiff, reduceIte, reduceCtorEq, Nat.reduceBEq, Nat.reduceEqDiff]
 obtain ⟨e', t, K, hr, n', F', hn', mK, st, hf⟩ := key
 obtain ⟨H', F'', et, mt, stt, _⟩ := m.trim mK st (.tup [.int .i64 (appdS r f c a seq l).2.1, .int .i64 (appdS r f c a seq l).2.2])
 exact ⟨n', H', F'', hn', mt, stt, by rw [c19, hr, hf, et]⟩
end
end Go.Proofs.Ytipedaadjfhdnaa.G06
end
