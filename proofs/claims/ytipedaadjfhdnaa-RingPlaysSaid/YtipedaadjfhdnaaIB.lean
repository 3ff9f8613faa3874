/- What the functions that RingPlays reaches answer, for every argument. No condition but those in each statement. -/
import Derived.Test.YtipedaadjfhdnaaN
import Derived.Test.YtipedaadjfhdnaaE6
import Derived.Test.YtipedaadjfhdnaaHA
import Derived.Test.YtipedaadjfhdnaaRA
import Derived.Test.YtipedaadjfhdnaaXA
set_option linter.unusedSimpArgs false
set_option linter.unusedVariables false
set_option linter.unusedSectionVars false
set_option maxRecDepth 10000
section
namespace Go.Proofs.Ytipedaadjfhdnaa.G06
open Go Go.Proofs.Ytipedaadjfhdnaa.Eng
theorem known : (knows 12).Ok prog := knows_ok (n := 20) (by kernel_rfl)
noncomputable abbrev EO := envO prog (knows 12)
noncomputable abbrev LP (l : Env → CT) := (envL prog).loop (runC (envO prog (knows 12)) (l (envO prog (knows 12))))
end Go.Proofs.Ytipedaadjfhdnaa.G06
end
section
namespace Go.Proofs.Ytipedaadjfhdnaa.G06
open Go Go.Proofs.Ytipedaadjfhdnaa.Eng
theorem set_after (x : AV) (l : List AV) (i : Nat) (v : AV) : (x :: l).set (1 + i) v = x :: l.set i v := by rw [Nat.add_comm]; rfl
theorem imageL (x0 v : Int) (h : AHeap) (A : List AV) (x2 x3 x4 x7 x8 x17 : AV) : ∀ (k i : Nat) (j9 j10 j11 j12 j13 j14 j15 j16 : AV), i + k = 48 →
  ∃ k9 k10 k11 k12 k13 k14 k15 k16 : AV, (envL prog).loop (runC (envL prog) (l10x0 (envL prog))) [.int .i64 x0, .int .u8 v, x2, x3, x4, .ptr (h.length + 1) 0, .int .i64 (i : Int), x7, x8, j9, j10, j11, j12, j13, j14, j15, j16, x17] (h ++ [.rw A, .rw (.int .i64 x0 :: (rep i (.int .u8 v) ++ rep k (.int .u8 0)))]) =
   some (.exit 0, [.int .i64 x0, .int .u8 v, x2, x3, x4, .ptr (h.length + 1) 0, .int .i64 48, x7, x8, k9, k10, k11, k12, k13, k14, k15, k16, x17], h ++ [.rw A, .rw (.int .i64 x0 :: rep 48 (.int .u8 v))]) := by
 intro k
 induction k with
 | zero =>
  intro i j9 j10 j11 j12 j13 j14 j15 j16 hi
  obtain rfl : i = 48 := by omega
  have hd : decide (((48 : Nat) : Int) < 48) = false := rfl
  rw [loop_run]
  unfold l10x0
  simp -implicitDefEqProofs (maxSteps := 5000000) only [go_sem, Nat.reduceShiftRight, Nat.reduceAnd, Nat.reduceBNe, Int.reduceEq, Nat.reduceAdd, Nat.reduceSub, Nat.reduceMul, Nat.reduceLeDiff, reduceIte, reduceCtorEq, Nat.reduceBEq, Nat.reduceEqDiff, go_sem, hd, seqR_exit', rep_zero]
  exact ⟨_, _, _, _, _, _, _, _, rfl⟩
 | succ k ih =>
  intro i j9 j10 j11 j12 j13 j14 j15 j16 hi
  have hd : decide ((i : Int) < 48) = true := by simp; omega
  have h0 : (0 ≤ (i : Int)) = True := by simp
  have h1 : ((i : Int) < 48) = True := by simp; omega
  have h2 : IntKind.i64.wrap ((i : Int) + 1) = ((i + 1 : Nat) : Int) := by rw [wrap64 (by omega) (by omega)]; omega
  have h3 : (1 + i + 1 ≤ i + (k + 1) + 1) = True := by simp; omega
  have h3' : (1 + (i + 1) ≤ i + (k + 1) + 1) = True := by simp; omega
  have h3'' : (1 + (i + 1) ≤ i + (k + (1 + 1))) = True := by simp; omega
  obtain ⟨k9, k10, k11, k12, k13, k14, k15, k16, e⟩ := ih (i + 1) (.int .i64 i) (.bool true) (.int .i64 i) (.int .i64 ((i + 1 : Nat) : Int)) (.int .i64 i) (.int .u8 v) (.ptr (h.length + 1) 1) (.ptr (h.length + 1) (1 + i)) (by omega)
  refine ⟨k9, k10, k11, k12, k13, k14, k15, k16, ?_⟩
  rw [← e, loop_run]
  conv => lhs; arg 1; unfold l10x0
  simp -implicitDefEqProofs (maxSteps := 5000000) only [go_sem, Nat.reduceShiftRight, Nat.reduceAnd, Nat.reduceBNe, Int.reduceEq, Nat.reduceAdd, Nat.reduceSub, Nat.reduceMul, Nat.reduceLeDiff, reduceIte, reduceCtorEq, Nat.reduceBEq, Nat.reduceEqDiff, go_sem, hd, idxAddrA, h0, h1, h2, h3, h3', h3'', Int.toNat_natCast, Int.cast_ofNat_Int, Nat.mul_one, write_add, write_succ, write_head, store_one, splice_set, set_after, rep_fill, true_and, cell_int, List.all_cons, List.all_nil, Bool.and_self, and_self]
theorem imageC0 (x0 v : Int) (h : AHeap) : (envL prog).call 10 [.int .i64 x0, .int .u8 v] h = some (.agg (.int .i64 x0 :: rep 48 (.int .u8 v)), h) := by
 rw [c10]
 unfold b10
 have L : ∀ (A : List AV) (x2 x3 x4 x7 x8 x17 j9 j10 j11 j12 j13 j14 j15 j16 : AV), ∃ k9 k10 k11 k12 k13 k14 k15 k16 : AV, (envL prog).loop (runC (envL prog) (l10x0 (envL prog))) [.int .i64 x0, .int .u8 v, x2, x3, x4, .ptr (h.length + 1) 0, .int .i64 0, x7, x8, j9, j10, j11, j12, j13, j14, j15, j16, x17] (h ++ [.rw A, .rw (.int .i64 x0 :: rep 48 (.int .u8 0))]) =
   some (.exit 0, [.int .i64 x0, .int .u8 v, x2, x3, x4, .ptr (h.length + 1) 0, .int .i64 48, x7, x8, k9, k10, k11, k12, k13, k14, k15, k16, x17], h ++ [.rw A, .rw (.int .i64 x0 :: rep 48 (.int .u8 v))]) := fun A x2 x3 x4 x7 x8 x17 j9 j10 j11 j12 j13 j14 j15 j16 =>
  imageL x0 v h A x2 x3 x4 x7 x8 x17 48 0 j9 j10 j11 j12 j13 j14 j15 j16 rfl
 obtain ⟨k9, k10, k11, k12, k13, k14, k15, k16, e⟩ := L (.int .i64 0 :: rep 48 (.int .u8 0)) .undef .undef (.ptr h.length 0) (.int .i64 x0) (.agg (.int .i64 x0 :: rep 48 (.int .u8 0))) .undef .undef .undef .undef .undef .undef .undef .undef .undef
 have s1 : splice (.int .i64 0 :: rep 48 (.int .u8 0)) 0 [.int .i64 x0] = .int .i64 x0 :: rep 48 (.int .u8 0) := rfl
 have s2 : ∀ y z, splice (.int .i64 y :: rep 48 (.int .u8 0)) 0 (.int .i64 x0 :: rep 48 (.int .u8 z)) = .int .i64 x0 :: rep 48 (.int .u8 z) := fun y z => rfl
 have t1 : ∀ a z, (a :: rep 48 z).take 49 = a :: rep 48 z := fun a z => rfl
 have t2 : ∀ z, (rep 48 z).take 48 = rep 48 z := fun z => rfl
 simp -implicitDefEqProofs (maxSteps := 5000000) only [go_sem, Nat.reduceShiftRight, Nat.reduceAnd, Nat.reduceBNe, Int.reduceEq, Nat.reduceAdd, Nat.reduceSub, Nat.reduceMul, Nat.reduceLeDiff, reduceIte, reduceCtorEq, Nat.reduceBEq, Nat.reduceEqDiff, go_sem, runC_loop, e, s1, s2, t1, t2, write_zero, write_add, write_succ, write_head, store_one, cell_int, and_self, ne_eq, Nat.reduceEqDiff, not_false_eq_true, List.all_cons]
theorem imageC (x0 v : Int) (h : AHeap) : (envL prog).call 10 [.int .i64 x0, .int .u8 v] h = some (.agg (.int .i64 x0 :: u8s (fz48 v)), h) := by
 unfold fz48; rw [← rep_u8s]; exact imageC0 x0 v h
end Go.Proofs.Ytipedaadjfhdnaa.G06
end
section
namespace Go.Proofs.Ytipedaadjfhdnaa.G06
open Go Go.Proofs.Ytipedaadjfhdnaa.Eng
structure Two (H K : AHeap) (a b : AV) (l : List ImS) : Prop where
 old : Adds H K
 ga : GR 49 K H.length a (imRows l)
 gb : GR 49 K H.length b (imRows l)
 ap : ∀ x, slb a = some x → slb b ≠ some x
section
variable {H : AHeap} {v : AV} {l : List PrS} (ps : PS H v l) (hl : l.length ≤ 1000)
include ps hl
set_option maxHeartbeats 8000000 in
theorem imagesL (x1 x2 x3 x38 x39 : AV) : ∀ (k i : Nat) (K : AHeap) (a b : AV) (j7 j8 j9 j10 j11 j12 j13 j14 j15 j16 j17 j18 j19 j20 j21 j22 j23 j24 j25 j26 j27 j28 j29 j30 j31 j32 j33 j34 j35 j36 j37 : AV), Two H K a b ((l.take i).map prI) → i + k = l.length →
  Outs (LP1 l14x0 [v, x1, x2, x3, a, b, .int .i64 (i : Int), j7, j8, j9, j10, j11, j12, j13, j14, j15, j16, j17, j18, j19, j20, j21, j22, j23, j24, j25, j26, j27, j28, j29, j30, j31, j32, j33, j34, j35, j36, j37, x38, x39] K) fun e t K' => e = .exit 0 ∧ ∃ fv : Nat → AV, t = [v, x1, x2, x3, (fv 4), (fv 5), (fv 6), (fv 7), (fv 8), (fv 9), (fv 10), (fv 11), (fv 12), (fv 13), (fv 14), (fv 15), (fv 16), (fv 17), (fv 18), (fv 19), (fv 20), (fv 21), (fv 22), (fv 23), (fv 24), (fv 25), (fv 26), (fv 27), (fv 28), (fv 29), (fv 30), (fv 31), (fv 32), (fv 33), (fv 34), (fv 35), (fv 36), (fv 37), x38, x39] ∧ Two H K' (fv 4) (fv 5) (l.map prI) := by
 intro k
 obtain ⟨L, hL⟩ : ∃ L, L = LP1 l14x0 := ⟨_, rfl⟩
 have lo := loop_open hL
 have wl := ps.len
 rw [← hL]
 induction k with
 | zero =>
  intro i K a b j7 j8 j9 j10 j11 j12 j13 j14 j15 j16 j17 j18 j19 j20 j21 j22 j23 j24 j25 j26 j27 j28 j29 j30 j31 j32 j33 j34 j35 j36 j37 tw hi
  obtain rfl : i = l.length := by omega
  have hd : decide ((l.length : Int) < (l.length : Int)) = false := by simp
  rw [List.take_length] at tw
  rw [lo]
  unfold l14x0
  simp -implicitDefEqProofs (maxSteps := 5000000) only [go_sem, Nat.reduceShiftRight, Nat.reduceAnd, Nat.reduceBNe, Int.reduceEq, Nat.reduceAdd, Nat.reduceSub, Nat.reduceMul, Nat.reduceLeDiff, reduceIte, reduceCtorEq, Nat.reduceBEq, Nat.reduceEqDiff, wl, hd, seqR_exit', outs_normal]
  exact exF2 rfl tw
 | succ k ih =>
  intro i K a b j7 j8 j9 j10 j11 j12 j13 j14 j15 j16 j17 j18 j19 j20 j21 j22 j23 j24 j25 j26 j27 j28 j29 j30 j31 j32 j33 j34 j35 j36 j37 tw hi
  have hlt : i < l.length := by omega
  have hd : decide ((i : Int) < (l.length : Int)) = true := decide_eq_true (by omega)
  have e2 : IntKind.i64.wrap ((i : Int) + 1) = ((i + 1 : Nat) : Int) := by rw [wrap64 (by omega) (by omega)]; omega
  have hx := List.getElem?_eq_getElem hlt
  obtain ⟨s, cs, ix, hc, c0, c1, hle⟩ := ps.idx hx
  have tk : (l.take (i + 1)).map prI = (l.take i).map prI ++ [prI l[i]] := by rw [List.take_add_one, hx, List.map_append]; rfl
  generalize l[i] = p at *
  obtain ⟨px, py⟩ := p
  simp only at c0 c1
  have cK := tw.old.cells hc
  have cKo := fun X : AHeap => cells_old (x := X) cK
  have im := fun X : AHeap => imageC px (IntKind.u8.wrap py) X
  have pi : prI (px, py) = ⟨px, fz48 (IntKind.u8.wrap py)⟩ := rfl
  have fl := fz48_len (IntKind.u8.wrap py)
  rw [pi] at tk
  generalize fz48 (IntKind.u8.wrap py) = z at *
  have zl : zbody.length = 48 := zbody_b.1
  obtain ⟨C, hC⟩ : ∃ C, C = AV.int .i64 px :: u8s z := ⟨_, rfl⟩
  have Cl : C.length = 49 := by rw [hC]; simp [u8s_len, fl]
  have Cc : C.all AV.isCell = true := by rw [hC, List.all_cons, u8s_cell]; rfl
  have r49 : ∀ x ∈ imRows ((l.take i).map prI), x.length = 49 := fun x hx => by
   obtain ⟨y, hy, rfl⟩ := List.mem_map.1 hx
   simp [ImS.cells, u8s_len, prI_48 _ y hy]
  have rl : (imRows ((l.take i).map prI)).length = i := by unfold imRows; rw [List.length_map, List.length_map, List.length_take]; omega
  have er : imRows ((l.take i).map prI) ++ [C] = imRows ((l.take (i + 1)).map prI) := by rw [tk, hC]; unfold imRows; rw [List.map_append]; rfl
  have oldH := tw.old.len
  obtain ⟨K3, hK3⟩ : ∃ K3, K3 = K ++ [ABlk.rw C, .rw C, .rw C] := ⟨_, rfl⟩
  have aK3 : Adds K K3 := ⟨_, hK3⟩
  have k3l : K3.length = K.length + 3 := by rw [hK3]; simp
  have cc : ∀ j, j < 3 → cellsOf K3 (K.length + j) = some C := fun j hj => by
   rw [hK3]; unfold cellsOf
   rcases j with _ | _ | _ | j
   ·simp
   ·simp
   ·simp
   ·omega
  have ga3 : GR 49 K3 H.length a _ := tw.ga.frS (Fr.adds aK3 (fun _ => False)) fun _ _ h => h
  have gb3 : GR 49 K3 H.length b _ := tw.gb.frS (Fr.adds aK3 (fun _ => False)) fun _ _ h => h
  obtain ⟨a', K4, ea, ga4, fr4, sa, l4, ka, kc⟩ := gr_push (k := 49) (by omega) (d := ty 49 true 56 (.int .i64 0 :: u8s zbody)) rfl (by decide) ga3 r49 (cc 1 (by omega)) Cl Cc (by rw [rl]; show (i + 1) * 56 ≤ roomy; unfold roomy; omega) (by omega)
  have n3 : ∀ (w : AV) (r : List (List AV)), GR 49 K H.length w r → ∀ j, slb w ≠ some (K.length + j) := fun w r g j h => by have := (g.out _ h).2; omega
  have cc4 : ∀ j, j < 3 → cellsOf K4 (K.length + j) = some C := fun j hj => fr4.cells (cc j hj) fun h => n3 a _ tw.ga j h
  have gb4 : GR 49 K4 H.length b _ := gb3.frS fr4 fun x hx h => tw.ap x h hx
  obtain ⟨b', K5, eb, gb5, fr5, sb, l5, kb, kd⟩ := gr_push (k := 49) (by omega) (d := ty 49 true 56 (.int .i64 0 :: u8s zbody)) rfl (by decide) gb4 r49 (cc4 2 (by omega)) Cl Cc (by rw [rl]; show (i + 1) * 56 ≤ roomy; unfold roomy; omega) (by omega)
  have cc5 : ∀ j, j < 3 → cellsOf K5 (K.length + j) = some C := fun j hj => fr5.cells (cc4 j hj) fun h => n3 b _ tw.gb j h
  have aH3 : Adds H K3 := tw.old.trans aK3
  have aH4 : Adds H K4 := fr4.old aH3 fun x hx h => by have := (tw.ga.out x h).1; omega
  have aH5 : Adds H K5 := fr5.old aH4 fun x hx h => by have := (tw.gb.out x h).1; omega
  have c4 := aH4.cells hc
  have c5 := aH5.cells hc
  have ga5 : GR 49 K5 H.length a' _ := ga4.frS fr5 fun x hx h => by
   rw [sa] at hx; injection hx with hx; subst hx
   have := (tw.gb.out _ h).2; omega
  rw [er] at ga5 gb5
  have tw5 : Two H K5 a' b' ((l.take (i + 1)).map prI) := ⟨aH5, ga5, gb5, fun x hx hy => by rw [sa] at hx; rw [sb] at hy; injection hx with hx; injection hy with hy; omega⟩
  have key := ih (i + 1) K5 a' b'
  have e3 : K ++ [ABlk.rw C, .rw C, .rw C] = K3 := hK3.symm
  have sp : splice (.int .i64 0 :: u8s zbody) 0 C = C := by
   rw [splice_long _ _ _ (by simp [Cl]), List.drop_of_length_le (by simp [Cl, u8s_len, zl]), List.append_nil]; rfl
  have spD : splice (.int .i64 0 :: u8s zbody) 0 [.int .i64 px] = .int .i64 px :: u8s zbody := rfl
  have sp1 : splice (.int .i64 px :: u8s zbody) 1 (u8s z) = C := by
   rw [hC, splice_long _ _ _ (by rw [u8s_len]; omega), u8s_len, fl]
   show AV.int .i64 px :: (u8s z ++ (u8s zbody).drop 48) = _
   rw [List.drop_of_length_le (by rw [u8s_len]; omega), List.append_nil]
  have t48 := u8s_take fl
  have t49 : C.take 49 = C := List.take_of_length_le (by omega)
  have C0 : C[0]? = some (.int .i64 px) := by rw [hC]; rfl
  have q0 := cc 0 (by omega)
  have q1 := cc 1 (by omega)
  have q2 := cc 2 (by omega)
  have p0 := cc4 0 (by omega)
  have p1 := cc4 1 (by omega)
  have p2 := cc4 2 (by omega)
  have o0 := cc5 0 (by omega)
  have o1 := cc5 1 (by omega)
  have o2 := cc5 2 (by omega)
  simp only [Nat.add_zero] at q0 p0 o0
  rw [lo]
  unfold l14x0
  simp only [hC] at *
  simp -implicitDefEqProofs (maxSteps := 5000000) only [go_sem, Nat.reduceShiftRight, Nat.reduceAnd, Nat.reduceBNe, Int.reduceEq, Nat.reduceAdd, Nat.reduceSub, Nat.reduceMul, Nat.reduceLeDiff, reduceIte, reduceCtorEq, Nat.reduceBEq, Nat.reduceEqDiff, wrap64, runC_loop, runC_range, callF_fn, callV_fn, callV_yld, yield_eq, yieldBody, yieldRaw, roundMid, roundEnd, rangeEnd, Bool.not_not, put_cons, put_nil, trim_same, at_zero, at_add, set_zero, set_add, store_one, write_zero, write_add, write_head, write_succ, splice_one, splice_more, List.drop_nil, List.take_nil, cell_int, cell_bool, fillS, splice_one, idxA, Ex.isNormal, List.set_nil, List.length_set, List.all_cons, List.all_nil, Bool.and_self, and_self, true_and, and_true, List.getElem?_nil, Int.reduceLT, Int.reduceLE, Int.reduceToNat, Int.toNat_zero, Int.toNat_one, Int.reduceAdd, Int.reduceSub, Int.reduceMul, Int.reduceNeg, Int.reduceBEq, Int.reduceBNe, Int.reduceGE, Int.reduceGT, Nat.reduceLT, trim_keep, under_fn, under_ptr, under_sl, Nat.lt_irrefl, not_lt_add, trim_tail, keepOk, ABlk.vals, Int.cast_ofNat_Int, decide_true, decide_false, List.all_cons, List.all_nil, Nat.zero_mul, Nat.mul_one, Nat.one_mul, idx_arr, wl, hd, e2, ix, cK, c0, c1, hle, im, rep_z48, u8s_len, fl, zl, u8s_cell, sp, sp1, spD, t49, C0, e3, ea, eb, c4, c5, q0, q1, q2, p0, p1, p2, o0, o1, o2, t48, ka, kb, kc, kd]
  exact key _ _ _ _ _ _ _ _ _ _ _ _ _ _ _ _ _ _ _ _ _ _ _ _ _ _ _ _ _ _ _ tw5 (by omega)
theorem imagesC : ∃ a b K, Two H K a b (l.map prI) ∧ (envL prog).call 14 [v] H = some (.tup [a, b], K) := by
 have l0 := imagesL ps hl (k := l.length) (i := 0) (K := H) (a := .nilSl) (b := .nilSl)
 rw [show ((0 : Nat) : Int) = 0 from rfl] at l0
 have tw0 : Two H H .nilSl .nilSl ((l.take 0).map prI) := ⟨Adds.refl H, .inl ⟨rfl, rfl⟩, .inl ⟨rfl, rfl⟩, fun x hx => by cases hx⟩
 have key : Outs (runC (envL prog) (b14 (envL prog)) ([v] ++ List.replicate (40 - [v].length) .undef) H) fun e' t K => ∃ a b, Two H K a b (l.map prI) ∧ fin [.tmp 2, .tmp 3] (some (e', t, K)) = some (.tup [a, b], K) := by
  unfold b14
  generalize hQ : (fun (e' : Ex) (t : T) (K : AHeap) => ∃ a b, Two H K a b (l.map prI) ∧ fin [.tmp 2, .tmp 3] (some (e', t, K)) = some (.tup [a, b], K)) = Q
  simp -implicitDefEqProofs (maxSteps := 5000000) only [go_sem, Nat.reduceShiftRight, Nat.reduceAnd, Nat.reduceBNe, Int.reduceEq, Nat.reduceAdd, Nat.reduceSub, Nat.reduceMul, Nat.reduceLeDiff, reduceIte, reduceCtorEq, Nat.reduceBEq, Nat.reduceEqDiff, wrap64, runC_loop, runC_range, callF_fn, callV_fn, callV_yld, yield_eq, yieldBody, yieldRaw, roundMid, roundEnd, rangeEnd, Bool.not_not, put_cons, put_nil, trim_same, at_zero, at_add, set_zero, set_add, store_one, write_zero, write_add, write_head, write_succ, splice_one, splice_more, List.drop_nil, List.take_nil, cell_int, cell_bool, fillS, splice_one, idxA, Ex.isNormal, List.set_nil, List.length_set, List.all_cons, List.all_nil, Bool.and_self, and_self, true_and, and_true, List.getElem?_nil, Int.reduceLT, Int.reduceLE, Int.reduceToNat, Int.toNat_zero, Int.toNat_one, Int.reduceAdd, Int.reduceSub, Int.reduceMul, Int.reduceNeg, Int.reduceBEq, Int.reduceBNe, Int.reduceGE, Int.reduceGT, Nat.reduceLT, trim_keep, under_fn, under_ptr, under_sl, Nat.lt_irrefl, not_lt_add, trim_tail, keepOk, ABlk.vals, Int.cast_ofNat_Int, decide_true, decide_false, List.all_cons, List.all_nil, Nat.zero_mul, Nat.mul_one, Nat.one_mul, runC_loop]
  unfold LP1 at l0
  generalize (envL prog).loop (runC (envL prog) (l14x0 (envL prog))) = L0 at l0 ⊢
  refine outs_ctx (fun r => seqR (blockR 0 r) _) (l0 _ _ _ _ _ _ _ _ _ _ _ _ _ _ _ _ _ _ _ _ _ _ _ _ _ _ _ _ _ _ _ _ _ _ _ _ tw0 (by omega)) ?_
  rintro e t K ⟨rfl, fv, rfl, tw⟩
  simp -implicitDefEqProofs (maxSteps := 5000000) only [go_sem, Nat.reduceShiftRight, Nat.reduceAnd, Nat.reduceBNe, Int.reduceEq, Nat.reduceAdd, Nat.reduceSub, Nat.reduceMul, Nat.reduceLeDiff, reduceIte, reduceCtorEq, Nat.reduceBEq, Nat.reduceEqDiff, outs_normal]
  subst hQ
  refine ⟨fv 4, fv 5, tw, ?_⟩
  simp -implicitDefEqProofs (maxSteps := 5000000) only [go_sem, Nat.reduceShiftRight, Nat.reduceAnd, Nat.reduceBNe, Int.reduceEq, Nat.reduceAdd, Nat.reduceSub, Nat.reduceMul, Nat.reduceLeDiff, reduceIte, reduceCtorEq, Nat.reduceBEq, Nat.reduceEqDiff]
 obtain ⟨e', t, K, hr, a, b, tw, hf⟩ := key
 rcases trim_if H (.tup [a, b]) K with ⟨t, e⟩ | e
 ·obtain ⟨_, t2, _⟩ := t
  have ua : a.under H.length = true ∧ b.under H.length = true := by simpa [AV.under, underAll] using t2
  have e0 : ∀ {w : AV}, GR 49 K H.length w (imRows (l.map prI)) → w.under H.length = true → l = [] ∧ w = .nilSl := fun {w} g h => by
   rcases g.under with ⟨q1, q2⟩ | q
   ·refine ⟨?_, q2⟩
    have : (imRows (l.map prI)).length = 0 := by rw [q1]; rfl
    unfold imRows at this
    rw [List.length_map, List.length_map] at this
    exact List.eq_nil_of_length_eq_zero this
   ·rw [q] at h; cases h
  obtain ⟨hn, rfl⟩ := e0 tw.ga ua.1
  obtain ⟨_, rfl⟩ := e0 tw.gb ua.2
  obtain ⟨X, rfl⟩ := tw.old
  refine ⟨.nilSl, .nilSl, H, ⟨Adds.refl H, .inl ⟨by rw [hn]; rfl, rfl⟩, .inl ⟨by rw [hn]; rfl, rfl⟩, fun x hx => by cases hx⟩, ?_⟩
  rw [c14, hr, hf, e, List.take_left]
 ·exact ⟨a, b, K, tw, by rw [c14, hr, hf, e]⟩
end
end Go.Proofs.Ytipedaadjfhdnaa.G06
end
section
namespace Go.Proofs.Ytipedaadjfhdnaa.G06
open Go Go.Proofs.Ytipedaadjfhdnaa.Eng
section
variable {H : AHeap} {v : AV} {l : List PrS} (ps : PS H v l) (hl : l.length ≤ 9223372036854775807)
include ps hl
end
end Go.Proofs.Ytipedaadjfhdnaa.G06
end
section
namespace Go.Proofs.Ytipedaadjfhdnaa.G06
open Go Go.Proofs.Ytipedaadjfhdnaa.Eng
section
variable {H : AHeap} {B B2 : Nat} {v w : AV} {U : List (List ImS)} {vs ws : List AV} (h : LogH H B v U vs) (g : LogH H B2 w U ws) (hT : U.length ≤ 1000) (hT2 : ∀ t ∈ U, t.length ≤ 1000) {p1 p2 : Nat} {va vq wa wq we : AV} (cu : cellsOf H p1 = some [v, va, vq]) (cw : cellsOf H p2 = some [w, wa, wq, we])
include h g hT hT2 cu cw
set_option maxHeartbeats 8000000 in
theorem sameL0 {i : Nat} {t : List ImS} (ht : U[i]? = some t) (x0 x1 x7 x8 x9 x10 x11 x12 x13 x14 x15 x16 x17 x18 x19 x20 x21 x22 x23 x24 x25 x26 x27 x28 x29 x30 x31 x32 x33 x34 x35 x36 x37 x38 x39 x40 x41 x42 x43 x44 x45 x46 x47 : AV) : ∀ (k j : Nat) (j4 j48 j49 j50 j51 j52 j53 j54 j55 j56 j57 j58 j59 j60 j61 j62 j63 j64 j65 j66 j67 j68 j69 j70 j71 j72 j73 j74 j75 j76 j77 j78 j79 j80 j81 j82 j83 j84 j85 j86 j87 j88 j89 j90 j91 j92 j93 j94 j95 j96 j97 : AV), j + k = t.length →
  Outs (LP1 l21x0 [x0, x1, .ptr p1 0, .ptr p2 0, j4, .int .i64 (i : Int), .int .i64 (j : Int), x7, x8, x9, x10, x11, x12, x13, x14, x15, x16, x17, x18, x19, x20, x21, x22, x23, x24, x25, x26, x27, x28, x29, x30, x31, x32, x33, x34, x35, x36, x37, x38, x39, x40, x41, x42, x43, x44, x45, x46, x47, j48, j49, j50, j51, j52, j53, j54, j55, j56, j57, j58, j59, j60, j61, j62, j63, j64, j65, j66, j67, j68, j69, j70, j71, j72, j73, j74, j75, j76, j77, j78, j79, j80, j81, j82, j83, j84, j85, j86, j87, j88, j89, j90, j91, j92, j93, j94, j95, j96, j97] H) fun e t K' => e = .exit 2 ∧ K' = H ∧ ∃ k : Nat → AV, t = [x0, x1, .ptr p1 0, .ptr p2 0, (k 4), .int .i64 (i : Int), (k 6), x7, x8, x9, x10, x11, x12, x13, x14, x15, x16, x17, x18, x19, x20, x21, x22, x23, x24, x25, x26, x27, x28, x29, x30, x31, x32, x33, x34, x35, x36, x37, x38, x39, x40, x41, x42, x43, x44, x45, x46, x47, (k 48), (k 49), (k 50), (k 51), (k 52), (k 53), (k 54), (k 55), (k 56), (k 57), (k 58), (k 59), (k 60), (k 61), (k 62), (k 63), (k 64), (k 65), (k 66), (k 67), (k 68), (k 69), (k 70), (k 71), (k 72), (k 73), (k 74), (k 75), (k 76), (k 77), (k 78), (k 79), (k 80), (k 81), (k 82), (k 83), (k 84), (k 85), (k 86), (k 87), (k 88), (k 89), (k 90), (k 91), (k 92), (k 93), (k 94), (k 95), (k 96), (k 97)] := by
 intro k
 obtain ⟨L, hL⟩ : ∃ L, L = LP1 l21x0 := ⟨_, rfl⟩
 have lo := loop_open hL
 obtain ⟨a, b, cs, va1, sb, ix, hc, ca, hle, ga, a48⟩ := h.row ht
 obtain ⟨a2, b2, cs2, va2, sb2, ix2, hc2, ca2, hle2, ga2, _⟩ := g.row ht
 have la := im_len ga
 have lb := im_len ga2
 have tl := hT2 t (List.mem_of_getElem? ht)
 have il : i < U.length := (List.getElem?_eq_some_iff.1 ht).1
 rw [← hL]
 induction k with
 | zero =>
  intro j j4 j48 j49 j50 j51 j52 j53 j54 j55 j56 j57 j58 j59 j60 j61 j62 j63 j64 j65 j66 j67 j68 j69 j70 j71 j72 j73 j74 j75 j76 j77 j78 j79 j80 j81 j82 j83 j84 j85 j86 j87 j88 j89 j90 j91 j92 j93 j94 j95 j96 j97 hi
  obtain rfl : j = t.length := by omega
  have hd : decide ((t.length : Int) < (t.length : Int)) = false := by simp
  rw [lo]
  unfold l21x0
  simp -implicitDefEqProofs (maxSteps := 5000000) only [go_sem, Nat.reduceShiftRight, Nat.reduceAnd, Nat.reduceBNe, Int.reduceEq, Nat.reduceAdd, Nat.reduceSub, Nat.reduceMul, Nat.reduceLeDiff, reduceIte, reduceCtorEq, Nat.reduceBEq, Nat.reduceEqDiff, cu, cw, ix, hc, ca, la, hd, seqR_exit', outs_normal]
  exact exF rfl
 | succ k ih =>
  intro j j4 j48 j49 j50 j51 j52 j53 j54 j55 j56 j57 j58 j59 j60 j61 j62 j63 j64 j65 j66 j67 j68 j69 j70 j71 j72 j73 j74 j75 j76 j77 j78 j79 j80 j81 j82 j83 j84 j85 j86 j87 j88 j89 j90 j91 j92 j93 j94 j95 j96 j97 hi
  have hlt : j < t.length := by omega
  have hd : decide ((j : Int) < (t.length : Int)) = true := decide_eq_true (by omega)
  have e2 : IntKind.i64.wrap ((j : Int) + 1) = ((j + 1 : Nat) : Int) := by rw [wrap64 (by omega) (by omega)]; omega
  have hx := List.getElem?_eq_getElem hlt
  have xl := a48 _ (List.getElem_mem hlt)
  generalize t[j] = x at *
  obtain ⟨q, ds, sq, iq, hq, q0, q1, _, qle⟩ := im_read ga a48 hx
  obtain ⟨q', ds', sq', iq', hq', q0', q1', _, qle'⟩ := im_read ga2 a48 hx
  have ql1 : j * 49 + 1 + 48 ≤ ds.length := by omega
  have ql2 : j * 49 + 1 + 48 ≤ ds'.length := by omega
  have ne := ne_u8 (n := 48) xl xl
  have t48 := u8s_take xl
  have nn : (x.i != x.i) = false := by simp
  have dd : decide (x.b = x.b) = true := decide_eq_true rfl
  rw [lo]
  unfold l21x0
  simp -implicitDefEqProofs (maxSteps := 5000000) only [go_sem, Nat.reduceShiftRight, Nat.reduceAnd, Nat.reduceBNe, Int.reduceEq, Nat.reduceAdd, Nat.reduceSub, Nat.reduceMul, Nat.reduceLeDiff, reduceIte, reduceCtorEq, Nat.reduceBEq, Nat.reduceEqDiff, wrap64, runC_loop, runC_range, callF_fn, callV_fn, callV_yld, yield_eq, yieldBody, yieldRaw, roundMid, roundEnd, rangeEnd, Bool.not_not, put_cons, put_nil, trim_same, at_zero, at_add, set_zero, set_add, store_one, write_zero, write_add, write_head, write_succ, splice_one, splice_more, List.drop_nil, List.take_nil, cell_int, cell_bool, fillS, splice_one, idxA, Ex.isNormal, List.set_nil, List.length_set, List.all_cons, List.all_nil, Bool.and_self, and_self, true_and, and_true, List.getElem?_nil, Int.reduceLT, Int.reduceLE, Int.reduceToNat, Int.toNat_zero, Int.toNat_one, Int.reduceAdd, Int.reduceSub, Int.reduceMul, Int.reduceNeg, Int.reduceBEq, Int.reduceBNe, Int.reduceGE, Int.reduceGT, Nat.reduceLT, trim_keep, under_fn, under_ptr, under_sl, Nat.lt_irrefl, not_lt_add, trim_tail, keepOk, ABlk.vals, Int.cast_ofNat_Int, decide_true, decide_false, List.all_cons, List.all_nil, Nat.zero_mul, Nat.mul_one, Nat.one_mul, cu, cw, ix, hc, ca, la, hd, ix2, hc2, ca2, lb, iq, hq, q0, q1, iq', hq', q0', q1', ql1, ql2, u8s_len, xl, ne, nn, dd, t48, e2]
  exact ih (j + 1) _ _ _ _ _ _ _ _ _ _ _ _ _ _ _ _ _ _ _ _ _ _ _ _ _ _ _ _ _ _ _ _ _ _ _ _ _ _ _ _ _ _ _ _ _ _ _ _ _ _ _ (by omega)
set_option maxHeartbeats 8000000 in
theorem sameL1 (x0 x1 x7 x8 x9 x10 x11 x12 x13 x14 x15 x16 x17 x18 x19 x20 x21 x22 x23 x24 x25 x26 x27 : AV) : ∀ (k i : Nat) (j4 j6 j28 j29 j30 j31 j32 j33 j34 j35 j36 j37 j38 j39 j40 j41 j42 j43 j44 j45 j46 j47 j48 j49 j50 j51 j52 j53 j54 j55 j56 j57 j58 j59 j60 j61 j62 j63 j64 j65 j66 j67 j68 j69 j70 j71 j72 j73 j74 j75 j76 j77 j78 j79 j80 j81 j82 j83 j84 j85 j86 j87 j88 j89 j90 j91 j92 j93 j94 j95 j96 j97 : AV), i + k = U.length →
  Outs (LP1 l21x1 [x0, x1, .ptr p1 0, .ptr p2 0, j4, .int .i64 (i : Int), j6, x7, x8, x9, x10, x11, x12, x13, x14, x15, x16, x17, x18, x19, x20, x21, x22, x23, x24, x25, x26, x27, j28, j29, j30, j31, j32, j33, j34, j35, j36, j37, j38, j39, j40, j41, j42, j43, j44, j45, j46, j47, j48, j49, j50, j51, j52, j53, j54, j55, j56, j57, j58, j59, j60, j61, j62, j63, j64, j65, j66, j67, j68, j69, j70, j71, j72, j73, j74, j75, j76, j77, j78, j79, j80, j81, j82, j83, j84, j85, j86, j87, j88, j89, j90, j91, j92, j93, j94, j95, j96, j97] H) fun e t K' => e = .exit 0 ∧ K' = H ∧ ∃ k : Nat → AV, t = [x0, x1, .ptr p1 0, .ptr p2 0, (k 4), (k 5), (k 6), x7, x8, x9, x10, x11, x12, x13, x14, x15, x16, x17, x18, x19, x20, x21, x22, x23, x24, x25, x26, x27, (k 28), (k 29), (k 30), (k 31), (k 32), (k 33), (k 34), (k 35), (k 36), (k 37), (k 38), (k 39), (k 40), (k 41), (k 42), (k 43), (k 44), (k 45), (k 46), (k 47), (k 48), (k 49), (k 50), (k 51), (k 52), (k 53), (k 54), (k 55), (k 56), (k 57), (k 58), (k 59), (k 60), (k 61), (k 62), (k 63), (k 64), (k 65), (k 66), (k 67), (k 68), (k 69), (k 70), (k 71), (k 72), (k 73), (k 74), (k 75), (k 76), (k 77), (k 78), (k 79), (k 80), (k 81), (k 82), (k 83), (k 84), (k 85), (k 86), (k 87), (k 88), (k 89), (k 90), (k 91), (k 92), (k 93), (k 94), (k 95), (k 96), (k 97)] := by
 intro k
 obtain ⟨L, hL⟩ : ∃ L, L = LP1 l21x1 := ⟨_, rfl⟩
 have lo := loop_open hL
 have lT := h.lenSl
 rw [← hL]
 induction k with
 | zero =>
  intro i j4 j6 j28 j29 j30 j31 j32 j33 j34 j35 j36 j37 j38 j39 j40 j41 j42 j43 j44 j45 j46 j47 j48 j49 j50 j51 j52 j53 j54 j55 j56 j57 j58 j59 j60 j61 j62 j63 j64 j65 j66 j67 j68 j69 j70 j71 j72 j73 j74 j75 j76 j77 j78 j79 j80 j81 j82 j83 j84 j85 j86 j87 j88 j89 j90 j91 j92 j93 j94 j95 j96 j97 hi
  obtain rfl : i = U.length := by omega
  have hd : decide ((U.length : Int) < (U.length : Int)) = false := by simp
  rw [lo]
  unfold l21x1
  simp -implicitDefEqProofs (maxSteps := 5000000) only [go_sem, Nat.reduceShiftRight, Nat.reduceAnd, Nat.reduceBNe, Int.reduceEq, Nat.reduceAdd, Nat.reduceSub, Nat.reduceMul, Nat.reduceLeDiff, reduceIte, reduceCtorEq, Nat.reduceBEq, Nat.reduceEqDiff, cu, cw, lT, hd, seqR_exit', outs_normal]
  exact exF rfl
 | succ k ih =>
  intro i j4 j6 j28 j29 j30 j31 j32 j33 j34 j35 j36 j37 j38 j39 j40 j41 j42 j43 j44 j45 j46 j47 j48 j49 j50 j51 j52 j53 j54 j55 j56 j57 j58 j59 j60 j61 j62 j63 j64 j65 j66 j67 j68 j69 j70 j71 j72 j73 j74 j75 j76 j77 j78 j79 j80 j81 j82 j83 j84 j85 j86 j87 j88 j89 j90 j91 j92 j93 j94 j95 j96 j97 hi
  have hlt : i < U.length := by omega
  have hd : decide ((i : Int) < (U.length : Int)) = true := decide_eq_true (by omega)
  have e2 : IntKind.i64.wrap ((i : Int) + 1) = ((i + 1 : Nat) : Int) := by rw [wrap64 (by omega) (by omega)]; omega
  obtain ⟨t, ht⟩ : ∃ t, U[i]? = some t := ⟨_, List.getElem?_eq_getElem hlt⟩
  obtain ⟨a, b, cs, va1, sb, ix, hc, ca, hle, ga, a48⟩ := h.row ht
  obtain ⟨a2, b2, cs2, va2, sb2, ix2, hc2, ca2, hle2, ga2, _⟩ := g.row ht
  have la := im_len ga
  have lb := im_len ga2
  have nn : (((t.length : Nat) : Int) != ((t.length : Nat) : Int)) = false := by simp
  have l0 := sameL0 h g hT hT2 cu cw ht (k := t.length) (j := 0)
  rw [show ((0 : Nat) : Int) = 0 from rfl] at l0
  rw [lo]
  unfold l21x1
  simp -implicitDefEqProofs (maxSteps := 5000000) only [go_sem, Nat.reduceShiftRight, Nat.reduceAnd, Nat.reduceBNe, Int.reduceEq, Nat.reduceAdd, Nat.reduceSub, Nat.reduceMul, Nat.reduceLeDiff, reduceIte, reduceCtorEq, Nat.reduceBEq, Nat.reduceEqDiff, wrap64, runC_loop, runC_range, callF_fn, callV_fn, callV_yld, yield_eq, yieldBody, yieldRaw, roundMid, roundEnd, rangeEnd, Bool.not_not, put_cons, put_nil, trim_same, at_zero, at_add, set_zero, set_add, store_one, write_zero, write_add, write_head, write_succ, splice_one, splice_more, List.drop_nil, List.take_nil, cell_int, cell_bool, fillS, splice_one, idxA, Ex.isNormal, List.set_nil, List.length_set, List.all_cons, List.all_nil, Bool.and_self, and_self, true_and, and_true, List.getElem?_nil, Int.reduceLT, Int.reduceLE, Int.reduceToNat, Int.toNat_zero, Int.toNat_one, Int.reduceAdd, Int.reduceSub, Int.reduceMul, Int.reduceNeg, Int.reduceBEq, Int.reduceBNe, Int.reduceGE, Int.reduceGT, Nat.reduceLT, trim_keep, under_fn, under_ptr, under_sl, Nat.lt_irrefl, not_lt_add, trim_tail, keepOk, ABlk.vals, Int.cast_ofNat_Int, decide_true, decide_false, List.all_cons, List.all_nil, Nat.zero_mul, Nat.mul_one, Nat.one_mul, runC_loop, cu, cw, lT, hd, ix, hc, ca, la, ix2, hc2, ca2, lb, nn]
  unfold LP1 at l0
  generalize (envL prog).loop (runC (envL prog) (l21x0 (envL prog))) = L0 at l0 ⊢
  refine outs_ctx (fun x => seqR (seqR (blockR 1 (blockR 2 x)) _) _) (l0 _ _ _ _ _ _ _ _ _ _ _ _ _ _ _ _ _ _ _ _ _ _ _ _ _ _ _ _ _ _ _ _ _ _ _ _ _ _ _ _ _ _ _ _ _ _ _ _ _ _ _ _ _ _ _ _ _ _ _ _ _ _ _ _ _ _ _ _ _ _ _ _ _ _ _ _ _ _ _ _ _ _ _ _ _ _ _ _ _ _ _ _ _ _ (by omega)) ?_
  rintro e t K ⟨rfl, rfl, fv, rfl⟩
  simp -implicitDefEqProofs (maxSteps := 5000000) only [go_sem, Nat.reduceShiftRight, Nat.reduceAnd, Nat.reduceBNe, Int.reduceEq, Nat.reduceAdd, Nat.reduceSub, Nat.reduceMul, Nat.reduceLeDiff, reduceIte, reduceCtorEq, Nat.reduceBEq, Nat.reduceEqDiff, e2]
  exact ih (i + 1) _ _ _ _ _ _ _ _ _ _ _ _ _ _ _ _ _ _ _ _ _ _ _ _ _ _ _ _ _ _ _ _ _ _ _ _ _ _ _ _ _ _ _ _ _ _ _ _ _ _ _ _ _ _ _ _ _ _ _ _ _ _ _ _ _ _ _ _ _ _ _ _ (by omega)
end
theorem sameC {H : AHeap} {B B2 : Nat} {v w : AV} {U : List (List ImS)} {vs ws : List AV} (h : LogH H B v U vs) (g : LogH H B2 w U ws) (hT : U.length ≤ 1000) (hT2 : ∀ t ∈ U, t.length ≤ 1000) (x y e : Int) : (envL prog).call 21 [.agg [v, .int .i64 x, .int .u32 y], .agg [w, .int .i64 x, .int .u32 y, .int .i64 e]] H = some (.bool true, H) := by
 obtain ⟨X, hX⟩ : ∃ X, X = [ABlk.rw [v, .int .i64 x, .int .u32 y], .rw [w, .int .i64 x, .int .u32 y, .int .i64 e]] := ⟨_, rfl⟩
 have c1 : cellsOf (H ++ X) H.length = some [v, .int .i64 x, .int .u32 y] := by rw [hX]; unfold cellsOf; simp
 have c2 : cellsOf (H ++ X) (H.length + 1) = some [w, .int .i64 x, .int .u32 y, .int .i64 e] := by rw [hX]; unfold cellsOf; simp
 have fr : Fr H (H ++ X) (fun _ => False) := Fr.adds ⟨X, rfl⟩ _
 have l1 := sameL1 (h.fr fr fun _ _ h => h) (g.fr fr fun _ _ h => h) hT hT2 c1 c2 (k := U.length) (i := 0)
 rw [show ((0 : Nat) : Int) = 0 from rfl] at l1
 have lv := h.lenSl
 have lw := g.lenSl
 have cv := h.g.cells
 have cw := g.g.cells
 have nT : (((U.length : Nat) : Int) != ((U.length : Nat) : Int)) = false := by simp
 have nx : (x != x) = false := by simp
 have ny : (y != y) = false := by simp
 have key : Outs (runC (envL prog) (b21 (envL prog)) ([.agg [v, .int .i64 x, .int .u32 y], .agg [w, .int .i64 x, .int .u32 y, .int .i64 e]] ++ List.replicate (98 - [AV.agg [v, .int .i64 x, .int .u32 y], AV.agg [w, .int .i64 x, .int .u32 y, .int .i64 e]].length) .undef) H) fun e' t K => Adds H K ∧ fin [.tmp 4] (some (e', t, K)) = some (.bool true, K) := by
  unfold b21
  generalize hQ : (fun (e' : Ex) (t : T) (K : AHeap) => Adds H K ∧ fin [.tmp 4] (some (e', t, K)) = some (AV.bool true, K)) = Q
  have hX := hX.symm
  have c1' : cellsOf (H ++ [ABlk.rw [v, .int .i64 x, .int .u32 y], .rw [w, .int .i64 x, .int .u32 y, .int .i64 e]]) H.length = some [v, .int .i64 x, .int .u32 y] := by unfold cellsOf; simp
  simp -implicitDefEqProofs (maxSteps := 5000000) only [go_sem, Nat.reduceShiftRight, Nat.reduceAnd, Nat.reduceBNe, Int.reduceEq, Nat.reduceAdd, Nat.reduceSub, Nat.reduceMul, Nat.reduceLeDiff, reduceIte, reduceCtorEq, Nat.reduceBEq, Nat.reduceEqDiff, wrap64, runC_loop, runC_range, callF_fn, callV_fn, callV_yld, yield_eq, yieldBody, yieldRaw, roundMid, roundEnd, rangeEnd, Bool.not_not, put_cons, put_nil, trim_same, at_zero, at_add, set_zero, set_add, store_one, write_zero, write_add, write_head, write_succ, splice_one, splice_more, List.drop_nil, List.take_nil, cell_int, cell_bool, fillS, splice_one, idxA, Ex.isNormal, List.set_nil, List.length_set, List.all_cons, List.all_nil, Bool.and_self, and_self, true_and, and_true, List.getElem?_nil, Int.reduceLT, Int.reduceLE, Int.reduceToNat, Int.toNat_zero, Int.toNat_one, Int.reduceAdd, Int.reduceSub, Int.reduceMul, Int.reduceNeg, Int.reduceBEq, Int.reduceBNe, Int.reduceGE, Int.reduceGT, Nat.reduceLT, trim_keep, under_fn, under_ptr, under_sl, Nat.lt_irrefl, not_lt_add, trim_tail, keepOk, ABlk.vals, Int.cast_ofNat_Int, decide_true, decide_false, List.all_cons, List.all_nil, Nat.zero_mul, Nat.mul_one, Nat.one_mul, runC_loop, lv, lw, cv.1, cv.2, cw.1, cw.2, nT, nx, ny, hX, c1, c2]
  unfold LP1 at l1
  generalize (envL prog).loop (runC (envL prog) (l21x1 (envL prog))) = L1 at l1 ⊢
  refine outs_ctx (fun r => seqR (blockR 0 r) _) (l1 _ _ _ _ _ _ _ _ _ _ _ _ _ _ _ _ _ _ _ _ _ _ _ _ _ _ _ _ _ _ _ _ _ _ _ _ _ _ _ _ _ _ _ _ _ _ _ _ _ _ _ _ _ _ _ _ _ _ _ _ _ _ _ _ _ _ _ _ _ _ _ _ _ _ _ _ _ _ _ _ _ _ _ _ _ _ _ _ _ _ _ _ _ _ _ (by omega)) ?_
  rintro e t K ⟨rfl, rfl, fv, rfl⟩
  simp -implicitDefEqProofs (maxSteps := 5000000) only [go_sem, Nat.reduceShiftRight, Nat.reduceAnd, Nat.reduceBNe, Int.reduceEq, Nat.reduceAdd, Nat.reduceSub, Nat.reduceMul, Nat.reduceLeDiff, reduceIte, reduceCtorEq, Nat.reduceBEq, Nat.reduceEqDiff, outs_normal]
  subst hQ
  refine ⟨⟨X, rfl⟩, ?_⟩
  simp -implicitDefEqProofs (maxSteps := 5000000) only [go_sem, Nat.reduceShiftRight, Nat.reduceAnd, Nat.reduceBNe, Int.reduceEq, Nat.reduceAdd, Nat.reduceSub, Nat.reduceMul, Nat.reduceLeDiff, reduceIte, reduceCtorEq, Nat.reduceBEq, Nat.reduceEqDiff]
 obtain ⟨e', t, K, hr, ⟨Y, rfl⟩, hf⟩ := key
 rw [c21, hr, hf]; exact trim_app rfl
end Go.Proofs.Ytipedaadjfhdnaa.G06
end
section
namespace Go.Proofs.Ytipedaadjfhdnaa.G06
open Go Go.Proofs.Ytipedaadjfhdnaa.Eng
theorem eachN (h : AHeap) : (envL prog).call 43 [.nilPtr] h = some (.fn 61 [.ptr h.length 0], h ++ [.rw [.nilPtr]]) := by
 rw [c43]
 unfold b43
 simp -implicitDefEqProofs (maxSteps := 5000000) only [go_sem, Nat.reduceShiftRight, Nat.reduceAnd, Nat.reduceBNe, Int.reduceEq, Nat.reduceAdd, Nat.reduceSub, Nat.reduceMul, Nat.reduceLeDiff, reduceIte, reduceCtorEq, Nat.reduceBEq, Nat.reduceEqDiff, go_sem, trim_keep, under_fn, under_ptr, Nat.lt_irrefl]
theorem diskN (d : Int) (h : AHeap) : (envL prog).call 33 [.nilPtr, .int .i64 d] h = some (.nilPtr, h) := by
 rw [c33]
 unfold b33
 simp -implicitDefEqProofs (maxSteps := 5000000) only [go_sem, Nat.reduceShiftRight, Nat.reduceAnd, Nat.reduceBNe, Int.reduceEq, Nat.reduceAdd, Nat.reduceSub, Nat.reduceMul, Nat.reduceLeDiff, reduceIte, reduceCtorEq, Nat.reduceBEq, Nat.reduceEqDiff, wrap64, loop_run, runC_loop, runC_range, callF_fn, callV_fn, callV_yld, yield_eq, yieldBody, yieldRaw, roundMid, roundEnd, rangeEnd, Bool.not_not, put_cons, put_nil, trim_same, at_zero, at_add, set_zero, set_add, store_one, write_zero, write_add, write_head, write_succ, splice_one, splice_more, List.drop_nil, List.take_nil, cell_int, cell_bool, fillS, splice_one, idxA, Ex.isNormal, List.set_nil, List.length_set, List.all_cons, List.all_nil, Bool.and_self, and_self, true_and, and_true, List.getElem?_nil, Int.reduceLT, Int.reduceLE, Int.reduceToNat, Int.toNat_zero, Int.toNat_one, Int.reduceAdd, Int.reduceSub, Int.reduceMul, Int.reduceNeg, Int.reduceBEq, Int.reduceBNe, Int.reduceGE, Int.reduceGT, Nat.reduceLT, trim_keep, under_fn, under_ptr, under_sl, Nat.lt_irrefl, not_lt_add, trim_tail, keepOk, ABlk.vals, Int.cast_ofNat_Int, decide_true, decide_false, List.all_cons, List.all_nil, Nat.zero_mul, Nat.mul_one, Nat.one_mul, go_sem, eachN, c61, b61]
theorem lenN (h : AHeap) : (envL prog).call 34 [.nilPtr] h = some (.int .i64 0, h) := by
 rw [c34]
 unfold b34
 simp -implicitDefEqProofs (maxSteps := 5000000) only [go_sem, Nat.reduceShiftRight, Nat.reduceAnd, Nat.reduceBNe, Int.reduceEq, Nat.reduceAdd, Nat.reduceSub, Nat.reduceMul, Nat.reduceLeDiff, reduceIte, reduceCtorEq, Nat.reduceBEq, Nat.reduceEqDiff, go_sem]
theorem rigLenN (d : Int) (h : AHeap) : (envL prog).call 49 [.nilPtr, .int .i64 d] h = some (.int .i64 0, h) := by
 rw [c49]
 unfold b49
 simp -implicitDefEqProofs (maxSteps := 5000000) only [go_sem, Nat.reduceShiftRight, Nat.reduceAnd, Nat.reduceBNe, Int.reduceEq, Nat.reduceAdd, Nat.reduceSub, Nat.reduceMul, Nat.reduceLeDiff, reduceIte, reduceCtorEq, Nat.reduceBEq, Nat.reduceEqDiff, go_sem, diskN, lenN]
theorem crashN {s0 s1 : AV} (i0 : IsSl s0) (i1 : IsSl s1) (h : AHeap) : (envL prog).call 22 [.nilPtr, s0, s1] h = some (.tup [], h) := by
 rw [c22]
 unfold b22
 have c0 := i0.cell
 have c1 := i1.cell
 have a0 := i0.cells
 have a1 := i1.cells
 simp -implicitDefEqProofs (maxSteps := 5000000) only [go_sem, Nat.reduceShiftRight, Nat.reduceAnd, Nat.reduceBNe, Int.reduceEq, Nat.reduceAdd, Nat.reduceSub, Nat.reduceMul, Nat.reduceLeDiff, reduceIte, reduceCtorEq, Nat.reduceBEq, Nat.reduceEqDiff, wrap64, loop_run, runC_loop, runC_range, callF_fn, callV_fn, callV_yld, yield_eq, yieldBody, yieldRaw, roundMid, roundEnd, rangeEnd, Bool.not_not, put_cons, put_nil, trim_same, at_zero, at_add, set_zero, set_add, store_one, write_zero, write_add, write_head, write_succ, splice_one, splice_more, List.drop_nil, List.take_nil, cell_int, cell_bool, fillS, splice_one, idxA, Ex.isNormal, List.set_nil, List.length_set, List.all_cons, List.all_nil, Bool.and_self, and_self, true_and, and_true, List.getElem?_nil, Int.reduceLT, Int.reduceLE, Int.reduceToNat, Int.toNat_zero, Int.toNat_one, Int.reduceAdd, Int.reduceSub, Int.reduceMul, Int.reduceNeg, Int.reduceBEq, Int.reduceBNe, Int.reduceGE, Int.reduceGT, Nat.reduceLT, trim_keep, under_fn, under_ptr, under_sl, Nat.lt_irrefl, not_lt_add, trim_tail, keepOk, ABlk.vals, Int.cast_ofNat_Int, decide_true, decide_false, List.all_cons, List.all_nil, Nat.zero_mul, Nat.mul_one, Nat.one_mul, go_sem, c0, c1, a0, a1, eachN, c61, b61]
theorem goodN (f c a : Int) (H : AHeap) : (envL prog).call 28 [.agg [.nilPtr, .int .i64 f, .int .i64 c], .int .i64 a] H = some (.bool false, H) := by
 rw [c28]
 unfold b28
 simp -implicitDefEqProofs (maxSteps := 5000000) only [go_sem, Nat.reduceShiftRight, Nat.reduceAnd, Nat.reduceBNe, Int.reduceEq, Nat.reduceAdd, Nat.reduceSub, Nat.reduceMul, Nat.reduceLeDiff, reduceIte, reduceCtorEq, Nat.reduceBEq, Nat.reduceEqDiff, rigLenN]
theorem replN (f c a s : Int) (H : AHeap) : (envL prog).call 8 [.nilPtr, .int .i64 f, .int .i64 c, .int .i64 a, .int .u32 s] H = some (.tup [.agg [.nilSl, .int .i64 0, .int .u32 0], .int .i64 1], H) := by
 have gd := goodN f c a
 rw [c8]
 unfold b8
 simp -implicitDefEqProofs (maxSteps := 5000000) only [go_sem, Nat.reduceShiftRight, Nat.reduceAnd, Nat.reduceBNe, Int.reduceEq, Nat.reduceAdd, Nat.reduceSub, Nat.reduceMul, Nat.reduceLeDiff, reduceIte, reduceCtorEq, Nat.reduceBEq, Nat.reduceEqDiff, wrap64, runC_loop, runC_range, callF_fn, callV_fn, callV_yld, yield_eq, yieldBody, yieldRaw, roundMid, roundEnd, rangeEnd, Bool.not_not, put_cons, put_nil, trim_same, at_zero, at_add, set_zero, set_add, store_one, write_zero, write_add, write_head, write_succ, splice_one, splice_more, List.drop_nil, List.take_nil, cell_int, cell_bool, fillS, splice_one, idxA, Ex.isNormal, List.set_nil, List.length_set, List.all_cons, List.all_nil, Bool.and_self, and_self, true_and, and_true, List.getElem?_nil, Int.reduceLT, Int.reduceLE, Int.reduceToNat, Int.toNat_zero, Int.toNat_one, Int.reduceAdd, Int.reduceSub, Int.reduceMul, Int.reduceNeg, Int.reduceBEq, Int.reduceBNe, Int.reduceGE, Int.reduceGT, Nat.reduceLT, trim_keep, under_fn, under_ptr, under_sl, Nat.lt_irrefl, not_lt_add, trim_tail, keepOk, ABlk.vals, Int.cast_ofNat_Int, decide_true, decide_false, List.all_cons, List.all_nil, Nat.zero_mul, Nat.mul_one, Nat.one_mul, gd]
theorem appN (f c a s : Int) (w : AV) (H : AHeap) : (envL prog).call 9 [.nilPtr, .int .i64 f, .int .i64 c, .int .i64 a, .int .u32 s, w] H = some (.tup [.int .i64 0, .int .i64 1], H) := by
 have gd := goodN f c a
 rw [c9]
 unfold b9
 simp -implicitDefEqProofs (maxSteps := 5000000) only [go_sem, Nat.reduceShiftRight, Nat.reduceAnd, Nat.reduceBNe, Int.reduceEq, Nat.reduceAdd, Nat.reduceSub, Nat.reduceMul, Nat.reduceLeDiff, reduceIte, reduceCtorEq, Nat.reduceBEq, Nat.reduceEqDiff, wrap64, runC_loop, runC_range, callF_fn, callV_fn, callV_yld, yield_eq, yieldBody, yieldRaw, roundMid, roundEnd, rangeEnd, Bool.not_not, put_cons, put_nil, trim_same, at_zero, at_add, set_zero, set_add, store_one, write_zero, write_add, write_head, write_succ, splice_one, splice_more, List.drop_nil, List.take_nil, cell_int, cell_bool, fillS, splice_one, idxA, Ex.isNormal, List.set_nil, List.length_set, List.all_cons, List.all_nil, Bool.and_self, and_self, true_and, and_true, List.getElem?_nil, Int.reduceLT, Int.reduceLE, Int.reduceToNat, Int.toNat_zero, Int.toNat_one, Int.reduceAdd, Int.reduceSub, Int.reduceMul, Int.reduceNeg, Int.reduceBEq, Int.reduceBNe, Int.reduceGE, Int.reduceGT, Nat.reduceLT, trim_keep, under_fn, under_ptr, under_sl, Nat.lt_irrefl, not_lt_add, trim_tail, keepOk, ABlk.vals, Int.cast_ofNat_Int, decide_true, decide_false, List.all_cons, List.all_nil, Nat.zero_mul, Nat.mul_one, Nat.one_mul, gd]
theorem mayN (f c a : Int) (H : AHeap) : (envL prog).call 39 [.nilPtr, .int .i64 f, .int .i64 c, .int .i64 a] H = some (.bool false, H) := by
 rw [c39]
 unfold b39
 simp -implicitDefEqProofs (maxSteps := 5000000) only [go_sem, Nat.reduceShiftRight, Nat.reduceAnd, Nat.reduceBNe, Int.reduceEq, Nat.reduceAdd, Nat.reduceSub, Nat.reduceMul, Nat.reduceLeDiff, reduceIte, reduceCtorEq, Nat.reduceBEq, Nat.reduceEqDiff]
theorem rreplN (f c a s : Int) (H : AHeap) : (envL prog).call 20 [.nilPtr, .int .i64 f, .int .i64 c, .int .i64 a, .int .u32 s] H = some (.agg [.nilSl, .int .i64 0, .int .u32 0, .int .i64 1], H) := by
 have gd := mayN f c a
 rw [c20]
 unfold b20
 simp -implicitDefEqProofs (maxSteps := 5000000) only [go_sem, Nat.reduceShiftRight, Nat.reduceAnd, Nat.reduceBNe, Int.reduceEq, Nat.reduceAdd, Nat.reduceSub, Nat.reduceMul, Nat.reduceLeDiff, reduceIte, reduceCtorEq, Nat.reduceBEq, Nat.reduceEqDiff, wrap64, runC_loop, runC_range, callF_fn, callV_fn, callV_yld, yield_eq, yieldBody, yieldRaw, roundMid, roundEnd, rangeEnd, Bool.not_not, put_cons, put_nil, trim_same, at_zero, at_add, set_zero, set_add, store_one, write_zero, write_add, write_head, write_succ, splice_one, splice_more, List.drop_nil, List.take_nil, cell_int, cell_bool, fillS, splice_one, idxA, Ex.isNormal, List.set_nil, List.length_set, List.all_cons, List.all_nil, Bool.and_self, and_self, true_and, and_true, List.getElem?_nil, Int.reduceLT, Int.reduceLE, Int.reduceToNat, Int.toNat_zero, Int.toNat_one, Int.reduceAdd, Int.reduceSub, Int.reduceMul, Int.reduceNeg, Int.reduceBEq, Int.reduceBNe, Int.reduceGE, Int.reduceGT, Nat.reduceLT, trim_keep, under_fn, under_ptr, under_sl, Nat.lt_irrefl, not_lt_add, trim_tail, keepOk, ABlk.vals, Int.cast_ofNat_Int, decide_true, decide_false, List.all_cons, List.all_nil, Nat.zero_mul, Nat.mul_one, Nat.one_mul, gd]
theorem rappN (f c a s : Int) (w : AV) (H : AHeap) : (envL prog).call 19 [.nilPtr, .int .i64 f, .int .i64 c, .int .i64 a, .int .u32 s, w] H = some (.tup [.int .i64 0, .int .i64 1], H) := by
 have gd := mayN f c a
 rw [c19]
 unfold b19
 simp -implicitDefEqProofs (maxSteps := 5000000) only [go_sem, Nat.reduceShiftRight, Nat.reduceAnd, Nat.reduceBNe, Int.reduceEq, Nat.reduceAdd, Nat.reduceSub, Nat.reduceMul, Nat.reduceLeDiff, reduceIte, reduceCtorEq, Nat.reduceBEq, Nat.reduceEqDiff, wrap64, runC_loop, runC_range, callF_fn, callV_fn, callV_yld, yield_eq, yieldBody, yieldRaw, roundMid, roundEnd, rangeEnd, Bool.not_not, put_cons, put_nil, trim_same, at_zero, at_add, set_zero, set_add, store_one, write_zero, write_add, write_head, write_succ, splice_one, splice_more, List.drop_nil, List.take_nil, cell_int, cell_bool, fillS, splice_one, idxA, Ex.isNormal, List.set_nil, List.length_set, List.all_cons, List.all_nil, Bool.and_self, and_self, true_and, and_true, List.getElem?_nil, Int.reduceLT, Int.reduceLE, Int.reduceToNat, Int.toNat_zero, Int.toNat_one, Int.reduceAdd, Int.reduceSub, Int.reduceMul, Int.reduceNeg, Int.reduceBEq, Int.reduceBNe, Int.reduceGE, Int.reduceGT, Nat.reduceLT, trim_keep, under_fn, under_ptr, under_sl, Nat.lt_irrefl, not_lt_add, trim_tail, keepOk, ABlk.vals, Int.cast_ofNat_Int, decide_true, decide_false, List.all_cons, List.all_nil, Nat.zero_mul, Nat.mul_one, Nat.one_mul, gd]
end Go.Proofs.Ytipedaadjfhdnaa.G06
end
section
namespace Go.Proofs.Ytipedaadjfhdnaa.G06
open Go Go.Proofs.Ytipedaadjfhdnaa.Eng
theorem Sim.appd {r q : RgS} (s : Sim r q) (f c a sq : Int) (l : List ImS) : (appdS r f c a sq l).2 = (appdS q f c a sq l).2 ∧ Sim (appdS r f c a sq l).1 (appdS q f c a sq l).1 :=
 appdS_rel (R := Sim) (fun r q i z s => s.write 0 i z) (fun r q s => s.flush 0) f c a sq l s (by rw [s.a])
theorem Sim.replay {r q : RgS} (s : Sim r q) (f c a sq : Int) : replayS r f c a sq = replayS q f c a sq := replayS_eq (fun i => s.read 0 i) (by rw [s.a]) f c a sq
theorem appd_lens (r : RgS) (f c a s : Int) (l : List ImS) : (appdS r f c a s l).1.a.length = r.a.length ∧ (appdS r f c a s l).1.b.length = r.b.length :=
 appdS_keep (P := fun x => x.a.length = r.a.length ∧ x.b.length = r.b.length) (fun x i z h => by rw [write_len, write_lenb]; exact h) (fun x h => by rw [flush_len, flush_lenb]; exact h) f c a s l ⟨rfl, rfl⟩
def stepSh : List Sh := [.int .i64, .int .i64, .sl [.int .i64, .int .i64], .sl [.int .u8], .bool]
theorem step_dat {h : AHeap} {r : List AV} (d : DatR h stepSh r) : ∃ k i p b w, r = [.int .i64 k, .int .i64 i, p, b, .bool w] ∧ DatC h (.sl [.int .i64, .int .i64]) p ∧ DatC h (.sl [.int .u8]) b := by
 cases d with
 | cons d1 d => cases d with
  | cons d2 d => cases d with
   | cons d3 d => cases d with
    | cons d4 d => cases d with
     | cons d5 d => cases d with
      | nil =>
       cases d1 with
       | int n1 => cases d2 with
        | int n2 => cases d5 with
         | bool b => exact ⟨_, _, _, _, _, rfl, d3, d4⟩
theorem datc_sl {h : AHeap} {e : List Sh} {v : AV} (d : DatC h (.sl e) v) : IsSl v := by
 cases d with
 | nil => exact .inl rfl
 | sl => exact .inr ⟨_, _, _, _, _, _, rfl⟩
theorem datc_lt {h : AHeap} {e : List Sh} {v : AV} (d : DatC h (.sl e) v) : ∀ b, slb v = some b → b < h.length := by
 intro b hb
 cases d with
 | nil => cases hb
 | sl hn hc hr => injection hb with hb; subst hb; exact lt_of_cells hc
def FairRow (r : List AV) : Prop := ∀ k, k = 2 ∨ k = 3 → ∀ n : Int, lenSl (getT r k) = some (.int .i64 n) → n ≤ 300
set_option maxHeartbeats 2000000 in
theorem fairL {H : AHeap} {vl : AV} {rows : List (List AV)} (rs : RS 5 H vl rows) (rd : ∀ r ∈ rows, DatR H stepSh r) (hn : rows.length ≤ 9223372036854775807) (x1 x26 x27 x28 : AV) : ∀ (k i : Nat) (j4 j5 j6 j7 j8 j9 j10 j11 j12 j13 j14 j15 j16 j17 j18 j19 j20 j21 j22 j23 j24 j25 : AV), i + k = rows.length →
  Outs (LP1 l17x0 [vl, x1, .bool false, .int .i64 (i : Int), j4, j5, j6, j7, j8, j9, j10, j11, j12, j13, j14, j15, j16, j17, j18, j19, j20, j21, j22, j23, j24, j25, x26, x27, x28] H) fun e t H' => ((e = .exit 0 ∧ ∀ j r, i ≤ j → rows[j]? = some r → FairRow r) ∨ e = .ret) ∧ H' = H ∧ ∃ k : Nat → AV, t = [vl, x1, .bool false, (k 3), (k 4), (k 5), (k 6), (k 7), (k 8), (k 9), (k 10), (k 11), (k 12), (k 13), (k 14), (k 15), (k 16), (k 17), (k 18), (k 19), (k 20), (k 21), (k 22), (k 23), (k 24), (k 25), x26, x27, x28] := by
 intro k
 obtain ⟨L, hL⟩ : ∃ L, L = LP1 l17x0 := ⟨_, rfl⟩
 have lo := loop_open hL
 rw [← hL]
 have hl := rs.len
 induction k with
 | zero =>
  intro i j4 j5 j6 j7 j8 j9 j10 j11 j12 j13 j14 j15 j16 j17 j18 j19 j20 j21 j22 j23 j24 j25 hi
  obtain rfl : i = rows.length := by omega
  have hd : decide ((rows.length : Int) < (rows.length : Int)) = false := by simp
  rw [lo]
  unfold l17x0
  simp -implicitDefEqProofs (maxSteps := 5000000) only [go_sem, Nat.reduceShiftRight, Nat.reduceAnd, Nat.reduceBNe, Int.reduceEq, Nat.reduceAdd, Nat.reduceSub, Nat.reduceMul, Nat.reduceLeDiff, reduceIte, reduceCtorEq, Nat.reduceBEq, Nat.reduceEqDiff, hl, hd, seqR_exit', outs_normal]
  refine ⟨.inl (fun j r hj hr => ?_), exF rfl⟩
  have := (List.getElem?_eq_some_iff.1 hr).1
  omega
 | succ k ih =>
  intro i j4 j5 j6 j7 j8 j9 j10 j11 j12 j13 j14 j15 j16 j17 j18 j19 j20 j21 j22 j23 j24 j25 hi
  have hlt : i < rows.length := by omega
  have hd : decide ((i : Int) < (rows.length : Int)) = true := decide_eq_true (by omega)
  have e2 : IntKind.i64.wrap ((i : Int) + 1) = ((i + 1 : Nat) : Int) := by rw [wrap64 (by omega) (by omega)]; omega
  obtain ⟨r, hr⟩ : ∃ r, rows[i]? = some r := ⟨_, List.getElem?_eq_getElem hlt⟩
  obtain ⟨s0, s1, s2, s3, s4, rfl, f2, f3⟩ := step_dat (rd r (List.mem_of_getElem? hr))
  obtain ⟨b, cs, ix, hc0, hg, _, hsz, htk⟩ := rs.idx (by omega) hr .i64
  have g2 : cs[i * 5 + 2]? = some s2 := hg 2 (by omega)
  have g3 : cs[i * 5 + 3]? = some s3 := hg 3 (by omega)
  obtain ⟨n2, l2⟩ := (datc_sl f2).len
  obtain ⟨n3, l3⟩ := (datc_sl f3).len
  rw [lo]
  unfold l17x0
  by_cases h2 : (n2 : Int) > 300
  ·have d2 := decide_eq_true h2
   simp -implicitDefEqProofs (maxSteps := 5000000) only [go_sem, Nat.reduceShiftRight, Nat.reduceAnd, Nat.reduceBNe, Int.reduceEq, Nat.reduceAdd, Nat.reduceSub, Nat.reduceMul, Nat.reduceLeDiff, reduceIte, reduceCtorEq, Nat.reduceBEq, Nat.reduceEqDiff, wrap64, runC_loop, runC_range, callF_fn, callV_fn, callV_yld, yield_eq, yieldBody, yieldRaw, roundMid, roundEnd, rangeEnd, Bool.not_not, put_cons, put_nil, trim_same, at_zero, at_add, set_zero, set_add, store_one, write_zero, write_add, write_head, write_succ, splice_one, splice_more, List.drop_nil, List.take_nil, cell_int, cell_bool, fillS, splice_one, idxA, Ex.isNormal, List.set_nil, List.length_set, List.all_cons, List.all_nil, Bool.and_self, and_self, true_and, and_true, List.getElem?_nil, Int.reduceLT, Int.reduceLE, Int.reduceToNat, Int.toNat_zero, Int.toNat_one, Int.reduceAdd, Int.reduceSub, Int.reduceMul, Int.reduceNeg, Int.reduceBEq, Int.reduceBNe, Int.reduceGE, Int.reduceGT, Nat.reduceLT, trim_keep, under_fn, under_ptr, under_sl, Nat.lt_irrefl, not_lt_add, trim_tail, keepOk, ABlk.vals, Int.cast_ofNat_Int, decide_true, decide_false, List.all_cons, List.all_nil, Nat.zero_mul, Nat.mul_one, Nat.one_mul, hl, hd, e2, ix, hc0, g2, l2, d2, seqR_exit', blockR_ret, outs_normal, or_true]
   exact exF rfl
  have d2 := decide_eq_false h2
  by_cases h3 : (n3 : Int) > 300
  ·have d3 := decide_eq_true h3
   simp -implicitDefEqProofs (maxSteps := 5000000) only [go_sem, Nat.reduceShiftRight, Nat.reduceAnd, Nat.reduceBNe, Int.reduceEq, Nat.reduceAdd, Nat.reduceSub, Nat.reduceMul, Nat.reduceLeDiff, reduceIte, reduceCtorEq, Nat.reduceBEq, Nat.reduceEqDiff, wrap64, runC_loop, runC_range, callF_fn, callV_fn, callV_yld, yield_eq, yieldBody, yieldRaw, roundMid, roundEnd, rangeEnd, Bool.not_not, put_cons, put_nil, trim_same, at_zero, at_add, set_zero, set_add, store_one, write_zero, write_add, write_head, write_succ, splice_one, splice_more, List.drop_nil, List.take_nil, cell_int, cell_bool, fillS, splice_one, idxA, Ex.isNormal, List.set_nil, List.length_set, List.all_cons, List.all_nil, Bool.and_self, and_self, true_and, and_true, List.getElem?_nil, Int.reduceLT, Int.reduceLE, Int.reduceToNat, Int.toNat_zero, Int.toNat_one, Int.reduceAdd, Int.reduceSub, Int.reduceMul, Int.reduceNeg, Int.reduceBEq, Int.reduceBNe, Int.reduceGE, Int.reduceGT, Nat.reduceLT, trim_keep, under_fn, under_ptr, under_sl, Nat.lt_irrefl, not_lt_add, trim_tail, keepOk, ABlk.vals, Int.cast_ofNat_Int, decide_true, decide_false, List.all_cons, List.all_nil, Nat.zero_mul, Nat.mul_one, Nat.one_mul, hl, hd, e2, ix, hc0, g2, g3, l2, l3, d2, d3, seqR_exit', blockR_ret, outs_normal, or_true]
   exact exF rfl
  have d3 := decide_eq_false h3
  simp -implicitDefEqProofs (maxSteps := 5000000) only [go_sem, Nat.reduceShiftRight, Nat.reduceAnd, Nat.reduceBNe, Int.reduceEq, Nat.reduceAdd, Nat.reduceSub, Nat.reduceMul, Nat.reduceLeDiff, reduceIte, reduceCtorEq, Nat.reduceBEq, Nat.reduceEqDiff, wrap64, runC_loop, runC_range, callF_fn, callV_fn, callV_yld, yield_eq, yieldBody, yieldRaw, roundMid, roundEnd, rangeEnd, Bool.not_not, put_cons, put_nil, trim_same, at_zero, at_add, set_zero, set_add, store_one, write_zero, write_add, write_head, write_succ, splice_one, splice_more, List.drop_nil, List.take_nil, cell_int, cell_bool, fillS, splice_one, idxA, Ex.isNormal, List.set_nil, List.length_set, List.all_cons, List.all_nil, Bool.and_self, and_self, true_and, and_true, List.getElem?_nil, Int.reduceLT, Int.reduceLE, Int.reduceToNat, Int.toNat_zero, Int.toNat_one, Int.reduceAdd, Int.reduceSub, Int.reduceMul, Int.reduceNeg, Int.reduceBEq, Int.reduceBNe, Int.reduceGE, Int.reduceGT, Nat.reduceLT, trim_keep, under_fn, under_ptr, under_sl, Nat.lt_irrefl, not_lt_add, trim_tail, keepOk, ABlk.vals, Int.cast_ofNat_Int, decide_true, decide_false, List.all_cons, List.all_nil, Nat.zero_mul, Nat.mul_one, Nat.one_mul, hl, hd, e2, ix, hc0, g2, g3, l2, l3, d2, d3]
  refine (ih (i + 1) _ _ _ _ _ _ _ _ _ _ _ _ _ _ _ _ _ _ _ _ _ _ (by omega)).mono ?_
  rintro e t H' ⟨he, q1, q2⟩
  refine ⟨he.imp_left fun ⟨he, hf⟩ => ⟨he, fun j r hj hrj => ?_⟩, q1, q2⟩
  by_cases e : j = i
  ·subst e
   rw [hr] at hrj
   injection hrj with hrj
   subst hrj
   intro k hk n hl
   rcases hk with rfl | rfl
   ·have : lenSl s2 = some (.int .i64 n) := hl
    rw [l2] at this; injection this with this; injection this with _ this; omega
   ·have : lenSl s3 = some (.int .i64 n) := hl
    rw [l3] at this; injection this with this; injection this with _ this; omega
  ·exact hf j r (by omega) hrj
theorem fairC {H : AHeap} {vl : AV} {rows : List (List AV)} (rs : RS 5 H vl rows) (rd : ∀ r ∈ rows, DatR H stepSh r) (hn : rows.length ≤ 9223372036854775807) : ∃ x, (envL prog).call 17 [vl] H = some (.bool x, H) ∧ (x = true → rows.length ≤ 60 ∧ ∀ r ∈ rows, FairRow r) := by
 have l0 := fairL rs rd hn (k := rows.length) (i := 0)
 rw [show ((0 : Nat) : Int) = 0 from rfl] at l0
 have hl := rs.len
 have o : Outs (runC (envL prog) (b17 (envL prog)) ([vl] ++ List.replicate (29 - [vl].length) .undef) H) fun e' t K' => ∃ x, (x = true → rows.length ≤ 60 ∧ ∀ r ∈ rows, FairRow r) ∧ K' = H ∧ fin [.tmp 2] (some (e', t, K')) = some (.bool x, K') := by
  unfold b17
  generalize hQ : (fun (e' : Ex) (t : T) (K' : AHeap) => ∃ x, (x = true → rows.length ≤ 60 ∧ ∀ r ∈ rows, FairRow r) ∧ K' = H ∧ fin [.tmp 2] (some (e', t, K')) = some (AV.bool x, K')) = Q
  simp -implicitDefEqProofs (maxSteps := 5000000) only [go_sem, Nat.reduceShiftRight, Nat.reduceAnd, Nat.reduceBNe, Int.reduceEq, Nat.reduceAdd, Nat.reduceSub, Nat.reduceMul, Nat.reduceLeDiff, reduceIte, reduceCtorEq, Nat.reduceBEq, Nat.reduceEqDiff, wrap64, runC_loop, runC_range, callF_fn, callV_fn, callV_yld, yield_eq, yieldBody, yieldRaw, roundMid, roundEnd, rangeEnd, Bool.not_not, put_cons, put_nil, trim_same, at_zero, at_add, set_zero, set_add, store_one, write_zero, write_add, write_head, write_succ, splice_one, splice_more, List.drop_nil, List.take_nil, cell_int, cell_bool, fillS, splice_one, idxA, Ex.isNormal, List.set_nil, List.length_set, List.all_cons, List.all_nil, Bool.and_self, and_self, true_and, and_true, List.getElem?_nil, Int.reduceLT, Int.reduceLE, Int.reduceToNat, Int.toNat_zero, Int.toNat_one, Int.reduceAdd, Int.reduceSub, Int.reduceMul, Int.reduceNeg, Int.reduceBEq, Int.reduceBNe, Int.reduceGE, Int.reduceGT, Nat.reduceLT, trim_keep, under_fn, under_ptr, under_sl, Nat.lt_irrefl, not_lt_add, trim_tail, keepOk, ABlk.vals, Int.cast_ofNat_Int, decide_true, decide_false, List.all_cons, List.all_nil, Nat.zero_mul, Nat.mul_one, Nat.one_mul, runC_loop]
  unfold LP1 at l0
  generalize (envL prog).loop (runC (envL prog) (l17x0 (envL prog))) = L0 at l0 ⊢
  refine outs_ctx (fun r => seqR (blockR 0 r) _) (l0 _ _ _ _ _ _ _ _ _ _ _ _ _ _ _ _ _ _ _ _ _ _ _ _ _ _ (by omega)) ?_
  rintro e t H' ⟨he, rfl, k, rfl⟩
  rcases he with ⟨rfl, hfr⟩ | rfl
  ·have dd : ∃ x, decide ((rows.length : Int) ≤ 60) = x := ⟨_, rfl⟩
   obtain ⟨x, dd⟩ := dd
   simp -implicitDefEqProofs (maxSteps := 5000000) only [go_sem, Nat.reduceShiftRight, Nat.reduceAnd, Nat.reduceBNe, Int.reduceEq, Nat.reduceAdd, Nat.reduceSub, Nat.reduceMul, Nat.reduceLeDiff, reduceIte, reduceCtorEq, Nat.reduceBEq, Nat.reduceEqDiff, hl, dd, outs_normal]
   subst hQ
   refine ⟨x, fun hx => ⟨?_, fun r hr => ?_⟩, rfl, ?_⟩
   ·rw [hx] at dd; have := of_decide_eq_true dd; omega
   ·obtain ⟨j, hj⟩ := List.getElem?_of_mem hr; exact hfr j r (Nat.zero_le _) hj
   ·simp -implicitDefEqProofs (maxSteps := 5000000) only [go_sem, Nat.reduceShiftRight, Nat.reduceAnd, Nat.reduceBNe, Int.reduceEq, Nat.reduceAdd, Nat.reduceSub, Nat.reduceMul, Nat.reduceLeDiff, reduceIte, reduceCtorEq, Nat.reduceBEq, Nat.reduceEqDiff]
  ·simp -implicitDefEqProofs (maxSteps := 5000000) only [go_sem, Nat.reduceShiftRight, Nat.reduceAnd, Nat.reduceBNe, Int.reduceEq, Nat.reduceAdd, Nat.reduceSub, Nat.reduceMul, Nat.reduceLeDiff, reduceIte, reduceCtorEq, Nat.reduceBEq, Nat.reduceEqDiff, outs_normal]
   subst hQ
   refine ⟨false, fun hx => (by cases hx), rfl, ?_⟩
   simp -implicitDefEqProofs (maxSteps := 5000000) only [go_sem, Nat.reduceShiftRight, Nat.reduceAnd, Nat.reduceBNe, Int.reduceEq, Nat.reduceAdd, Nat.reduceSub, Nat.reduceMul, Nat.reduceLeDiff, reduceIte, reduceCtorEq, Nat.reduceBEq, Nat.reduceEqDiff]
 obtain ⟨e', t, K', hr, x, hx, rfl, hf⟩ := o
 exact ⟨x, by rw [c17, hr, hf]; exact trim_same rfl, hx⟩
def fz (v : Int) : List Int := List.replicate 64 v
theorem fz_ok {v : Int} (h : 0 ≤ v ∧ v ≤ 255) : B64 (fz v) := B64.fill h
theorem fillU (v : Int) (h : AHeap) : (envL prog).call 24 [.int .u8 v] h = some (.agg (u8s (fz v)), h) := by
 unfold fz; rw [← rep_u8s]; exact fillC v h
theorem Both.fr {h0 H H' : AHeap} {p pq c : Nat} {r q : RgS} {F G P : Nat → Prop} (b : Both h0 H p pq c r q F G) (a : Fr H H' P) (n : ∀ x, P x → h0.length ≤ x ∧ ¬ F x ∧ ¬ G x) : Both h0 H' p pq c r q F G :=
 ⟨⟨b.l.m.fr a fun x hx hp => (n x hp).2.1 hx, a.old b.l.old fun x hx hp => (by have := (n x hp).1; omega), b.l.out⟩, ⟨b.lq.m.fr a fun x hx hp => (n x hp).2.2 hx, a.old b.lq.old fun x hx hp => (by have := (n x hp).1; omega), b.lq.out⟩, b.dis, b.sim, b.la, b.lb⟩
theorem Both.up {h0 H : AHeap} {p pq c c' : Nat} {r q : RgS} {F G : Nat → Prop} (b : Both h0 H p pq c r q F G) (h : c ≤ c') (hb : c' ≤ 1000000000) : Both h0 H p pq c' r q F G :=
 ⟨⟨RigIn.up b.l.m h hb, b.l.old, b.l.out⟩, ⟨b.lq.m.up h hb, b.lq.old, b.lq.out⟩, b.dis, b.sim, b.la, b.lb⟩
section
variable {h0 H : AHeap} {p pq c : Nat} {r q : RgS} {F G : Nat → Prop} (bo : Both h0 H p pq c r q F G)
include bo
theorem Both.ltF : ∀ b, F b → b < H.length := bo.l.m.lt
theorem Both.ltG : ∀ b, G b → b < H.length := bo.lq.m.lt
theorem bothRepl (f cc a s : Int) : ∃ v vs K, Adds H K ∧ Both h0 K p pq c r q F G ∧ LogH K H.length v (replayS r f cc a s).1.t vs ∧
  (envL prog).call 8 [.ptr p 0, .int .i64 f, .int .i64 cc, .int .i64 a, .int .u32 s] H = some (.tup [.agg [v, .int .i64 (replayS r f cc a s).1.at_, .int .u32 (replayS r f cc a s).1.seq], .int .i64 (replayS r f cc a s).2], K) := by
 obtain ⟨x, rfl, m⟩ := bo.l.m.at
 obtain ⟨v, vs, K1, a1, l1, e1⟩ := replayC m f cc a s
 obtain ⟨X, rfl⟩ := id a1
 exact ⟨v, vs, _, a1, bo.adds X, l1, e1⟩
theorem bothRRepl (f cc a s : Int) : ∃ v vs K, Adds H K ∧ Both h0 K p pq c r q F G ∧ LogH K H.length v (replayS r f cc a s).1.t vs ∧
  (envL prog).call 20 [.ptr pq 0, .int .i64 f, .int .i64 cc, .int .i64 a, .int .u32 s] H = some (.agg [v, .int .i64 (replayS r f cc a s).1.at_, .int .u32 (replayS r f cc a s).1.seq, .int .i64 (replayS r f cc a s).2], K) := by
 obtain ⟨x, rfl, m⟩ := bo.lq.m.at
 obtain ⟨v, vs, K1, a1, l1, e1⟩ := rreplC m f cc a s
 rw [← bo.sim.replay] at l1 e1
 obtain ⟨X, rfl⟩ := id a1
 exact ⟨v, vs, _, a1, bo.adds X, l1, e1⟩
theorem bothAppd {f cc a s : Int} (hs : 0 ≤ s ∧ s < 4294967296) {v w : AV} {l : List ImS} {H1 : AHeap} (tw : Two H H1 v w l) (h48 : ∀ x ∈ l, B48 x.b) (hl : l.length ≤ 300) (hn : c + 400 ≤ 1000000000) :
  ∃ H2 H3 F' G' q', Both h0 H3 p pq (c + 400) (appdS r f cc a s l).1 q' F' G' ∧ (∀ b, b < H.length → ¬ F b → ¬ G b → H2[b]? = H[b]? ∧ H3[b]? = H[b]?) ∧ H.length ≤ H2.length ∧ H.length ≤ H3.length ∧
  (envL prog).call 9 [.ptr p 0, .int .i64 f, .int .i64 cc, .int .i64 a, .int .u32 s, v] H1 = some (.tup [.int .i64 (appdS r f cc a s l).2.1, .int .i64 (appdS r f cc a s l).2.2], H2) ∧
  (envL prog).call 19 [.ptr pq 0, .int .i64 f, .int .i64 cc, .int .i64 a, .int .u32 s, w] H2 = some (.tup [.int .i64 (appdS r f cc a s l).2.1, .int .i64 (appdS r f cc a s l).2.2], H3) := by
 have lF := bo.ltF
 have lG := bo.ltG
 obtain ⟨X, hX⟩ := id tw.old
 have bo1 := bo.adds X
 rw [← hX] at bo1
 have len1 := tw.old.len
 obtain ⟨x, rfl, m⟩ := bo1.l.m.at
 obtain ⟨n2, H2, F2, hn2, m2, st2, e2⟩ := appdC m (f := f) (c := cc) (a := a) hs tw.ga (fun b hb hf => by have := (tw.ga.out b hb).1; have := lF b hf; omega) h48 (by omega) (by omega)
 obtain ⟨l2, lq2, d2⟩ := both_a bo1.l bo1.lq bo1.dis m2.rin st2
 obtain ⟨y, rfl, mq⟩ := lq2.m.at
 have gb2 : GR 49 H2 H.length w (imRows l) := tw.gb.frS st2.1 fun b hb hf => by have := (tw.gb.out b hb).1; have := lF b hf; omega
 obtain ⟨n3, H3, G3, hn3, m3, st3, e3⟩ := rappdC mq (f := f) (c := cc) (a := a) hs gb2 (fun b hb hf => by have := (gb2.out b hb).1; have := lG b hf; omega) h48 (by omega) (by omega)
 obtain ⟨l3, lq3, d3⟩ := both_b l2 lq2 d2 m3.rin st3
 obtain ⟨s1, s2⟩ := bo.sim.appd f cc a s l
 rw [← s1] at e3
 have len2 := st2.1.1
 have len3 := st3.1.1
 refine ⟨H2, H3, F2, G3, _, ⟨⟨RigIn.up l3.m (by omega) hn, l3.old, l3.out⟩, ⟨lq3.m.up (by omega) hn, lq3.old, lq3.out⟩, d3, s2, by rw [(appd_lens ..).1]; exact bo.la, by rw [(appd_lens ..).2]; exact bo.lb⟩, fun b hb hf hg => ?_, by omega, by omega, e2, e3⟩
 have q1 : H1[b]? = H[b]? := by rw [hX, List.getElem?_append_left hb]
 have q2 : H2[b]? = H1[b]? := st2.1.2 b (by omega) hf
 have q3 : H3[b]? = H2[b]? := st3.1.2 b (by omega) hg
 exact ⟨q2.trans q1, q3.trans (q2.trans q1)⟩
end
end Go.Proofs.Ytipedaadjfhdnaa.G06
end
section
namespace Go.Proofs.Ytipedaadjfhdnaa.G06
open Go Go.Proofs.Ytipedaadjfhdnaa.Eng
section
variable {h0 H : AHeap} {p pq c : Nat} {r q : RgS} {F G : Nat → Prop} (bo : Both h0 H p pq c r q F G) (f cc a s : Int)
include bo
theorem bothTell : ∃ v w K1 X1 K2 X2, Adds H K1 ∧ K1 ++ [ABlk.rw [v, .int .i64 (replayS r f cc a s).1.at_, .int .u32 (replayS r f cc a s).1.seq]] = X1 ∧ Adds K1 X1 ∧ Adds X1 K2 ∧ K2 ++ [ABlk.rw [w, .int .i64 (replayS r f cc a s).1.at_, .int .u32 (replayS r f cc a s).1.seq, .int .i64 (replayS r f cc a s).2]] = X2 ∧ Adds K2 X2 ∧
  Both h0 X2 p pq c r q F G ∧ v.isCell = true ∧ w.isCell = true ∧ K1.length < X1.length ∧ K2.length < X2.length ∧ cellsOf X1 K1.length = some [v, .int .i64 (replayS r f cc a s).1.at_, .int .u32 (replayS r f cc a s).1.seq] ∧ cellsOf X2 K2.length = some [w, .int .i64 (replayS r f cc a s).1.at_, .int .u32 (replayS r f cc a s).1.seq, .int .i64 (replayS r f cc a s).2] ∧
  (envL prog).call 8 [.ptr p 0, .int .i64 f, .int .i64 cc, .int .i64 a, .int .u32 s] H = some (.tup [.agg [v, .int .i64 (replayS r f cc a s).1.at_, .int .u32 (replayS r f cc a s).1.seq], .int .i64 (replayS r f cc a s).2], K1) ∧
  (envL prog).call 20 [.ptr pq 0, .int .i64 f, .int .i64 cc, .int .i64 a, .int .u32 s] X1 = some (.agg [w, .int .i64 (replayS r f cc a s).1.at_, .int .u32 (replayS r f cc a s).1.seq, .int .i64 (replayS r f cc a s).2], K2) ∧
  (envL prog).call 21 [.agg [v, .int .i64 (replayS r f cc a s).1.at_, .int .u32 (replayS r f cc a s).1.seq], .agg [w, .int .i64 (replayS r f cc a s).1.at_, .int .u32 (replayS r f cc a s).1.seq, .int .i64 (replayS r f cc a s).2]] X2 = some (.bool true, X2) := by
 obtain ⟨r1, r2⟩ := replayS_len r f cc a s
 obtain ⟨v, vs, K1, a1, b1, l1, ea⟩ := bothRepl bo f cc a s
 obtain ⟨X1, hX1⟩ : ∃ X1, X1 = K1 ++ [ABlk.rw [v, .int .i64 (replayS r f cc a s).1.at_, .int .u32 (replayS r f cc a s).1.seq]] := ⟨_, rfl⟩
 have A1 : Adds K1 X1 := ⟨_, hX1⟩
 have bX1 : Both h0 X1 p pq c r q F G := by rw [hX1]; exact b1.adds _
 obtain ⟨w, ws, K2, a2, b2, l2, eb⟩ := bothRRepl bX1 f cc a s
 obtain ⟨X2, hX2⟩ : ∃ X2, X2 = K2 ++ [ABlk.rw [w, .int .i64 (replayS r f cc a s).1.at_, .int .u32 (replayS r f cc a s).1.seq, .int .i64 (replayS r f cc a s).2]] := ⟨_, rfl⟩
 have A2 : Adds K2 X2 := ⟨_, hX2⟩
 have bX2 : Both h0 X2 p pq c r q F G := by rw [hX2]; exact b2.adds _
 have m1 := l1.fr (Fr.adds ((A1.trans a2).trans A2) (fun _ => False)) fun _ _ h => h
 have m2 := l2.fr (Fr.adds A2 (fun _ => False)) fun _ _ h => h
 have sm := sameC m1 m2 (by omega) (fun t ht => by have := r2 t ht; omega) (replayS r f cc a s).1.at_ (replayS r f cc a s).1.seq (replayS r f cc a s).2
 exact ⟨v, w, K1, X1, K2, X2, a1, hX1.symm, A1, a2, hX2.symm, A2, bX2, l1.g.cells.2, l2.g.cells.2, by rw [hX1]; simp, by rw [hX2]; simp, by rw [hX1]; unfold cellsOf; simp, by rw [hX2]; unfold cellsOf; simp, ea, eb, sm⟩
theorem bothTell2 {x1 x2 : Nat} {c1 c2 : List AV} (h1 : H[x1]? = some (.rw c1)) (h2 : H[x2]? = some (.rw c2)) (l1 : c1.length = 3) (l2 : c2.length = 4) (ne : x1 ≠ x2) (n1 : h0.length ≤ x1 ∧ ¬ F x1 ∧ ¬ G x1) (n2 : h0.length ≤ x2 ∧ ¬ F x2 ∧ ¬ G x2) : ∃ v w K1 X1 K2 X2, Adds H K1 ∧ writeN K1 x1 0 [v, .int .i64 (replayS r f cc a s).1.at_, .int .u32 (replayS r f cc a s).1.seq] = some X1 ∧ Fr K1 X1 (· = x1) ∧ Adds X1 K2 ∧ writeN K2 x2 0 [w, .int .i64 (replayS r f cc a s).1.at_, .int .u32 (replayS r f cc a s).1.seq, .int .i64 (replayS r f cc a s).2] = some X2 ∧ Fr K2 X2 (· = x2) ∧
  Both h0 X2 p pq c r q F G ∧ v.isCell = true ∧ w.isCell = true ∧ cellsOf X2 x1 = some [v, .int .i64 (replayS r f cc a s).1.at_, .int .u32 (replayS r f cc a s).1.seq] ∧ cellsOf X2 x2 = some [w, .int .i64 (replayS r f cc a s).1.at_, .int .u32 (replayS r f cc a s).1.seq, .int .i64 (replayS r f cc a s).2] ∧
  (envL prog).call 8 [.ptr p 0, .int .i64 f, .int .i64 cc, .int .i64 a, .int .u32 s] H = some (.tup [.agg [v, .int .i64 (replayS r f cc a s).1.at_, .int .u32 (replayS r f cc a s).1.seq], .int .i64 (replayS r f cc a s).2], K1) ∧
  (envL prog).call 20 [.ptr pq 0, .int .i64 f, .int .i64 cc, .int .i64 a, .int .u32 s] X1 = some (.agg [w, .int .i64 (replayS r f cc a s).1.at_, .int .u32 (replayS r f cc a s).1.seq, .int .i64 (replayS r f cc a s).2], K2) ∧
  (envL prog).call 21 [.agg [v, .int .i64 (replayS r f cc a s).1.at_, .int .u32 (replayS r f cc a s).1.seq], .agg [w, .int .i64 (replayS r f cc a s).1.at_, .int .u32 (replayS r f cc a s).1.seq, .int .i64 (replayS r f cc a s).2]] X2 = some (.bool true, X2) := by
 obtain ⟨r1, r2⟩ := replayS_len r f cc a s
 have lt1 := lt_of_at h1
 have lt2 := lt_of_at h2
 obtain ⟨v, vs, K1, a1, b1, m1, ea⟩ := bothRepl bo f cc a s
 have g1 : K1[x1]? = some (.rw c1) := by obtain ⟨Y, rfl⟩ := a1; rw [List.getElem?_append_left lt1]; exact h1
 have k1 := a1.len
 have w1 : writeN K1 x1 0 [v, .int .i64 (replayS r f cc a s).1.at_, .int .u32 (replayS r f cc a s).1.seq] = some (K1.set x1 (.rw [v, .int .i64 (replayS r f cc a s).1.at_, .int .u32 (replayS r f cc a s).1.seq])) := by
  rw [write_of g1, if_pos ⟨by simp [l1], by rw [List.all_cons, m1.g.cells.2]; rfl⟩, splice_long _ _ _ (by simp [l1]), List.drop_of_length_le (by simp [l1]), List.append_nil]; rfl
 have f1 : Fr K1 (K1.set x1 (.rw [v, .int .i64 (replayS r f cc a s).1.at_, .int .u32 (replayS r f cc a s).1.seq])) (· = x1) := Fr.set _ _ rfl
 obtain ⟨X1, hX1⟩ : ∃ X1, X1 = K1.set x1 (.rw [v, .int .i64 (replayS r f cc a s).1.at_, .int .u32 (replayS r f cc a s).1.seq]) := ⟨_, rfl⟩
 have d1 : X1[x1]? = some (.rw [v, .int .i64 (replayS r f cc a s).1.at_, .int .u32 (replayS r f cc a s).1.seq]) := by rw [hX1]; exact at_set _ _ _ (by omega)
 rw [← hX1] at w1 f1
 have bX1 : Both h0 X1 p pq c r q F G := b1.fr f1 fun x hx => by rw [hx]; exact n1
 obtain ⟨w, ws, K2, a2, b2, m2, eb⟩ := bothRRepl bX1 f cc a s
 have x1l : X1.length = K1.length := by rw [hX1, List.length_set]
 have k2 := a2.len
 have g2 : K2[x2]? = some (.rw c2) := by
  have q1 : K1[x2]? = some (.rw c2) := by obtain ⟨Y, rfl⟩ := a1; rw [List.getElem?_append_left lt2]; exact h2
  have q2 : X1[x2]? = some (.rw c2) := f1.at q1 (fun e => ne e.symm)
  obtain ⟨Y, rfl⟩ := a2
  rw [List.getElem?_append_left (by omega)]; exact q2
 have w2 : writeN K2 x2 0 [w, .int .i64 (replayS r f cc a s).1.at_, .int .u32 (replayS r f cc a s).1.seq, .int .i64 (replayS r f cc a s).2] = some (K2.set x2 (.rw [w, .int .i64 (replayS r f cc a s).1.at_, .int .u32 (replayS r f cc a s).1.seq, .int .i64 (replayS r f cc a s).2])) := by
  rw [write_of g2, if_pos ⟨by simp [l2], by rw [List.all_cons, m2.g.cells.2]; rfl⟩, splice_long _ _ _ (by simp [l2]), List.drop_of_length_le (by simp [l2]), List.append_nil]; rfl
 have f2 : Fr K2 (K2.set x2 (.rw [w, .int .i64 (replayS r f cc a s).1.at_, .int .u32 (replayS r f cc a s).1.seq, .int .i64 (replayS r f cc a s).2])) (· = x2) := Fr.set _ _ rfl
 obtain ⟨X2, hX2⟩ : ∃ X2, X2 = K2.set x2 (.rw [w, .int .i64 (replayS r f cc a s).1.at_, .int .u32 (replayS r f cc a s).1.seq, .int .i64 (replayS r f cc a s).2]) := ⟨_, rfl⟩
 have d2 : X2[x2]? = some (.rw [w, .int .i64 (replayS r f cc a s).1.at_, .int .u32 (replayS r f cc a s).1.seq, .int .i64 (replayS r f cc a s).2]) := by rw [hX2]; exact at_set _ _ _ (by omega)
 rw [← hX2] at w2 f2
 have bX2 : Both h0 X2 p pq c r q F G := b2.fr f2 fun x hx => by rw [hx]; exact n2
 have d3 : X2[x1]? = some (.rw [v, .int .i64 (replayS r f cc a s).1.at_, .int .u32 (replayS r f cc a s).1.seq]) := f2.at (by obtain ⟨Y, rfl⟩ := a2; rw [List.getElem?_append_left (by omega)]; exact d1) ne
 have q1 := ((m1.fr f1 fun b hb e => by omega).fr (Fr.adds a2 (fun _ => False)) fun _ _ h => h).fr f2 fun b hb e => by omega
 have q2 := m2.fr f2 fun b hb e => by omega
 have sm := sameC q1 q2 (by omega) (fun t ht => by have := r2 t ht; omega) (replayS r f cc a s).1.at_ (replayS r f cc a s).1.seq (replayS r f cc a s).2
 exact ⟨v, w, K1, X1, K2, X2, a1, w1, f1, a2, w2, f2, bX2, m1.g.cells.2, m2.g.cells.2, cells_rw d3, cells_rw d2, ea, eb, sm⟩
end
end Go.Proofs.Ytipedaadjfhdnaa.G06
end
