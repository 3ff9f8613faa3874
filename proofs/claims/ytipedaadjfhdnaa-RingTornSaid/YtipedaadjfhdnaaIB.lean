/- What the functions that RingTorn reaches answer, for every argument. No condition but those in each statement. -/
import Derived.Test.YtipedaadjfhdnaaN
import Derived.Test.YtipedaadjfhdnaaE6
import Derived.Test.YtipedaadjfhdnaaRA
import Derived.Test.YtipedaadjfhdnaaPA
set_option linter.unusedSimpArgs false
set_option linter.unusedVariables false
set_option linter.unusedSectionVars false
set_option maxRecDepth 10000
section
namespace Go.Proofs.Ytipedaadjfhdnaa.G06
open Go Go.Proofs.Ytipedaadjfhdnaa.Eng
theorem known : (knows 12).Ok prog := knows_ok (n := 20) (by kernel_rfl)
noncomputable abbrev EO := envO prog (knows 12)
noncomputable abbrev LP (l : Env → CT) := (envL prog).loop (runC (envO prog (knows 12)) (l (envO prog (knows 12))))
end Go.Proofs.Ytipedaadjfhdnaa.G06
end
section
namespace Go.Proofs.Ytipedaadjfhdnaa.G06
open Go Go.Proofs.Ytipedaadjfhdnaa.Eng
theorem set_after (x : AV) (l : List AV) (i : Nat) (v : AV) : (x :: l).set (1 + i) v = x :: l.set i v := by rw [Nat.add_comm]; rfl
theorem imageL (x0 v : Int) (h : AHeap) (A : List AV) (x2 x3 x4 x7 x8 x17 : AV) : ∀ (k i : Nat) (j9 j10 j11 j12 j13 j14 j15 j16 : AV), i + k = 48 →
  ∃ k9 k10 k11 k12 k13 k14 k15 k16 : AV, (envL prog).loop (runC (envL prog) (l10x0 (envL prog))) [.int .i64 x0, .int .u8 v, x2, x3, x4, .ptr (h.length + 1) 0, .int .i64 (i : Int), x7, x8, j9, j10, j11, j12, j13, j14, j15, j16, x17] (h ++ [.rw A, .rw (.int .i64 x0 :: (rep i (.int .u8 v) ++ rep k (.int .u8 0)))]) =
   some (.exit 0, [.int .i64 x0, .int .u8 v, x2, x3, x4, .ptr (h.length + 1) 0, .int .i64 48, x7, x8, k9, k10, k11, k12, k13, k14, k15, k16, x17], h ++ [.rw A, .rw (.int .i64 x0 :: rep 48 (.int .u8 v))]) := by
 intro k
 induction k with
 | zero =>
  intro i j9 j10 j11 j12 j13 j14 j15 j16 hi
  obtain rfl : i = 48 := by omega
  have hd : decide (((48 : Nat) : Int) < 48) = false := rfl
  rw [loop_run]
  unfold l10x0
  simp -implicitDefEqProofs (maxSteps := 5000000) only [go_sem, Nat.reduceShiftRight, Nat.reduceAnd, Nat.reduceBNe, Int.reduceEq, Nat.reduceAdd, Nat.reduceSub, Nat.reduceMul, Nat.reduceLeDiff, reduceIte, reduceCtorEq, Nat.reduceBEq, Nat.reduceEqDiff, go_sem, hd, seqR_exit', rep_zero]
  exact ⟨_, _, _, _, _, _, _, _, rfl⟩
 | succ k ih =>
  intro i j9 j10 j11 j12 j13 j14 j15 j16 hi
  have hd : decide ((i : Int) < 48) = true := by simp; omega
  have h0 : (0 ≤ (i : Int)) = True := by simp
  have h1 : ((i : Int) < 48) = True := by simp; omega
  have h2 : IntKind.i64.wrap ((i : Int) + 1) = ((i + 1 : Nat) : Int) := by rw [wrap64 (by omega) (by omega)]; omega
  have h3 : (1 + i + 1 ≤ i + (k + 1) + 1) = True := by simp; omega
  have h3' : (1 + (i + 1) ≤ i + (k + 1) + 1) = True := by simp; omega
  have h3'' : (1 + (i + 1) ≤ i + (k + (1 + 1))) = True := by simp; omega
  obtain ⟨k9, k10, k11, k12, k13, k14, k15, k16, e⟩ := ih (i + 1) (.int .i64 i) (.bool true) (.int .i64 i) (.int .i64 ((i + 1 : Nat) : Int)) (.int .i64 i) (.int .u8 v) (.ptr (h.length + 1) 1) (.ptr (h.length + 1) (1 + i)) (by omega)
  refine ⟨k9, k10, k11, k12, k13, k14, k15, k16, ?_⟩
  rw [← e, loop_run]
  conv => lhs; arg 1; unfold l10x0
  simp -implicitDefEqProofs (maxSteps := 5000000) only [go_sem, Nat.reduceShiftRight, Nat.reduceAnd, Nat.reduceBNe, Int.reduceEq, Nat.reduceAdd, Nat.reduceSub, Nat.reduceMul, Nat.reduceLeDiff, reduceIte, reduceCtorEq, Nat.reduceBEq, Nat.reduceEqDiff, go_sem, hd, idxAddrA, h0, h1, h2, h3, h3', h3'', Int.toNat_natCast, Int.cast_ofNat_Int, Nat.mul_one, write_add, write_succ, write_head, store_one, splice_set, set_after, rep_fill, true_and, cell_int, List.all_cons, List.all_nil, Bool.and_self, and_self]
theorem imageC0 (x0 v : Int) (h : AHeap) : (envL prog).call 10 [.int .i64 x0, .int .u8 v] h = some (.agg (.int .i64 x0 :: rep 48 (.int .u8 v)), h) := by
 rw [c10]
 unfold b10
 have L : ∀ (A : List AV) (x2 x3 x4 x7 x8 x17 j9 j10 j11 j12 j13 j14 j15 j16 : AV), ∃ k9 k10 k11 k12 k13 k14 k15 k16 : AV, (envL prog).loop (runC (envL prog) (l10x0 (envL prog))) [.int .i64 x0, .int .u8 v, x2, x3, x4, .ptr (h.length + 1) 0, .int .i64 0, x7, x8, j9, j10, j11, j12, j13, j14, j15, j16, x17] (h ++ [.rw A, .rw (.int .i64 x0 :: rep 48 (.int .u8 0))]) =
   some (.exit 0, [.int .i64 x0, .int .u8 v, x2, x3, x4, .ptr (h.length + 1) 0, .int .i64 48, x7, x8, k9, k10, k11, k12, k13, k14, k15, k16, x17], h ++ [.rw A, .rw (.int .i64 x0 :: rep 48 (.int .u8 v))]) := fun A x2 x3 x4 x7 x8 x17 j9 j10 j11 j12 j13 j14 j15 j16 =>
  imageL x0 v h A x2 x3 x4 x7 x8 x17 48 0 j9 j10 j11 j12 j13 j14 j15 j16 rfl
 obtain ⟨k9, k10, k11, k12, k13, k14, k15, k16, e⟩ := L (.int .i64 0 :: rep 48 (.int .u8 0)) .undef .undef (.ptr h.length 0) (.int .i64 x0) (.agg (.int .i64 x0 :: rep 48 (.int .u8 0))) .undef .undef .undef .undef .undef .undef .undef .undef .undef
 have s1 : splice (.int .i64 0 :: rep 48 (.int .u8 0)) 0 [.int .i64 x0] = .int .i64 x0 :: rep 48 (.int .u8 0) := rfl
 have s2 : ∀ y z, splice (.int .i64 y :: rep 48 (.int .u8 0)) 0 (.int .i64 x0 :: rep 48 (.int .u8 z)) = .int .i64 x0 :: rep 48 (.int .u8 z) := fun y z => rfl
 have t1 : ∀ a z, (a :: rep 48 z).take 49 = a :: rep 48 z := fun a z => rfl
 have t2 : ∀ z, (rep 48 z).take 48 = rep 48 z := fun z => rfl
 simp -implicitDefEqProofs (maxSteps := 5000000) only [go_sem, Nat.reduceShiftRight, Nat.reduceAnd, Nat.reduceBNe, Int.reduceEq, Nat.reduceAdd, Nat.reduceSub, Nat.reduceMul, Nat.reduceLeDiff, reduceIte, reduceCtorEq, Nat.reduceBEq, Nat.reduceEqDiff, go_sem, runC_loop, e, s1, s2, t1, t2, write_zero, write_add, write_succ, write_head, store_one, cell_int, and_self, ne_eq, Nat.reduceEqDiff, not_false_eq_true, List.all_cons]
theorem imageC (x0 v : Int) (h : AHeap) : (envL prog).call 10 [.int .i64 x0, .int .u8 v] h = some (.agg (.int .i64 x0 :: u8s (fz48 v)), h) := by
 unfold fz48; rw [← rep_u8s]; exact imageC0 x0 v h
end Go.Proofs.Ytipedaadjfhdnaa.G06
end
section
namespace Go.Proofs.Ytipedaadjfhdnaa.G06
open Go Go.Proofs.Ytipedaadjfhdnaa.Eng
structure Two (H K : AHeap) (a b : AV) (l : List ImS) : Prop where
 old : Adds H K
 ga : GR 49 K H.length a (imRows l)
 gb : GR 49 K H.length b (imRows l)
 ap : ∀ x, slb a = some x → slb b ≠ some x
section
variable {H : AHeap} {v : AV} {l : List PrS} (ps : PS H v l) (hl : l.length ≤ 1000)
include ps hl
set_option maxHeartbeats 8000000 in
theorem imagesL (x1 x2 x3 x38 x39 : AV) : ∀ (k i : Nat) (K : AHeap) (a b : AV) (j7 j8 j9 j10 j11 j12 j13 j14 j15 j16 j17 j18 j19 j20 j21 j22 j23 j24 j25 j26 j27 j28 j29 j30 j31 j32 j33 j34 j35 j36 j37 : AV), Two H K a b ((l.take i).map prI) → i + k = l.length →
  Outs (LP1 l14x0 [v, x1, x2, x3, a, b, .int .i64 (i : Int), j7, j8, j9, j10, j11, j12, j13, j14, j15, j16, j17, j18, j19, j20, j21, j22, j23, j24, j25, j26, j27, j28, j29, j30, j31, j32, j33, j34, j35, j36, j37, x38, x39] K) fun e t K' => e = .exit 0 ∧ ∃ fv : Nat → AV, t = [v, x1, x2, x3, (fv 4), (fv 5), (fv 6), (fv 7), (fv 8), (fv 9), (fv 10), (fv 11), (fv 12), (fv 13), (fv 14), (fv 15), (fv 16), (fv 17), (fv 18), (fv 19), (fv 20), (fv 21), (fv 22), (fv 23), (fv 24), (fv 25), (fv 26), (fv 27), (fv 28), (fv 29), (fv 30), (fv 31), (fv 32), (fv 33), (fv 34), (fv 35), (fv 36), (fv 37), x38, x39] ∧ Two H K' (fv 4) (fv 5) (l.map prI) := by
 intro k
 obtain ⟨L, hL⟩ : ∃ L, L = LP1 l14x0 := ⟨_, rfl⟩
 have lo := loop_open hL
 have wl := ps.len
 rw [← hL]
 induction k with
 | zero =>
  intro i K a b j7 j8 j9 j10 j11 j12 j13 j14 j15 j16 j17 j18 j19 j20 j21 j22 j23 j24 j25 j26 j27 j28 j29 j30 j31 j32 j33 j34 j35 j36 j37 tw hi
  obtain rfl : i = l.length := by omega
  have hd : decide ((l.length : Int) < (l.length : Int)) = false := by simp
  rw [List.take_length] at tw
  rw [lo]
  unfold l14x0
  simp -implicitDefEqProofs (maxSteps := 5000000) only [go_sem, Nat.reduceShiftRight, Nat.reduceAnd, Nat.reduceBNe, Int.reduceEq, Nat.reduceAdd, Nat.reduceSub, Nat.reduceMul, Nat.reduceLeDiff, reduceIte, reduceCtorEq, Nat.reduceBEq, Nat.reduceEqDiff, wl, hd, seqR_exit', outs_normal]
  exact exF2 rfl tw
 | succ k ih =>
  intro i K a b j7 j8 j9 j10 j11 j12 j13 j14 j15 j16 j17 j18 j19 j20 j21 j22 j23 j24 j25 j26 j27 j28 j29 j30 j31 j32 j33 j34 j35 j36 j37 tw hi
  have hlt : i < l.length := by omega
  have hd : decide ((i : Int) < (l.length : Int)) = true := decide_eq_true (by omega)
  have e2 : IntKind.i64.wrap ((i : Int) + 1) = ((i + 1 : Nat) : Int) := by rw [wrap64 (by omega) (by omega)]; omega
  have hx := List.getElem?_eq_getElem hlt
  obtain ⟨s, cs, ix, hc, c0, c1, hle⟩ := ps.idx hx
  have tk : (l.take (i + 1)).map prI = (l.take i).map prI ++ [prI l[i]] := by rw [List.take_add_one, hx, List.map_append]; rfl
  generalize l[i] = p at *
  obtain ⟨px, py⟩ := p
  simp only at c0 c1
  have cK := tw.old.cells hc
  have cKo := fun X : AHeap => cells_old (x := X) cK
  have im := fun X : AHeap => imageC px (IntKind.u8.wrap py) X
  have pi : prI (px, py) = ⟨px, fz48 (IntKind.u8.wrap py)⟩ := rfl
  have fl := fz48_len (IntKind.u8.wrap py)
  rw [pi] at tk
  generalize fz48 (IntKind.u8.wrap py) = z at *
  have zl : zbody.length = 48 := zbody_b.1
  obtain ⟨C, hC⟩ : ∃ C, C = AV.int .i64 px :: u8s z := ⟨_, rfl⟩
  have Cl : C.length = 49 := by rw [hC]; simp [u8s_len, fl]
  have Cc : C.all AV.isCell = true := by rw [hC, List.all_cons, u8s_cell]; rfl
  have r49 : ∀ x ∈ imRows ((l.take i).map prI), x.length = 49 := fun x hx => by
   obtain ⟨y, hy, rfl⟩ := List.mem_map.1 hx
   simp [ImS.cells, u8s_len, prI_48 _ y hy]
  have rl : (imRows ((l.take i).map prI)).length = i := by unfold imRows; rw [List.length_map, List.length_map, List.length_take]; omega
  have er : imRows ((l.take i).map prI) ++ [C] = imRows ((l.take (i + 1)).map prI) := by rw [tk, hC]; unfold imRows; rw [List.map_append]; rfl
  have oldH := tw.old.len
  obtain ⟨K3, hK3⟩ : ∃ K3, K3 = K ++ [ABlk.rw C, .rw C, .rw C] := ⟨_, rfl⟩
  have aK3 : Adds K K3 := ⟨_, hK3⟩
  have k3l : K3.length = K.length + 3 := by rw [hK3]; simp
  have cc : ∀ j, j < 3 → cellsOf K3 (K.length + j) = some C := fun j hj => by
   rw [hK3]; unfold cellsOf
   rcases j with _ | _ | _ | j
   ·simp
   ·simp
   ·simp
   ·omega
  have ga3 : GR 49 K3 H.length a _ := tw.ga.frS (Fr.adds aK3 (fun _ => False)) fun _ _ h => h
  have gb3 : GR 49 K3 H.length b _ := tw.gb.frS (Fr.adds aK3 (fun _ => False)) fun _ _ h => h
  obtain ⟨a', K4, ea, ga4, fr4, sa, l4, ka, kc⟩ := gr_push (k := 49) (by omega) (d := ty 49 true 56 (.int .i64 0 :: u8s zbody)) rfl (by decide) ga3 r49 (cc 1 (by omega)) Cl Cc (by rw [rl]; show (i + 1) * 56 ≤ roomy; unfold roomy; omega) (by omega)
  have n3 : ∀ (w : AV) (r : List (List AV)), GR 49 K H.length w r → ∀ j, slb w ≠ some (K.length + j) := fun w r g j h => by have := (g.out _ h).2; omega
  have cc4 : ∀ j, j < 3 → cellsOf K4 (K.length + j) = some C := fun j hj => fr4.cells (cc j hj) fun h => n3 a _ tw.ga j h
  have gb4 : GR 49 K4 H.length b _ := gb3.frS fr4 fun x hx h => tw.ap x h hx
  obtain ⟨b', K5, eb, gb5, fr5, sb, l5, kb, kd⟩ := gr_push (k := 49) (by omega) (d := ty 49 true 56 (.int .i64 0 :: u8s zbody)) rfl (by decide) gb4 r49 (cc4 2 (by omega)) Cl Cc (by rw [rl]; show (i + 1) * 56 ≤ roomy; unfold roomy; omega) (by omega)
  have cc5 : ∀ j, j < 3 → cellsOf K5 (K.length + j) = some C := fun j hj => fr5.cells (cc4 j hj) fun h => n3 b _ tw.gb j h
  have aH3 : Adds H K3 := tw.old.trans aK3
  have aH4 : Adds H K4 := fr4.old aH3 fun x hx h => by have := (tw.ga.out x h).1; omega
  have aH5 : Adds H K5 := fr5.old aH4 fun x hx h => by have := (tw.gb.out x h).1; omega
  have c4 := aH4.cells hc
  have c5 := aH5.cells hc
  have ga5 : GR 49 K5 H.length a' _ := ga4.frS fr5 fun x hx h => by
   rw [sa] at hx; injection hx with hx; subst hx
   have := (tw.gb.out _ h).2; omega
  rw [er] at ga5 gb5
  have tw5 : Two H K5 a' b' ((l.take (i + 1)).map prI) := ⟨aH5, ga5, gb5, fun x hx hy => by rw [sa] at hx; rw [sb] at hy; injection hx with hx; injection hy with hy; omega⟩
  have key := ih (i + 1) K5 a' b'
  have e3 : K ++ [ABlk.rw C, .rw C, .rw C] = K3 := hK3.symm
  have sp : splice (.int .i64 0 :: u8s zbody) 0 C = C := by
   rw [splice_long _ _ _ (by simp [Cl]), List.drop_of_length_le (by simp [Cl, u8s_len, zl]), List.append_nil]; rfl
  have spD : splice (.int .i64 0 :: u8s zbody) 0 [.int .i64 px] = .int .i64 px :: u8s zbody := rfl
  have sp1 : splice (.int .i64 px :: u8s zbody) 1 (u8s z) = C := by
   rw [hC, splice_long _ _ _ (by rw [u8s_len]; omega), u8s_len, fl]
   show AV.int .i64 px :: (u8s z ++ (u8s zbody).drop 48) = _
   rw [List.drop_of_length_le (by rw [u8s_len]; omega), List.append_nil]
  have t48 := u8s_take fl
  have t49 : C.take 49 = C := List.take_of_length_le (by omega)
  have C0 : C[0]? = some (.int .i64 px) := by rw [hC]; rfl
  have q0 := cc 0 (by omega)
  have q1 := cc 1 (by omega)
  have q2 := cc 2 (by omega)
  have p0 := cc4 0 (by omega)
  have p1 := cc4 1 (by omega)
  have p2 := cc4 2 (by omega)
  have o0 := cc5 0 (by omega)
  have o1 := cc5 1 (by omega)
  have o2 := cc5 2 (by omega)
  simp only [Nat.add_zero] at q0 p0 o0
  rw [lo]
  unfold l14x0
  simp only [hC] at *
  simp -implicitDefEqProofs (maxSteps := 5000000) only [go_sem, Nat.reduceShiftRight, Nat.reduceAnd, Nat.reduceBNe, Int.reduceEq, Nat.reduceAdd, Nat.reduceSub, Nat.reduceMul, Nat.reduceLeDiff, reduceIte, reduceCtorEq, Nat.reduceBEq, Nat.reduceEqDiff, wrap64, runC_loop, runC_range, callF_fn, callV_fn, callV_yld, yield_eq, yieldBody, yieldRaw, roundMid, roundEnd, rangeEnd, Bool.not_not, put_cons, put_nil, trim_same, at_zero, at_add, set_zero, set_add, store_one, write_zero, write_add, write_head, write_succ, splice_one, splice_more, List.drop_nil, List.take_nil, cell_int, cell_bool, fillS, splice_one, idxA, Ex.isNormal, List.set_nil, List.length_set, List.all_cons, List.all_nil, Bool.and_self, and_self, true_and, and_true, List.getElem?_nil, Int.reduceLT, Int.reduceLE, Int.reduceToNat, Int.toNat_zero, Int.toNat_one, Int.reduceAdd, Int.reduceSub, Int.reduceMul, Int.reduceNeg, Int.reduceBEq, Int.reduceBNe, Int.reduceGE, Int.reduceGT, Nat.reduceLT, trim_keep, under_fn, under_ptr, under_sl, Nat.lt_irrefl, not_lt_add, trim_tail, keepOk, ABlk.vals, Int.cast_ofNat_Int, decide_true, decide_false, List.all_cons, List.all_nil, Nat.zero_mul, Nat.mul_one, Nat.one_mul, idx_arr, wl, hd, e2, ix, cK, c0, c1, hle, im, rep_z48, u8s_len, fl, zl, u8s_cell, sp, sp1, spD, t49, C0, e3, ea, eb, c4, c5, q0, q1, q2, p0, p1, p2, o0, o1, o2, t48, ka, kb, kc, kd]
  exact key _ _ _ _ _ _ _ _ _ _ _ _ _ _ _ _ _ _ _ _ _ _ _ _ _ _ _ _ _ _ _ tw5 (by omega)
theorem imagesC : ∃ a b K, Two H K a b (l.map prI) ∧ (envL prog).call 14 [v] H = some (.tup [a, b], K) := by
 have l0 := imagesL ps hl (k := l.length) (i := 0) (K := H) (a := .nilSl) (b := .nilSl)
 rw [show ((0 : Nat) : Int) = 0 from rfl] at l0
 have tw0 : Two H H .nilSl .nilSl ((l.take 0).map prI) := ⟨Adds.refl H, .inl ⟨rfl, rfl⟩, .inl ⟨rfl, rfl⟩, fun x hx => by cases hx⟩
 have key : Outs (runC (envL prog) (b14 (envL prog)) ([v] ++ List.replicate (40 - [v].length) .undef) H) fun e' t K => ∃ a b, Two H K a b (l.map prI) ∧ fin [.tmp 2, .tmp 3] (some (e', t, K)) = some (.tup [a, b], K) := by
  unfold b14
  generalize hQ : (fun (e' : Ex) (t : T) (K : AHeap) => ∃ a b, Two H K a b (l.map prI) ∧ fin [.tmp 2, .tmp 3] (some (e', t, K)) = some (.tup [a, b], K)) = Q
  simp -implicitDefEqProofs (maxSteps := 5000000) only [go_sem, Nat.reduceShiftRight, Nat.reduceAnd, Nat.reduceBNe, Int.reduceEq, Nat.reduceAdd, Nat.reduceSub, Nat.reduceMul, Nat.reduceLeDiff, reduceIte, reduceCtorEq, Nat.reduceBEq, Nat.reduceEqDiff, wrap64, runC_loop, runC_range, callF_fn, callV_fn, callV_yld, yield_eq, yieldBody, yieldRaw, roundMid, roundEnd, rangeEnd, Bool.not_not, put_cons, put_nil, trim_same, at_zero, at_add, set_zero, set_add, store_one, write_zero, write_add, write_head, write_succ, splice_one, splice_more, List.drop_nil, List.take_nil, cell_int, cell_bool, fillS, splice_one, idxA, Ex.isNormal, List.set_nil, List.length_set, List.all_cons, List.all_nil, Bool.and_self, and_self, true_and, and_true, List.getElem?_nil, Int.reduceLT, Int.reduceLE, Int.reduceToNat, Int.toNat_zero, Int.toNat_one, Int.reduceAdd, Int.reduceSub, Int.reduceMul, Int.reduceNeg, Int.reduceBEq, Int.reduceBNe, Int.reduceGE, Int.reduceGT, Nat.reduceLT, trim_keep, under_fn, under_ptr, under_sl, Nat.lt_irrefl, not_lt_add, trim_tail, keepOk, ABlk.vals, Int.cast_ofNat_Int, decide_true, decide_false, List.all_cons, List.all_nil, Nat.zero_mul, Nat.mul_one, Nat.one_mul, runC_loop]
  unfold LP1 at l0
  generalize (envL prog).loop (runC (envL prog) (l14x0 (envL prog))) = L0 at l0 ⊢
  refine outs_ctx (fun r => seqR (blockR 0 r) _) (l0 _ _ _ _ _ _ _ _ _ _ _ _ _ _ _ _ _ _ _ _ _ _ _ _ _ _ _ _ _ _ _ _ _ _ _ _ tw0 (by omega)) ?_
  rintro e t K ⟨rfl, fv, rfl, tw⟩
  simp -implicitDefEqProofs (maxSteps := 5000000) only [go_sem, Nat.reduceShiftRight, Nat.reduceAnd, Nat.reduceBNe, Int.reduceEq, Nat.reduceAdd, Nat.reduceSub, Nat.reduceMul, Nat.reduceLeDiff, reduceIte, reduceCtorEq, Nat.reduceBEq, Nat.reduceEqDiff, outs_normal]
  subst hQ
  refine ⟨fv 4, fv 5, tw, ?_⟩
  simp -implicitDefEqProofs (maxSteps := 5000000) only [go_sem, Nat.reduceShiftRight, Nat.reduceAnd, Nat.reduceBNe, Int.reduceEq, Nat.reduceAdd, Nat.reduceSub, Nat.reduceMul, Nat.reduceLeDiff, reduceIte, reduceCtorEq, Nat.reduceBEq, Nat.reduceEqDiff]
 obtain ⟨e', t, K, hr, a, b, tw, hf⟩ := key
 rcases trim_if H (.tup [a, b]) K with ⟨t, e⟩ | e
 ·obtain ⟨_, t2, _⟩ := t
  have ua : a.under H.length = true ∧ b.under H.length = true := by simpa [AV.under, underAll] using t2
  have e0 : ∀ {w : AV}, GR 49 K H.length w (imRows (l.map prI)) → w.under H.length = true → l = [] ∧ w = .nilSl := fun {w} g h => by
   rcases g.under with ⟨q1, q2⟩ | q
   ·refine ⟨?_, q2⟩
    have : (imRows (l.map prI)).length = 0 := by rw [q1]; rfl
    unfold imRows at this
    rw [List.length_map, List.length_map] at this
    exact List.eq_nil_of_length_eq_zero this
   ·rw [q] at h; cases h
  obtain ⟨hn, rfl⟩ := e0 tw.ga ua.1
  obtain ⟨_, rfl⟩ := e0 tw.gb ua.2
  obtain ⟨X, rfl⟩ := tw.old
  refine ⟨.nilSl, .nilSl, H, ⟨Adds.refl H, .inl ⟨by rw [hn]; rfl, rfl⟩, .inl ⟨by rw [hn]; rfl, rfl⟩, fun x hx => by cases hx⟩, ?_⟩
  rw [c14, hr, hf, e, List.take_left]
 ·exact ⟨a, b, K, tw, by rw [c14, hr, hf, e]⟩
end
end Go.Proofs.Ytipedaadjfhdnaa.G06
end
section
namespace Go.Proofs.Ytipedaadjfhdnaa.G06
open Go Go.Proofs.Ytipedaadjfhdnaa.Eng
section
variable {H : AHeap} {v : AV} {l : List PrS} (ps : PS H v l) (hl : l.length ≤ 9223372036854775807)
include ps hl
set_option maxHeartbeats 4000000 in
theorem rightL (x1 x2 x3 x26 x27 x28 x29 x30 x31 x32 x33 x34 : AV) : ∀ (k i : Nat) (j6 j7 j8 j9 j10 j11 j12 j13 j14 j15 j16 j17 j18 j19 j20 j21 j22 j23 j24 j25 : AV), i + k = l.length →
  Outs (LP1 l13x0 [v, x1, x2, x3, .bool false, .int .i64 (i : Int), j6, j7, j8, j9, j10, j11, j12, j13, j14, j15, j16, j17, j18, j19, j20, j21, j22, j23, j24, j25, x26, x27, x28, x29, x30, x31, x32, x33, x34] H) fun e t K' => K' = H ∧ ∃ fv : Nat → AV, t = [v, x1, x2, x3, (fv 4), (fv 5), (fv 6), (fv 7), (fv 8), (fv 9), (fv 10), (fv 11), (fv 12), (fv 13), (fv 14), (fv 15), (fv 16), (fv 17), (fv 18), (fv 19), (fv 20), (fv 21), (fv 22), (fv 23), (fv 24), (fv 25), x26, x27, x28, x29, x30, x31, x32, x33, x34] ∧ ((e = .exit 0 ∧ (l.drop i).all okPr = true) ∨ (e = .ret ∧ fv 4 = .bool false ∧ (l.drop i).all okPr = false)) := by
 intro k
 obtain ⟨L, hL⟩ : ∃ L, L = LP1 l13x0 := ⟨_, rfl⟩
 have lo := loop_open hL
 have wl := ps.len
 rw [← hL]
 induction k with
 | zero =>
  intro i j6 j7 j8 j9 j10 j11 j12 j13 j14 j15 j16 j17 j18 j19 j20 j21 j22 j23 j24 j25 hi
  obtain rfl : i = l.length := by omega
  have hd : decide ((l.length : Int) < (l.length : Int)) = false := by simp
  rw [lo]
  unfold l13x0
  simp -implicitDefEqProofs (maxSteps := 5000000) only [go_sem, Nat.reduceShiftRight, Nat.reduceAnd, Nat.reduceBNe, Int.reduceEq, Nat.reduceAdd, Nat.reduceSub, Nat.reduceMul, Nat.reduceLeDiff, reduceIte, reduceCtorEq, Nat.reduceBEq, Nat.reduceEqDiff, wl, hd, seqR_exit', outs_normal]
  exact exF2 rfl (.inl (by simp))
 | succ k ih =>
  intro i j6 j7 j8 j9 j10 j11 j12 j13 j14 j15 j16 j17 j18 j19 j20 j21 j22 j23 j24 j25 hi
  have hlt : i < l.length := by omega
  have hd : decide ((i : Int) < (l.length : Int)) = true := decide_eq_true (by omega)
  have e2 : IntKind.i64.wrap ((i : Int) + 1) = ((i + 1 : Nat) : Int) := by rw [wrap64 (by omega) (by omega)]; omega
  have hx := List.getElem?_eq_getElem hlt
  obtain ⟨s, cs, ix, hc, c0, c1, hle⟩ := ps.idx hx
  have dr := List.drop_eq_getElem_cons hlt
  generalize l[i] = p at *
  rw [lo, dr]
  unfold l13x0
  rw [List.all_cons]
  by_cases h0 : p.1 < 0
  ·have d0 := decide_eq_true h0
   have ok : okPr p = false := by unfold okPr okIm prI; rw [decide_eq_false (show ¬ (0 ≤ p.1) by omega)]; rfl
   rw [ok, Bool.false_and]
   simp -implicitDefEqProofs (maxSteps := 5000000) only [go_sem, Nat.reduceShiftRight, Nat.reduceAnd, Nat.reduceBNe, Int.reduceEq, Nat.reduceAdd, Nat.reduceSub, Nat.reduceMul, Nat.reduceLeDiff, reduceIte, reduceCtorEq, Nat.reduceBEq, Nat.reduceEqDiff, wrap64, runC_loop, runC_range, callF_fn, callV_fn, callV_yld, yield_eq, yieldBody, yieldRaw, roundMid, roundEnd, rangeEnd, Bool.not_not, put_cons, put_nil, trim_same, at_zero, at_add, set_zero, set_add, store_one, write_zero, write_add, write_head, write_succ, splice_one, splice_more, List.drop_nil, List.take_nil, cell_int, cell_bool, fillS, splice_one, idxA, Ex.isNormal, List.set_nil, List.length_set, List.all_cons, List.all_nil, Bool.and_self, and_self, true_and, and_true, List.getElem?_nil, Int.reduceLT, Int.reduceLE, Int.reduceToNat, Int.toNat_zero, Int.toNat_one, Int.reduceAdd, Int.reduceSub, Int.reduceMul, Int.reduceNeg, Int.reduceBEq, Int.reduceBNe, Int.reduceGE, Int.reduceGT, Nat.reduceLT, trim_keep, under_fn, under_ptr, under_sl, Nat.lt_irrefl, not_lt_add, trim_tail, keepOk, ABlk.vals, Int.cast_ofNat_Int, decide_true, decide_false, List.all_cons, List.all_nil, Nat.zero_mul, Nat.mul_one, Nat.one_mul, idx_arr, wl, hd, ix, hc, c0, d0, seqR_ret, outs_normal]
   exact exF2 rfl (.inr rfl)
  ·have d0 := decide_eq_false h0
   by_cases h1 : p.1 > 65535
   ·have d1 := decide_eq_true h1
    have ok : okPr p = false := by unfold okPr okIm prI; rw [decide_eq_false (show ¬ (p.1 ≤ 65535) by omega), Bool.and_false]
    rw [ok, Bool.false_and]
    simp -implicitDefEqProofs (maxSteps := 5000000) only [go_sem, Nat.reduceShiftRight, Nat.reduceAnd, Nat.reduceBNe, Int.reduceEq, Nat.reduceAdd, Nat.reduceSub, Nat.reduceMul, Nat.reduceLeDiff, reduceIte, reduceCtorEq, Nat.reduceBEq, Nat.reduceEqDiff, wrap64, runC_loop, runC_range, callF_fn, callV_fn, callV_yld, yield_eq, yieldBody, yieldRaw, roundMid, roundEnd, rangeEnd, Bool.not_not, put_cons, put_nil, trim_same, at_zero, at_add, set_zero, set_add, store_one, write_zero, write_add, write_head, write_succ, splice_one, splice_more, List.drop_nil, List.take_nil, cell_int, cell_bool, fillS, splice_one, idxA, Ex.isNormal, List.set_nil, List.length_set, List.all_cons, List.all_nil, Bool.and_self, and_self, true_and, and_true, List.getElem?_nil, Int.reduceLT, Int.reduceLE, Int.reduceToNat, Int.toNat_zero, Int.toNat_one, Int.reduceAdd, Int.reduceSub, Int.reduceMul, Int.reduceNeg, Int.reduceBEq, Int.reduceBNe, Int.reduceGE, Int.reduceGT, Nat.reduceLT, trim_keep, under_fn, under_ptr, under_sl, Nat.lt_irrefl, not_lt_add, trim_tail, keepOk, ABlk.vals, Int.cast_ofNat_Int, decide_true, decide_false, List.all_cons, List.all_nil, Nat.zero_mul, Nat.mul_one, Nat.one_mul, idx_arr, wl, hd, ix, hc, c0, d0, d1, seqR_ret, outs_normal]
    exact exF2 rfl (.inr rfl)
   ·have d1 := decide_eq_false h1
    have ok : okPr p = true := by unfold okPr okIm prI; rw [decide_eq_true (show 0 ≤ p.1 by omega), decide_eq_true (show p.1 ≤ 65535 by omega)]; rfl
    rw [ok, Bool.true_and]
    simp -implicitDefEqProofs (maxSteps := 5000000) only [go_sem, Nat.reduceShiftRight, Nat.reduceAnd, Nat.reduceBNe, Int.reduceEq, Nat.reduceAdd, Nat.reduceSub, Nat.reduceMul, Nat.reduceLeDiff, reduceIte, reduceCtorEq, Nat.reduceBEq, Nat.reduceEqDiff, wrap64, runC_loop, runC_range, callF_fn, callV_fn, callV_yld, yield_eq, yieldBody, yieldRaw, roundMid, roundEnd, rangeEnd, Bool.not_not, put_cons, put_nil, trim_same, at_zero, at_add, set_zero, set_add, store_one, write_zero, write_add, write_head, write_succ, splice_one, splice_more, List.drop_nil, List.take_nil, cell_int, cell_bool, fillS, splice_one, idxA, Ex.isNormal, List.set_nil, List.length_set, List.all_cons, List.all_nil, Bool.and_self, and_self, true_and, and_true, List.getElem?_nil, Int.reduceLT, Int.reduceLE, Int.reduceToNat, Int.toNat_zero, Int.toNat_one, Int.reduceAdd, Int.reduceSub, Int.reduceMul, Int.reduceNeg, Int.reduceBEq, Int.reduceBNe, Int.reduceGE, Int.reduceGT, Nat.reduceLT, trim_keep, under_fn, under_ptr, under_sl, Nat.lt_irrefl, not_lt_add, trim_tail, keepOk, ABlk.vals, Int.cast_ofNat_Int, decide_true, decide_false, List.all_cons, List.all_nil, Nat.zero_mul, Nat.mul_one, Nat.one_mul, idx_arr, wl, hd, ix, hc, c0, d0, d1, e2]
    exact ih (i + 1) _ _ _ _ _ _ _ _ _ _ _ _ _ _ _ _ _ _ _ _ (by omega)
theorem rightC (most : Int) : (envL prog).call 13 [v, .int .i64 most] H = some (.bool (rightS l most), H) := by
 have l0 := rightL ps hl (k := l.length) (i := 0)
 rw [show ((0 : Nat) : Int) = 0 from rfl, List.drop_zero] at l0
 have wl := ps.len
 have key : Outs (runC (envL prog) (b13 (envL prog)) ([v, .int .i64 most] ++ List.replicate (35 - [v, AV.int .i64 most].length) .undef) H) fun e' t K => K = H ∧ fin [.tmp 4] (some (e', t, K)) = some (.bool (rightS l most), K) := by
  unfold b13
  generalize hQ : (fun (e' : Ex) (t : T) (K : AHeap) => K = H ∧ fin [.tmp 4] (some (e', t, K)) = some (AV.bool (rightS l most), K)) = Q
  simp -implicitDefEqProofs (maxSteps := 5000000) only [go_sem, Nat.reduceShiftRight, Nat.reduceAnd, Nat.reduceBNe, Int.reduceEq, Nat.reduceAdd, Nat.reduceSub, Nat.reduceMul, Nat.reduceLeDiff, reduceIte, reduceCtorEq, Nat.reduceBEq, Nat.reduceEqDiff, wrap64, runC_loop, runC_range, callF_fn, callV_fn, callV_yld, yield_eq, yieldBody, yieldRaw, roundMid, roundEnd, rangeEnd, Bool.not_not, put_cons, put_nil, trim_same, at_zero, at_add, set_zero, set_add, store_one, write_zero, write_add, write_head, write_succ, splice_one, splice_more, List.drop_nil, List.take_nil, cell_int, cell_bool, fillS, splice_one, idxA, Ex.isNormal, List.set_nil, List.length_set, List.all_cons, List.all_nil, Bool.and_self, and_self, true_and, and_true, List.getElem?_nil, Int.reduceLT, Int.reduceLE, Int.reduceToNat, Int.toNat_zero, Int.toNat_one, Int.reduceAdd, Int.reduceSub, Int.reduceMul, Int.reduceNeg, Int.reduceBEq, Int.reduceBNe, Int.reduceGE, Int.reduceGT, Nat.reduceLT, trim_keep, under_fn, under_ptr, under_sl, Nat.lt_irrefl, not_lt_add, trim_tail, keepOk, ABlk.vals, Int.cast_ofNat_Int, decide_true, decide_false, List.all_cons, List.all_nil, Nat.zero_mul, Nat.mul_one, Nat.one_mul, runC_loop]
  unfold LP1 at l0
  generalize (envL prog).loop (runC (envL prog) (l13x0 (envL prog))) = L0 at l0 ⊢
  refine outs_ctx (fun r => seqR (blockR 0 r) _) (l0 _ _ _ _ _ _ _ _ _ _ _ _ _ _ _ _ _ _ _ _ _ _ _ _ _ _ _ _ _ _ _ _ (by omega)) ?_
  rintro e t K ⟨rfl, fv, rfl, ⟨rfl, ho⟩ | ⟨rfl, f4, ho⟩⟩
  ·obtain ⟨y, hy⟩ : ∃ y, decide ((l.length : Int) ≥ 1) = y := ⟨_, rfl⟩
   obtain ⟨z, hz⟩ : ∃ z, decide ((l.length : Int) ≤ most) = z := ⟨_, rfl⟩
   have er : rightS l most = (y && z) := by
    unfold rightS; rw [ho, Bool.true_and, hz, ← hy]
    congr 1
    by_cases q : 1 ≤ l.length
    ·rw [decide_eq_true q, decide_eq_true (by omega)]
    ·rw [decide_eq_false q, decide_eq_false (by omega)]
   rw [er] at hQ
   cases y <;>
   ·simp -implicitDefEqProofs (maxSteps := 5000000) only [go_sem, Nat.reduceShiftRight, Nat.reduceAnd, Nat.reduceBNe, Int.reduceEq, Nat.reduceAdd, Nat.reduceSub, Nat.reduceMul, Nat.reduceLeDiff, reduceIte, reduceCtorEq, Nat.reduceBEq, Nat.reduceEqDiff, wl, hy, hz, outs_normal]
    subst hQ
    refine ⟨rfl, ?_⟩
    simp -implicitDefEqProofs (maxSteps := 5000000) only [go_sem, Nat.reduceShiftRight, Nat.reduceAnd, Nat.reduceBNe, Int.reduceEq, Nat.reduceAdd, Nat.reduceSub, Nat.reduceMul, Nat.reduceLeDiff, reduceIte, reduceCtorEq, Nat.reduceBEq, Nat.reduceEqDiff]
  ·have er : rightS l most = false := by unfold rightS; rw [ho]; rfl
   rw [er] at hQ
   simp -implicitDefEqProofs (maxSteps := 5000000) only [go_sem, Nat.reduceShiftRight, Nat.reduceAnd, Nat.reduceBNe, Int.reduceEq, Nat.reduceAdd, Nat.reduceSub, Nat.reduceMul, Nat.reduceLeDiff, reduceIte, reduceCtorEq, Nat.reduceBEq, Nat.reduceEqDiff, outs_normal]
   subst hQ
   refine ⟨rfl, ?_⟩
   simp -implicitDefEqProofs (maxSteps := 5000000) only [go_sem, Nat.reduceShiftRight, Nat.reduceAnd, Nat.reduceBNe, Int.reduceEq, Nat.reduceAdd, Nat.reduceSub, Nat.reduceMul, Nat.reduceLeDiff, reduceIte, reduceCtorEq, Nat.reduceBEq, Nat.reduceEqDiff, f4]
 obtain ⟨e', t, K, hr, rfl, hf⟩ := key
 rw [c13, hr, hf]; exact trim_same rfl
end
end Go.Proofs.Ytipedaadjfhdnaa.G06
end
