/- What the functions that RingPlays reaches answer, for every argument. No condition but those in each statement. -/
import Derived.Test.YtipedaadjfhdnaaDA
import Derived.Test.YtipedaadjfhdnaaE6
import Derived.Test.YtipedaadjfhdnaaRA
set_option linter.unusedSimpArgs false
set_option linter.unusedVariables false
set_option linter.unusedSectionVars false
set_option maxRecDepth 10000
section
namespace Go.Proofs.Ytipedaadjfhdnaa.G06
open Go Go.Proofs.Ytipedaadjfhdnaa.Eng
section
variable {H : AHeap} {p s v c : Nat} {L : List (AV × Sec)} (m : RD H p s v c L)
include m
theorem refHasC (i : Int) : (envL prog).call 66 [.ptr p 0, .int .i64 i] H = some (.bool (decide (0 ≤ i ∧ i < (L.length : Int))), H) := by
 have hm := m.ptr
 rw [c66]
 unfold b66
 by_cases h : 0 ≤ i
 ·have d1 : decide (i ≥ 0) = true := decide_eq_true h
  have e : decide (0 ≤ i ∧ i < (L.length : Int)) = decide (i < (L.length : Int)) := by simp [h]
  rw [e]
  simp -implicitDefEqProofs (maxSteps := 5000000) only [go_sem, Nat.reduceShiftRight, Nat.reduceAnd, Nat.reduceBNe, Int.reduceEq, Nat.reduceAdd, Nat.reduceSub, Nat.reduceMul, Nat.reduceLeDiff, reduceIte, reduceCtorEq, Nat.reduceBEq, Nat.reduceEqDiff, hm, d1]
 ·have d1 : decide (i ≥ 0) = false := decide_eq_false h
  have e : decide (0 ≤ i ∧ i < (L.length : Int)) = false := decide_eq_false (by omega)
  rw [e]
  simp -implicitDefEqProofs (maxSteps := 5000000) only [go_sem, Nat.reduceShiftRight, Nat.reduceAnd, Nat.reduceBNe, Int.reduceEq, Nat.reduceAdd, Nat.reduceSub, Nat.reduceMul, Nat.reduceLeDiff, reduceIte, reduceCtorEq, Nat.reduceBEq, Nat.reduceEqDiff, hm, d1]
set_option maxHeartbeats 1000000 in
theorem refReadC {i : Nat} {x : AV × Sec} (hi : L[i]? = some x) : (envL prog).call 26 [.ptr p 0, .int .i64 (i : Int)] H = some (.agg (u8s x.2.last), H) := by
 have hm := m.ptr
 obtain ⟨⟨cs, hc, hle, htk⟩, ⟨cv, hcv, hv⟩, hlt, hsz⟩ := m.row hi
 obtain ⟨gv, ok, cap⟩ := m.vs.at hi
 have cb := m.vs.cb
 obtain ⟨hl, hr⟩ := ver_read gv ok
 have ul := u8s_all x.2.last H.length
 have l64 := ok.last.1
 have w64 : (u8s x.2.last).length = 64 := by rw [u8s_len]; exact l64
 have uc := u8s_cell x.2.last
 have sp := splice_u8 (.int .u8 0) l64 (by omega)
 have tk := u8s_take l64
 have ix1 := idx_nat v 1 L.length L.length i true .i64 (by omega) hlt
 rw [Nat.mul_one] at ix1
 have ix2 := idx_nat s 64 L.length L.length i true .i64 (by omega) hlt
 have hmo := fun B => cells_old (x := B) hm
 have hco := fun B => cells_old (x := B) hc
 have hcvo := fun B => cells_old (x := B) hcv
 rw [c26]
 unfold b26
 rcases hr with ⟨h0, h1⟩ | ⟨b, cs2, z, hz, h1, hp, hc2, hle2, htk2⟩
 ·have e : x.2.last = x.2.there := by unfold Sec.last; rw [h0]; rfl
  rw [e] at ul w64 uc sp tk ⊢
  rw [h1] at hv
  have d0 : decide ((0 : Int) > 0) = false := rfl
  simp -implicitDefEqProofs (maxSteps := 5000000) only [go_sem, Nat.reduceShiftRight, Nat.reduceAnd, Nat.reduceBNe, Int.reduceEq, Nat.reduceAdd, Nat.reduceSub, Nat.reduceMul, Nat.reduceLeDiff, reduceIte, reduceCtorEq, Nat.reduceBEq, Nat.reduceEqDiff, hm, hmo, hc, hco, hcv, hcvo, hv, ix1, ix2, hle, htk, d0, write_zero, store_one, w64, uc, sp, tk, rep_len, ul]
 ·have e : x.2.last = z := by unfold Sec.last; rw [hz]; rfl
  rw [e] at ul w64 uc sp tk ⊢
  rw [h1] at hv
  generalize x.2.vers.length = n at *
  have hc2o := fun B => cells_old (x := B) hc2
  have d0 : decide ((n : Int) > 0) = true := decide_eq_true (by omega)
  have e1 : IntKind.i64.wrap ((n : Int) - 1) = ((n - 1 : Nat) : Int) := by rw [wrap64 (by omega) (by omega)]; omega
  have ix := idx_nat b 64 n n (n - 1) false .i64 (by omega) (by omega)
  simp -implicitDefEqProofs (maxSteps := 5000000) only [go_sem, Nat.reduceShiftRight, Nat.reduceAnd, Nat.reduceBNe, Int.reduceEq, Nat.reduceAdd, Nat.reduceSub, Nat.reduceMul, Nat.reduceLeDiff, reduceIte, reduceCtorEq, Nat.reduceBEq, Nat.reduceEqDiff, hm, hmo, hcv, hcvo, hv, ix1, hc2, hc2o, hle2, htk2, d0, e1, ix, write_zero, store_one, w64, uc, sp, tk, rep_len, ul]
set_option maxHeartbeats 2000000 in
theorem refWriteC {i : Nat} {x : AV × Sec} (hi : L[i]? = some x) {z : List Int} (hz : B64 z) (hcc : c + 1 ≤ 1000000000) : ∃ H' w, RD H' p s v (c + 1) (L.set i (w, ⟨x.2.there, x.2.vers ++ [z]⟩)) ∧ (∃ b, slb w = some b ∧ H.length ≤ b) ∧ Fr H H' (fun b => b = v) ∧
  (envL prog).call 48 [.ptr p 0, .int .i64 (i : Int), .agg (u8s z)] H = some (.tup [], H') := by
 have hm := m.ptr
 obtain ⟨⟨cs, hc, hle, htk⟩, ⟨cv, hcv, hv⟩, hlt, hsz⟩ := m.row hi
 obtain ⟨gv, ok, cap⟩ := m.vs.at hi
 obtain ⟨w, H3, y, H4, a1, h3, a2, h4, g, ⟨b0, hb0, hb1⟩, yc, ya⟩ := dup_app gv ok cap hcc hz
 have h34 : Adds H H4 := Adds.trans ⟨_, rfl⟩ h4
 obtain ⟨mt, wr⟩ := m.setV (y := (y, ⟨x.2.there, x.2.vers ++ [z]⟩)) h34 hi rfl g (ok.more hz) (Nat.le_succ _) hcc (by simp; omega) (fun b hb => by rw [hb0] at hb; injection hb with hb; subst hb; exact hb1) yc
 have f : Fr H (H4.set v (.rw ((L.set i (y, (⟨x.2.there, x.2.vers ++ [z]⟩ : Sec))).map (·.1)))) (fun b => b = v) := (Fr.adds h34 _).trans (Fr.set _ _ (F := fun b => b = v) rfl) (fun _ _ h => h)
 refine ⟨_, y, mt, ⟨b0, hb0, hb1⟩, f, ?_⟩
 have tr : trim H (some (.tup [], H4.set v (.rw ((L.set i (y, (⟨x.2.there, x.2.vers ++ [z]⟩ : Sec))).map (·.1))))) = some (.tup [], H4.set v (.rw ((L.set i (y, (⟨x.2.there, x.2.vers ++ [z]⟩ : Sec))).map (·.1)))) := by
  refine trim_dirty v _ _ y m.bv mt.bv ?_ ?_ (m.v_under)
  ·show y ∈ (L.set i _).map (·.1)
   exact List.mem_map.2 ⟨_, List.mem_of_getElem? (List.getElem?_set_self hlt), rfl⟩
  ·cases y with
   | sl b o q l c e => injection hb0 with hb0; subst hb0; simp only [AV.under, decide_eq_false_iff_not]; omega
   | _ => cases hb0
 generalize hK : H4.set v (.rw ((L.set i (y, (⟨x.2.there, x.2.vers ++ [z]⟩ : Sec))).map (·.1))) = K at *
 have l64 := hz.1
 have w64 : (u8s z).length = 64 := by rw [u8s_len]; exact l64
 have sp := splice_u8 (.int .u8 0) l64 (by omega)
 have tk := u8s_take l64
 have ix1 := idx_nat v 1 L.length L.length i true .i64 (by omega) hlt
 rw [Nat.mul_one] at ix1
 have hmo := fun B => cells_old (x := B) hm
 have hcvo := fun B => cells_old (x := B) hcv
 have hbx : cellsOf (H ++ [ABlk.rw (u8s z), .rw [], .rw (u8s z)]) H.length = some (u8s z) := by unfold cellsOf; simp
 have k3 := h3.cells hbx
 have k4 := h4.cells hbx
 have p3 := (Adds.trans ⟨_, rfl⟩ h3 : Adds H H3).cells hm
 have p4 := h34.cells hm
 have s0 : (0 : Nat) ≤ (u8s z).length := Nat.zero_le _
 rw [c48]
 unfold b48
 simp -implicitDefEqProofs (maxSteps := 5000000) only [go_sem, Nat.reduceShiftRight, Nat.reduceAnd, Nat.reduceBNe, Int.reduceEq, Nat.reduceAdd, Nat.reduceSub, Nat.reduceMul, Nat.reduceLeDiff, reduceIte, reduceCtorEq, Nat.reduceBEq, Nat.reduceEqDiff, hm, hmo, hcvo, hv, ix1, w64, sp, tk, a1, a2, k3, k4, p3, p4, store_one, ya, wr, tr, rep_len]
end
end Go.Proofs.Ytipedaadjfhdnaa.G06
end
section
namespace Go.Proofs.Ytipedaadjfhdnaa.G06
open Go Go.Proofs.Ytipedaadjfhdnaa.Eng
theorem nil_of {H : AHeap} {v : AV} {s : Sec} (g : GR 64 H 0 v (verR s)) (h : s.vers = []) : v = .nilSl := by
 rcases g with ⟨_, hv⟩ | ⟨hv, _⟩
 ·exact hv
 ·exact absurd (by unfold verR; rw [h]; rfl) hv
section
variable {H : AHeap} {p s v c : Nat} {L : List (AV × Sec)} (m : RD H p s v c L)
include m
set_option maxHeartbeats 2000000 in
theorem refFlushL (x1 : AV) : ∀ (k i : Nat) (G : AHeap) (j3 j4 j5 j6 j7 j8 j9 j10 j11 j12 j13 j14 j15 j16 j17 j18 j19 j20 j21 j22 j23 j24 j25 j26 : AV), RD G p s v c (flI L i) → KeepB H G [s, v] → i + k = L.length →
  Outs (LQ l56x0 [.ptr p 0, x1, .int .i64 (i : Int), j3, j4, j5, j6, j7, j8, j9, j10, j11, j12, j13, j14, j15, j16, j17, j18, j19, j20, j21, j22, j23, j24, j25, j26] G) fun e t G' => e = .exit 0 ∧ RD G' p s v c (flI L L.length) ∧ KeepB H G' [s, v] ∧ ∃ k : Nat → AV, t = [.ptr p 0, x1, (k 2), (k 3), (k 4), (k 5), (k 6), (k 7), (k 8), (k 9), (k 10), (k 11), (k 12), (k 13), (k 14), (k 15), (k 16), (k 17), (k 18), (k 19), (k 20), (k 21), (k 22), (k 23), (k 24), (k 25), (k 26)] := by
 intro k
 obtain ⟨Lp, hL⟩ : ∃ L, L = LQ l56x0 := ⟨_, rfl⟩
 have lo := loop_open hL
 rw [← hL]
 induction k with
 | zero =>
  intro i G j3 j4 j5 j6 j7 j8 j9 j10 j11 j12 j13 j14 j15 j16 j17 j18 j19 j20 j21 j22 j23 j24 j25 j26 mg kg hi
  obtain rfl : i = L.length := by omega
  have hm := mg.ptr
  rw [flI_len L (Nat.le_refl _)] at hm
  have hd : decide ((L.length : Int) < (L.length : Int)) = false := by simp
  rw [lo]
  unfold l56x0
  simp -implicitDefEqProofs (maxSteps := 5000000) only [go_sem, Nat.reduceShiftRight, Nat.reduceAnd, Nat.reduceBNe, Int.reduceEq, Nat.reduceAdd, Nat.reduceSub, Nat.reduceMul, Nat.reduceLeDiff, reduceIte, reduceCtorEq, Nat.reduceBEq, Nat.reduceEqDiff, hm, hd, seqR_exit', outs_normal]
  exact ⟨mg, kg, exF rfl⟩
 | succ k ih =>
  intro i G j3 j4 j5 j6 j7 j8 j9 j10 j11 j12 j13 j14 j15 j16 j17 j18 j19 j20 j21 j22 j23 j24 j25 j26 mg kg hi
  have hlt : i < L.length := by omega
  have hm := mg.ptr
  rw [flI_len L (by omega)] at hm
  obtain ⟨x, hx⟩ : ∃ x, L[i]? = some x := ⟨_, List.getElem?_eq_getElem hlt⟩
  have hx2 : (flI L i)[i]? = some x := by rw [flI_get hlt, hx]
  have hsz := mg.sz
  rw [flI_len L (by omega)] at hsz
  have hd : decide ((i : Int) < (L.length : Int)) = true := decide_eq_true (by omega)
  have e2 : IntKind.i64.wrap ((i : Int) + 1) = ((i + 1 : Nat) : Int) := by rw [wrap64 (by omega) (by omega)]; omega
  have er := refReadC mg hx2
  have okl : B64 x.2.last := (mg.vs.at hx2).2.1.last
  obtain ⟨m1, w1⟩ := mg.setT hx2 okl
  have hx3 : ((flI L i).set i (x.1, (⟨x.2.last, x.2.vers⟩ : Sec)))[i]? = some (x.1, ⟨x.2.last, x.2.vers⟩) := List.getElem?_set_self (by rw [flI_len L (by omega)]; exact hlt)
  obtain ⟨m2, w2⟩ := m1.setN hx3
  rw [List.set_set] at m2 w2
  have k2 : KeepB H ((G.set s (.rw (((flI L i).set i (x.1, (⟨x.2.last, x.2.vers⟩ : Sec))).map thereR).flatten)).set v (.rw (((flI L i).set i (.nilSl, (⟨x.2.last, []⟩ : Sec))).map (·.1)))) [s, v] := (kg.trans (KeepB.set _ _ _ _ (by simp))).trans (KeepB.set _ _ _ _ (by simp))
  have p1 := m1.ptr
  rw [List.length_set, flI_len L (by omega)] at p1
  generalize hG1 : G.set s (.rw (((flI L i).set i (x.1, (⟨x.2.last, x.2.vers⟩ : Sec))).map thereR).flatten) = G1 at *
  have w2' : writeN G1 v i [.nilSl] = some (G1.set v (.rw (((flI L i).set i (.nilSl, (⟨x.2.last, []⟩ : Sec))).map (·.1)))) := w2
  generalize hG2 : G1.set v (.rw (((flI L i).set i (.nilSl, (⟨x.2.last, []⟩ : Sec))).map (·.1))) = G2 at *
  rw [show (flI L i).set i (.nilSl, (⟨x.2.last, []⟩ : Sec)) = flI L (i + 1) from (flI_step hx).symm] at m2
  have w64 : (u8s x.2.last).length = 64 := by rw [u8s_len]; exact okl.1
  have ix1 := idx_nat v 1 L.length L.length i true .i64 (by omega) hlt
  rw [Nat.mul_one] at ix1
  have ix2 := idx_nat s 64 L.length L.length i true .i64 (by omega) hlt
  rw [lo]
  unfold l56x0
  simp -implicitDefEqProofs (maxSteps := 5000000) only [go_sem, Nat.reduceShiftRight, Nat.reduceAnd, Nat.reduceBNe, Int.reduceEq, Nat.reduceAdd, Nat.reduceSub, Nat.reduceMul, Nat.reduceLeDiff, reduceIte, reduceCtorEq, Nat.reduceBEq, Nat.reduceEqDiff, hm, p1, hd, e2, er, ix1, ix2, store_one, w64, w1, w2']
  exact ih (i + 1) G2 _ _ _ _ _ _ _ _ _ _ _ _ _ _ _ _ _ _ _ _ _ _ _ _ m2 k2 (by omega)
set_option maxHeartbeats 2000000 in
theorem refFlushC : ∃ H', RD H' p s v c (L.map flX') ∧ KeepB H H' [s, v] ∧ (envL prog).call 56 [.ptr p 0] H = some (.tup [], H') := by
 have l0 := refFlushL m (k := L.length) (i := 0) (G := H)
 rw [show ((0 : Nat) : Int) = 0 from rfl] at l0
 have o : Outs (runC (envL prog) (b56 (envL prog)) ([.ptr p 0] ++ List.replicate (27 - [AV.ptr p 0].length) .undef) H) fun e' t K' => (RD K' p s v c (L.map flX') ∧ KeepB H K' [s, v]) ∧ fin [] (some (e', t, K')) = some (.tup [], K') := by
  unfold b56
  generalize hQ : (fun (e' : Ex) (t : T) (K' : AHeap) => (RD K' p s v c (L.map flX') ∧ KeepB H K' [s, v]) ∧ fin [] (some (e', t, K')) = some (AV.tup [], K')) = Q
  simp -implicitDefEqProofs (maxSteps := 5000000) only [go_sem, Nat.reduceShiftRight, Nat.reduceAnd, Nat.reduceBNe, Int.reduceEq, Nat.reduceAdd, Nat.reduceSub, Nat.reduceMul, Nat.reduceLeDiff, reduceIte, reduceCtorEq, Nat.reduceBEq, Nat.reduceEqDiff, runC_loop]
  unfold LQ at l0
  generalize (envL prog).loop (runC (envL prog) (l56x0 (envL prog))) = L0 at l0 ⊢
  refine outs_ctx (fun r => blockR 0 r) (l0 _ _ _ _ _ _ _ _ _ _ _ _ _ _ _ _ _ _ _ _ _ _ _ _ _ (by unfold flI; simpa using m) (KeepB.refl _ _) (by omega)) ?_
  rintro e t G ⟨rfl, mg, kg, k, rfl⟩
  rw [flI_all] at mg
  simp -implicitDefEqProofs (maxSteps := 5000000) only [go_sem, Nat.reduceShiftRight, Nat.reduceAnd, Nat.reduceBNe, Int.reduceEq, Nat.reduceAdd, Nat.reduceSub, Nat.reduceMul, Nat.reduceLeDiff, reduceIte, reduceCtorEq, Nat.reduceBEq, Nat.reduceEqDiff, outs_normal]
  subst hQ
  refine ⟨⟨mg, kg⟩, ?_⟩
  simp -implicitDefEqProofs (maxSteps := 5000000) only [go_sem, Nat.reduceShiftRight, Nat.reduceAnd, Nat.reduceBNe, Int.reduceEq, Nat.reduceAdd, Nat.reduceSub, Nat.reduceMul, Nat.reduceLeDiff, reduceIte, reduceCtorEq, Nat.reduceBEq, Nat.reduceEqDiff]
 obtain ⟨e', t, K', hr, ⟨mk, kk⟩, hf⟩ := o
 exact ⟨K', mk, kk, by rw [c56, hr, hf]; exact kk.trim _⟩
set_option maxHeartbeats 2000000 in
theorem refLooseL (x1 x2 x27 : AV) : ∀ (k i : Nat) (H' : AHeap) (l : AV) (j5 j6 j7 j8 j9 j10 j11 j12 j13 j14 j15 j16 j17 j18 j19 j20 j21 j22 j23 j24 j25 j26 : AV), Adds H H' → GR 1 H' H.length l ((looseF ((L.map (·.2)).take i) 0).map fun (n : Nat) => [AV.int .i64 (n : Int)]) → i + k = L.length →
  Outs (LQ l65x0 [.ptr p 0, x1, x2, l, .int .i64 (i : Int), j5, j6, j7, j8, j9, j10, j11, j12, j13, j14, j15, j16, j17, j18, j19, j20, j21, j22, j23, j24, j25, j26, x27] H') fun e' t H2 => e' = .exit 0 ∧ Adds H H2 ∧ ∃ l', GR 1 H2 H.length l' ((looseF (L.map (·.2)) 0).map fun (n : Nat) => [AV.int .i64 (n : Int)]) ∧ ∃ k : Nat → AV, t = [.ptr p 0, x1, x2, l', (k 4), (k 5), (k 6), (k 7), (k 8), (k 9), (k 10), (k 11), (k 12), (k 13), (k 14), (k 15), (k 16), (k 17), (k 18), (k 19), (k 20), (k 21), (k 22), (k 23), (k 24), (k 25), (k 26), x27] := by
 intro k
 obtain ⟨Lp, hL⟩ : ∃ L, L = LQ l65x0 := ⟨_, rfl⟩
 have lo := loop_open hL
 have hsz := m.sz
 rw [← hL]
 induction k with
 | zero =>
  intro i H' l j5 j6 j7 j8 j9 j10 j11 j12 j13 j14 j15 j16 j17 j18 j19 j20 j21 j22 j23 j24 j25 j26 A g hi
  obtain rfl : i = L.length := by omega
  have hm := A.cells m.ptr
  have hd : decide ((L.length : Int) < (L.length : Int)) = false := by simp
  rw [List.take_of_length_le (by simp)] at g
  rw [lo]
  unfold l65x0
  simp -implicitDefEqProofs (maxSteps := 5000000) only [go_sem, Nat.reduceShiftRight, Nat.reduceAnd, Nat.reduceBNe, Int.reduceEq, Nat.reduceAdd, Nat.reduceSub, Nat.reduceMul, Nat.reduceLeDiff, reduceIte, reduceCtorEq, Nat.reduceBEq, Nat.reduceEqDiff, hm, hd, seqR_exit', outs_normal]
  exact ⟨A, l, g, exF rfl⟩
 | succ k ih =>
  intro i H' l j5 j6 j7 j8 j9 j10 j11 j12 j13 j14 j15 j16 j17 j18 j19 j20 j21 j22 j23 j24 j25 j26 A g hi
  have hlt : i < L.length := by omega
  have hm := A.cells m.ptr
  obtain ⟨x, hx⟩ : ∃ x, L[i]? = some x := ⟨_, List.getElem?_eq_getElem hlt⟩
  obtain ⟨_, ⟨cv, hcv0, hv⟩, _, _⟩ := m.row hx
  have hcv := A.cells hcv0
  obtain ⟨gv, ok, cap⟩ := m.vs.at hx
  have cb := m.vs.cb
  obtain ⟨hl, hr⟩ := ver_read gv ok
  have hd : decide ((i : Int) < (L.length : Int)) = true := decide_eq_true (by omega)
  have e2 : IntKind.i64.wrap ((i : Int) + 1) = ((i + 1 : Nat) : Int) := by rw [wrap64 (by omega) (by omega)]; omega
  have ix1 := idx_nat v 1 L.length L.length i true .i64 (by omega) hlt
  rw [Nat.mul_one] at ix1
  have ih := fun H2 l2 j5 j6 j7 j8 j9 j10 j11 j12 j13 j14 j15 j16 j17 j18 j19 j20 j21 j22 j23 j24 j25 j26 A2 g2 => ih (i + 1) H2 l2 j5 j6 j7 j8 j9 j10 j11 j12 j13 j14 j15 j16 j17 j18 j19 j20 j21 j22 j23 j24 j25 j26 A2 g2 (by omega)
  rw [looseF_snoc (get_map (fun y : AV × Sec => y.2) hx)] at ih
  rw [lo]
  unfold l65x0
  rcases hr with ⟨h0, h1⟩ | ⟨b, cs2, z, hz, h1, hp, hc2, hle2, htk2⟩
  ·rw [h1] at hv
   rw [if_pos h0, List.append_nil] at ih
   have d0 : decide ((0 : Int) > 0) = false := rfl
   simp -implicitDefEqProofs (maxSteps := 5000000) only [go_sem, Nat.reduceShiftRight, Nat.reduceAnd, Nat.reduceBNe, Int.reduceEq, Nat.reduceAdd, Nat.reduceSub, Nat.reduceMul, Nat.reduceLeDiff, reduceIte, reduceCtorEq, Nat.reduceBEq, Nat.reduceEqDiff, hm, hd, e2, ix1, hcv, hv, d0]
   exact ih H' l _ _ _ _ _ _ _ _ _ _ _ _ _ _ _ _ _ _ _ _ _ _ A g
  ·rw [h1] at hv
   have hne : x.2.vers ≠ [] := fun e => by rw [e] at hp; simp at hp
   rw [if_neg hne, List.map_append] at ih
   have d0 : decide ((x.2.vers.length : Int) > 0) = true := decide_eq_true (by omega)
   have dl := looseF_len ((L.map (·.2)).take i) 0
   rw [List.length_take, List.length_map] at dl
   obtain ⟨l2, H2, A2, g2, ea⟩ := GR.app (k := 1) (by omega) (d := ty 1 false 8 [.int .i64 0]) rfl (by decide) (P := H) (H := H' ++ [.rw [.int .i64 (i : Int)]]) (A.trans ⟨_, rfl⟩) (g.mono _) (fun r hr => by obtain ⟨n, _, rfl⟩ := List.mem_map.1 hr; rfl) (y := .sl H'.length 0 1 1 1 true) (r := [.int .i64 (i : Int)]) rfl
    (by unfold srcCells readN cellsOf; simp) rfl (by rw [List.length_map]; unfold roomy; show (_ + 1) * 8 ≤ _; omega)
   simp -implicitDefEqProofs (maxSteps := 5000000) only [go_sem, Nat.reduceShiftRight, Nat.reduceAnd, Nat.reduceBNe, Int.reduceEq, Nat.reduceAdd, Nat.reduceSub, Nat.reduceMul, Nat.reduceLeDiff, reduceIte, reduceCtorEq, Nat.reduceBEq, Nat.reduceEqDiff, hm, hd, e2, ix1, hcv, hv, d0, ea]
   exact ih H2 l2 _ _ _ _ _ _ _ _ _ _ _ _ _ _ _ _ _ _ _ _ _ _ A2 g2
set_option maxHeartbeats 2000000 in
theorem refLooseC : ∃ l H', Adds H H' ∧ IS H' l ((looseF (L.map (·.2)) 0).map fun (n : Nat) => (n : Int)) ∧ (∀ b, slb l = some b → H.length ≤ b) ∧ (envL prog).call 65 [.ptr p 0] H = some (l, H') := by
 have sl0 := refLooseL m (k := L.length) (i := 0) (H' := H) (l := .nilSl)
 rw [show ((0 : Nat) : Int) = 0 from rfl] at sl0
 have o : Outs (runC (envL prog) (b65 (envL prog)) ([.ptr p 0] ++ List.replicate (28 - [AV.ptr p 0].length) .undef) H) fun e' t H' => ∃ l, Adds H H' ∧ GR 1 H' H.length l ((looseF (L.map (·.2)) 0).map fun (n : Nat) => [AV.int .i64 (n : Int)]) ∧ fin [.tmp 2] (some (e', t, H')) = some (l, H') := by
  unfold b65
  generalize hQ : (fun (e' : Ex) (t : T) (H' : AHeap) => ∃ l, Adds H H' ∧ GR 1 H' H.length l ((looseF (L.map (·.2)) 0).map fun (n : Nat) => [AV.int .i64 (n : Int)]) ∧ fin [.tmp 2] (some (e', t, H')) = some (l, H')) = Q
  simp -implicitDefEqProofs (maxSteps := 5000000) only [go_sem, Nat.reduceShiftRight, Nat.reduceAnd, Nat.reduceBNe, Int.reduceEq, Nat.reduceAdd, Nat.reduceSub, Nat.reduceMul, Nat.reduceLeDiff, reduceIte, reduceCtorEq, Nat.reduceBEq, Nat.reduceEqDiff, runC_loop]
  unfold LQ at sl0
  generalize (envL prog).loop (runC (envL prog) (l65x0 (envL prog))) = L0 at sl0 ⊢
  refine outs_ctx (fun r => seqR (blockR 0 r) _) (sl0 _ _ _ _ _ _ _ _ _ _ _ _ _ _ _ _ _ _ _ _ _ _ _ _ _ (Adds.refl H) (.inl ⟨rfl, rfl⟩) (by omega)) ?_
  rintro e' t H' ⟨rfl, A, l, g, k, rfl⟩
  simp -implicitDefEqProofs (maxSteps := 5000000) only [go_sem, Nat.reduceShiftRight, Nat.reduceAnd, Nat.reduceBNe, Int.reduceEq, Nat.reduceAdd, Nat.reduceSub, Nat.reduceMul, Nat.reduceLeDiff, reduceIte, reduceCtorEq, Nat.reduceBEq, Nat.reduceEqDiff, outs_normal]
  subst hQ
  refine ⟨l, A, g, ?_⟩
  simp -implicitDefEqProofs (maxSteps := 5000000) only [go_sem, Nat.reduceShiftRight, Nat.reduceAnd, Nat.reduceBNe, Int.reduceEq, Nat.reduceAdd, Nat.reduceSub, Nat.reduceMul, Nat.reduceLeDiff, reduceIte, reduceCtorEq, Nat.reduceBEq, Nat.reduceEqDiff]
 obtain ⟨e', t, H', hr, l, A, g, hf⟩ := o
 have e1 : (looseF (L.map (·.2)) 0).map (fun (n : Nat) => [AV.int .i64 (n : Int)]) = ((looseF (L.map (·.2)) 0).map fun (n : Nat) => (n : Int)).map fun z => [AV.int .i64 z] := by rw [List.map_map]; rfl
 have hb : ∀ b, slb l = some b → H.length ≤ b := fun b hb => by
  rcases g with ⟨_, rfl⟩ | ⟨_, b', hb', rfl, _⟩
  ·cases hb
  ·injection hb with hb; subst hb; exact hb'
 rw [c65, hr, hf]
 rcases g.under with ⟨h0, rfl⟩ | hu
 ·rw [e1] at g
  refine ⟨_, H, Adds.refl H, ?_, hb, A.trimS (by simp [AV.under])⟩
  have : (looseF (L.map (·.2)) 0).map (fun (n : Nat) => (n : Int)) = [] := by rw [e1] at h0; simpa using h0
  rw [this]; exact IS.nil _
 ·rw [e1] at g
  exact ⟨l, H', A, g.is, hb, trim_keep hu⟩
end
end Go.Proofs.Ytipedaadjfhdnaa.G06
end
section
namespace Go.Proofs.Ytipedaadjfhdnaa.G06
open Go Go.Proofs.Ytipedaadjfhdnaa.Eng
theorem ver_at {H : AHeap} {v : AV} {s : Sec} (g : GR 64 H 0 v (verR s)) (ok : s.Ok) {k : Nat} {z : List Int} (hk : s.vers[k]? = some z) : ∃ b cs, v = .sl b 0 64 s.vers.length s.vers.length false ∧ cellsOf H b = some cs ∧ k * 64 + 64 ≤ cs.length ∧ (cs.drop (k * 64)).take 64 = u8s z := by
 have hl : (verR s).length = s.vers.length := by unfold verR; simp
 rcases g with ⟨h1, _⟩ | ⟨h1, b, _, rfl, hH⟩
 ·have : s.vers = [] := by unfold verR at h1; simpa using h1
  rw [this] at hk; simp at hk
 ·obtain ⟨q1, q2⟩ := rows_sub (verR_len ok) (get_map u8s hk) 0 64 (by omega)
  rw [Nat.add_zero] at q1 q2
  refine ⟨b, _, by rw [hl], cells_rw hH, q2, ?_⟩
  rw [q1, List.drop_zero]
  exact u8s_take (ok.v z (List.mem_of_getElem? hk)).1
theorem IS.fr {H H' : AHeap} {F : Nat → Prop} {v : AV} {zs : List Int} (h : IS H v zs) (a : Fr H H' F) (hn : ∀ b, slb v = some b → ¬ F b) : IS H' v zs := by
 rcases h with h | ⟨b, o, l, e, cs, rfl, hc, h⟩
 ·exact .inl h
 ·exact .inr ⟨b, o, l, e, cs, rfl, a.cells hc (hn b rfl), h⟩
set_option maxHeartbeats 4000000 in
theorem refCrashL {H1 : AHeap} {p s v c : Nat} {L : List (AV × Sec)} {zs : List Int} {w l : AV} (hn : L.length ≤ 4096) (hv : ∀ x ∈ L, x.2.vers = [] → x.1 = .nilSl) (hl : IS H1 l ((looseF (L.map (·.2)) 0).map fun (n : Nat) => (n : Int))) (hb : BS H1 w zs) (hu : IsU8 zs) (nl : ∀ b, slb l = some b → b ≠ s ∧ b ≠ v) (nw : ∀ b, slb w = some b → b ≠ s ∧ b ≠ v)
  (x2 x3 x8 x9 : AV) : ∀ (k j t : Nat) (G : AHeap) (j6 j7 j10 j11 j12 j13 j14 j15 j16 j17 j18 j19 j20 j21 j22 j23 j24 j25 j26 j27 j28 j29 j30 j31 j32 j33 j34 j35 j36 j37 j38 j39 j40 j41 j42 j43 j44 j45 j46 j47 j48 j49 j50 j51 j52 j53 j54 j55 j56 j57 j58 j59 j60 j61 j62 j63 : AV), RD G p s v c (crL L zs t) → KeepB H1 G [s, v] → t ≤ L.length → looseF ((L.map (·.2)).drop t) t = (looseF (L.map (·.2)) 0).drop j → crashR (L.map (·.2)) zs t = zs.drop j → j + k = (looseF (L.map (·.2)) 0).length →
  Outs (LQ l45x0 [.ptr p 0, w, x2, x3, l, .int .i64 (j : Int), j6, j7, x8, x9, j10, j11, j12, j13, j14, j15, j16, j17, j18, j19, j20, j21, j22, j23, j24, j25, j26, j27, j28, j29, j30, j31, j32, j33, j34, j35, j36, j37, j38, j39, j40, j41, j42, j43, j44, j45, j46, j47, j48, j49, j50, j51, j52, j53, j54, j55, j56, j57, j58, j59, j60, j61, j62, j63] G) fun e t G' => e = .exit 0 ∧ RD G' p s v c (crL L zs L.length) ∧ KeepB H1 G' [s, v] ∧ ∃ k : Nat → AV, t = [.ptr p 0, w, x2, x3, l, (k 5), (k 6), (k 7), x8, x9, (k 10), (k 11), (k 12), (k 13), (k 14), (k 15), (k 16), (k 17), (k 18), (k 19), (k 20), (k 21), (k 22), (k 23), (k 24), (k 25), (k 26), (k 27), (k 28), (k 29), (k 30), (k 31), (k 32), (k 33), (k 34), (k 35), (k 36), (k 37), (k 38), (k 39), (k 40), (k 41), (k 42), (k 43), (k 44), (k 45), (k 46), (k 47), (k 48), (k 49), (k 50), (k 51), (k 52), (k 53), (k 54), (k 55), (k 56), (k 57), (k 58), (k 59), (k 60), (k 61), (k 62), (k 63)] := by
 intro k
 obtain ⟨Lp, hL⟩ : ∃ L, L = LQ l45x0 := ⟨_, rfl⟩
 have lo := loop_open hL
 rw [← hL]
 have hll := hl.len
 rw [List.length_map] at hll
 have jn := looseF_len (L.map (·.2)) 0
 rw [List.length_map] at jn
 induction k with
 | zero =>
  intro j t G j6 j7 j10 j11 j12 j13 j14 j15 j16 j17 j18 j19 j20 j21 j22 j23 j24 j25 j26 j27 j28 j29 j30 j31 j32 j33 j34 j35 j36 j37 j38 j39 j40 j41 j42 j43 j44 j45 j46 j47 j48 j49 j50 j51 j52 j53 j54 j55 j56 j57 j58 j59 j60 j61 j62 j63 mg kg ht hJ hR hj
  obtain rfl : j = (looseF (L.map (·.2)) 0).length := by omega
  rw [List.drop_length] at hJ
  have hd : decide (((looseF (L.map (·.2)) 0).length : Int) < ((looseF (L.map (·.2)) 0).length : Int)) = false := by simp
  have hfin : crL L zs t = crL L zs L.length := by
   rcases loose_next (zs := zs) hv (L.length - t) t (by omega) with ⟨_, q⟩ | ⟨i, x, _, _, _, q, _⟩
   ·exact q
   ·rw [hJ] at q; cases q
  rw [hfin] at mg
  rw [lo]
  unfold l45x0
  simp -implicitDefEqProofs (maxSteps := 5000000) only [go_sem, Nat.reduceShiftRight, Nat.reduceAnd, Nat.reduceBNe, Int.reduceEq, Nat.reduceAdd, Nat.reduceSub, Nat.reduceMul, Nat.reduceLeDiff, reduceIte, reduceCtorEq, Nat.reduceBEq, Nat.reduceEqDiff, hll, hd, seqR_exit', outs_normal]
  exact ⟨mg, kg, exF rfl⟩
 | succ k ih =>
  intro j t G j6 j7 j10 j11 j12 j13 j14 j15 j16 j17 j18 j19 j20 j21 j22 j23 j24 j25 j26 j27 j28 j29 j30 j31 j32 j33 j34 j35 j36 j37 j38 j39 j40 j41 j42 j43 j44 j45 j46 j47 j48 j49 j50 j51 j52 j53 j54 j55 j56 j57 j58 j59 j60 j61 j62 j63 mg kg ht hJ hR hj
  have hjl : j < (looseF (L.map (·.2)) 0).length := by omega
  have hJd := List.drop_eq_getElem_cons hjl
  rcases loose_next (zs := zs) hv (L.length - t) t (by omega) with ⟨q, _⟩ | ⟨i, x, hti, hx, h1, hq, hc, hcR⟩
  ·rw [hJ, hJd] at q; cases q
  have hJe := hJ
  rw [hq, hJd] at hJe
  injection hJe with he hJ'
  have hJi : ((looseF (L.map (·.2)) 0).map fun (n : Nat) => (n : Int))[j]? = some (i : Int) := by
   rw [List.getElem?_map, List.getElem?_eq_getElem hjl, ← he]; rfl
  rw [hc] at mg
  have hRi : crashR (L.map (·.2)) zs i = zs.drop j := hcR.trans hR
  have hlt : i < L.length := (List.getElem?_eq_some_iff.1 hx).1
  have hx2 : (crL L zs i)[i]? = some x := by rw [crL_get hlt, hx]
  have hm := mg.ptr
  rw [crL_len L zs (by omega)] at hm
  obtain ⟨_, ⟨cv, hcv, hvx⟩, _, _⟩ := mg.row hx2
  obtain ⟨gv, ok, cap⟩ := mg.vs.at hx2
  have cb := mg.vs.cb
  obtain ⟨hvl, _⟩ := ver_read gv ok
  have nv : 0 < x.2.vers.length := by cases hq : x.2.vers with | nil => exact absurd hq h1 | cons _ _ => simp
  have fr := Fr.keep kg
  have hl2 := IS.fr hl fr fun b hb hm => by simp only [List.mem_cons, List.not_mem_nil, or_false] at hm; have := nl b hb; omega
  have hb2 := BS.fr hb fr fun b hb hm => by simp only [List.mem_cons, List.not_mem_nil, or_false] at hm; have := nw b hb; omega
  obtain ⟨ai, ia, la⟩ := hl2.idx hJi .i64
  have hwl := hb2.len
  have hd : decide ((j : Int) < ((looseF (L.map (·.2)) 0).length : Int)) = true := decide_eq_true (by omega)
  have e2 : IntKind.i64.wrap ((j : Int) + 1) = ((j + 1 : Nat) : Int) := by rw [wrap64 (by omega) (by omega)]; omega
  have ix1 := idx_nat v 1 L.length L.length i true .i64 (by omega) hlt
  rw [Nat.mul_one] at ix1
  have hnext := crashR_drop hx h1 hRi
  have hcr := crL_step (zs := zs) hx
  rw [hRi] at hcr
  have go : ∀ (G' : AHeap) (y : List Int), RD G' p s v c ((crL L zs i).set i (.nilSl, ⟨y, []⟩)) → KeepB G G' [s, v] → crashSec (zs.drop j) x.2 = ⟨y, []⟩ → RD G' p s v c (crL L zs (i + 1)) ∧ KeepB H1 G' [s, v] := fun G' y mG kG hs => by
   rw [hcr, hs]; exact ⟨mG, kg.trans kG⟩
  have ih := fun G' y j6 j7 j10 j11 j12 j13 j14 j15 j16 j17 j18 j19 j20 j21 j22 j23 j24 j25 j26 j27 j28 j29 j30 j31 j32 j33 j34 j35 j36 j37 j38 j39 j40 j41 j42 j43 j44 j45 j46 j47 j48 j49 j50 j51 j52 j53 j54 j55 j56 j57 j58 j59 j60 j61 j62 j63 mG kG hs => ih (j + 1) (i + 1) G' j6 j7 j10 j11 j12 j13 j14 j15 j16 j17 j18 j19 j20 j21 j22 j23 j24 j25 j26 j27 j28 j29 j30 j31 j32 j33 j34 j35 j36 j37 j38 j39 j40 j41 j42 j43 j44 j45 j46 j47 j48 j49 j50 j51 j52 j53 j54 j55 j56 j57 j58 j59 j60 j61 j62 j63 (go G' y mG kG hs).1 (go G' y mG kG hs).2 (by omega) hJ' hnext (by omega)
  obtain ⟨mN, wN⟩ := mg.setN hx2
  have kN : KeepB G (G.set v (.rw (((crL L zs i).set i (.nilSl, (⟨x.2.there, []⟩ : Sec))).map (·.1)))) [s, v] := KeepB.set _ _ _ _ (by simp)
  by_cases hjz : j < zs.length
  ·have hz := List.getElem?_eq_getElem hjz
   have hdz := List.drop_eq_getElem_cons hjz
   have hu0 := hu _ (List.getElem_mem hjz)
   generalize zs[j] = z0 at hz hdz hu0
   obtain ⟨az, iz, lz⟩ := hb2.idx hz .i64
   have dz : decide ((j : Int) < (zs.length : Int)) = true := decide_eq_true (by omega)
   have md0 := Int.emod_nonneg z0 (show ((x.2.vers.length : Int) + 1) ≠ 0 by omega)
   have md1 := Int.emod_lt_of_pos z0 (show 0 < ((x.2.vers.length : Int) + 1) by omega)
   obtain ⟨q, hq'⟩ : ∃ q : Nat, z0 % ((x.2.vers.length : Int) + 1) = q := ⟨(z0 % ((x.2.vers.length : Int) + 1)).toNat, by omega⟩
   have hrem : binV .rem .none (.int .i64 z0) (.int .i64 ((x.2.vers.length + 1 : Nat) : Int)) = some (.int .i64 (q : Int)) := by
    rw [int_rem _ _ _ _ (by omega), Int.tmod_eq_emod_of_nonneg hu0.1, ← hq']; rfl
   have wz : IntKind.i64.wrap z0 = z0 := wrap64 (by omega) (by omega)
   have wn : IntKind.i64.wrap ((x.2.vers.length : Int) + 1) = ((x.2.vers.length + 1 : Nat) : Int) := by rw [wrap64 (by omega) (by omega)]; omega
   have hpk : pickN (zs.drop j) x.2.vers.length = q := by rw [hdz]; show (z0 % ((x.2.vers.length : Int) + 1)).toNat = q; rw [hq', Int.toNat_natCast]
   by_cases hq0 : q = 0
   ·subst hq0
    have d0 : decide ((((0 : Nat) : Int)) > 0) = false := rfl
    have hs : crashSec (zs.drop j) x.2 = ⟨x.2.there, []⟩ := by unfold crashSec; rw [if_neg h1, hpk]; rfl
    rw [lo]
    unfold l45x0
    simp -implicitDefEqProofs (maxSteps := 5000000) only [go_sem, Nat.reduceShiftRight, Nat.reduceAnd, Nat.reduceBNe, Int.reduceEq, Nat.reduceAdd, Nat.reduceSub, Nat.reduceMul, Nat.reduceLeDiff, reduceIte, reduceCtorEq, Nat.reduceBEq, Nat.reduceEqDiff, hll, hd, ia, la, hwl, dz, iz, lz, wz, hm, ix1, hcv, hvx, hvl, wn, hrem, d0, e2, store_one, wN]
    exact ih _ x.2.there _ _ _ _ _ _ _ _ _ _ _ _ _ _ _ _ _ _ _ _ _ _ _ _ _ _ _ _ _ _ _ _ _ _ _ _ _ _ _ _ _ _ _ _ _ _ _ _ _ _ _ _ _ _ _ _ mN kN hs
   ·obtain ⟨y, hy⟩ : ∃ y, x.2.vers[q - 1]? = some y := ⟨_, List.getElem?_eq_getElem (by omega)⟩
    have oy : B64 y := ok.v y (List.mem_of_getElem? hy)
    obtain ⟨bb, C, hvb, hC, hle, htk⟩ := ver_at gv ok hy
    have d0 : decide ((q : Int) > 0) = true := decide_eq_true (by omega)
    have e1 : IntKind.i64.wrap ((q : Int) - 1) = ((q - 1 : Nat) : Int) := by rw [wrap64 (by omega) (by omega)]; omega
    have ixv := idx_nat bb 64 x.2.vers.length x.2.vers.length (q - 1) false .i64 (by omega) (by omega)
    have ixs := idx_nat s 64 L.length L.length i true .i64 (by omega) hlt
    have hs : crashSec (zs.drop j) x.2 = ⟨y, []⟩ := by
     unfold crashSec
     rw [if_neg h1, hpk]
     obtain ⟨q', rfl⟩ : ∃ q', q = q' + 1 := ⟨q - 1, by omega⟩
     rw [List.getElem?_cons_succ]
     rw [Nat.add_sub_cancel] at hy
     rw [hy]; rfl
    obtain ⟨m1, w1⟩ := mg.setT hx2 oy
    have hx3 : ((crL L zs i).set i (x.1, (⟨y, x.2.vers⟩ : Sec)))[i]? = some (x.1, ⟨y, x.2.vers⟩) := List.getElem?_set_self (by rw [crL_len L zs (by omega)]; exact hlt)
    obtain ⟨m2, w2⟩ := m1.setN hx3
    rw [List.set_set] at m2 w2
    have k1 : KeepB G (G.set s (.rw (((crL L zs i).set i (x.1, (⟨y, x.2.vers⟩ : Sec))).map thereR).flatten)) [s, v] := KeepB.set _ _ _ _ (by simp)
    have p1 := m1.ptr
    rw [List.length_set, crL_len L zs (by omega)] at p1
    generalize hG1 : G.set s (.rw (((crL L zs i).set i (x.1, (⟨y, x.2.vers⟩ : Sec))).map thereR).flatten) = G1 at *
    have w2' : writeN G1 v i [.nilSl] = some (G1.set v (.rw (((crL L zs i).set i (.nilSl, (⟨y, []⟩ : Sec))).map (·.1)))) := w2
    have k2 : KeepB G (G1.set v (.rw (((crL L zs i).set i (.nilSl, (⟨y, []⟩ : Sec))).map (·.1)))) [s, v] := k1.trans (KeepB.set _ _ _ _ (by simp))
    have w64 : (u8s y).length = 64 := by rw [u8s_len]; exact oy.1
    rw [hvb] at hvx
    rw [lo]
    unfold l45x0
    simp -implicitDefEqProofs (maxSteps := 5000000) only [go_sem, Nat.reduceShiftRight, Nat.reduceAnd, Nat.reduceBNe, Int.reduceEq, Nat.reduceAdd, Nat.reduceSub, Nat.reduceMul, Nat.reduceLeDiff, reduceIte, reduceCtorEq, Nat.reduceBEq, Nat.reduceEqDiff, hll, hd, ia, la, hwl, dz, iz, lz, wz, hm, p1, ix1, ixs, ixv, hcv, hvx, wn, hrem, d0, e1, hC, hle, htk, e2, store_one, w64, w1, w2']
    exact ih _ y _ _ _ _ _ _ _ _ _ _ _ _ _ _ _ _ _ _ _ _ _ _ _ _ _ _ _ _ _ _ _ _ _ _ _ _ _ _ _ _ _ _ _ _ _ _ _ _ _ _ _ _ _ _ _ _ m2 k2 hs
  ·have dz : decide ((j : Int) < (zs.length : Int)) = false := decide_eq_false (by omega)
   have hs : crashSec (zs.drop j) x.2 = ⟨x.2.there, []⟩ := by
    unfold crashSec
    rw [if_neg h1, List.drop_of_length_le (by omega)]; rfl
   rw [lo]
   unfold l45x0
   simp -implicitDefEqProofs (maxSteps := 5000000) only [go_sem, Nat.reduceShiftRight, Nat.reduceAnd, Nat.reduceBNe, Int.reduceEq, Nat.reduceAdd, Nat.reduceSub, Nat.reduceMul, Nat.reduceLeDiff, reduceIte, reduceCtorEq, Nat.reduceBEq, Nat.reduceEqDiff, hll, hd, ia, la, hwl, dz, hm, ix1, e2, store_one, wN]
   exact ih _ x.2.there _ _ _ _ _ _ _ _ _ _ _ _ _ _ _ _ _ _ _ _ _ _ _ _ _ _ _ _ _ _ _ _ _ _ _ _ _ _ _ _ _ _ _ _ _ _ _ _ _ _ _ _ _ _ _ _ mN kN hs
set_option maxHeartbeats 4000000 in
theorem refCrashC {H : AHeap} {p s v c : Nat} {L : List (AV × Sec)} (m : RD H p s v c L) {w : AV} {zs : List Int} (hb : BS H w zs) (hu : IsU8 zs) (nw : ∀ b, slb w = some b → b ≠ s ∧ b ≠ v) :
  ∃ H', RD H' p s v c ((crashS (L.map (·.2)) zs).map (fun s => (AV.nilSl, s))) ∧ KeepB H H' [s, v] ∧ (envL prog).call 45 [.ptr p 0, w] H = some (.tup [], H') := by
 have hp := lt_of_cells m.ptr
 have hs := lt_of_at m.bs
 have hv := lt_of_at m.bv
 obtain ⟨l, H1, A, hl, hlb, el⟩ := refLooseC m
 have m1 : RD H1 p s v c L := by obtain ⟨G, rfl⟩ := A; exact m.adds G
 have l0 := refCrashL (p := p) (c := c) m.sz (fun x hx h => nil_of (m.vs.ver x hx) h) hl (A.bs hb) hu (fun b h => by have := hlb b h; omega) nw (k := (looseF (L.map (·.2)) 0).length) (j := 0) (t := 0) (G := H1)
 rw [show ((0 : Nat) : Int) = 0 from rfl] at l0
 have c0 : crL L zs 0 = L := by unfold crL; simp
 have o : Outs (runC (envL prog) (b45 (envL prog)) ([.ptr p 0, w] ++ List.replicate (64 - [AV.ptr p 0, w].length) .undef) H) fun e' t K' => (RD K' p s v c (crL L zs L.length) ∧ KeepB H1 K' [s, v]) ∧ fin [] (some (e', t, K')) = some (.tup [], K') := by
  unfold b45
  generalize hQ : (fun (e' : Ex) (t : T) (K' : AHeap) => (RD K' p s v c (crL L zs L.length) ∧ KeepB H1 K' [s, v]) ∧ fin [] (some (e', t, K')) = some (AV.tup [], K')) = Q
  simp -implicitDefEqProofs (maxSteps := 5000000) only [go_sem, Nat.reduceShiftRight, Nat.reduceAnd, Nat.reduceBNe, Int.reduceEq, Nat.reduceAdd, Nat.reduceSub, Nat.reduceMul, Nat.reduceLeDiff, reduceIte, reduceCtorEq, Nat.reduceBEq, Nat.reduceEqDiff, runC_loop, el]
  unfold LQ at l0
  generalize (envL prog).loop (runC (envL prog) (l45x0 (envL prog))) = L0 at l0 ⊢
  refine outs_ctx (fun r => blockR 0 r) (l0 _ _ _ _ _ _ _ _ _ _ _ _ _ _ _ _ _ _ _ _ _ _ _ _ _ _ _ _ _ _ _ _ _ _ _ _ _ _ _ _ _ _ _ _ _ _ _ _ _ _ _ _ _ _ _ _ _ _ _ _ (by rw [c0]; exact m1) (KeepB.refl _ _) (Nat.zero_le _) (by simp) (by cases L <;> rfl) (by omega)) ?_
  rintro e t G ⟨rfl, mg, kg, k, rfl⟩
  simp -implicitDefEqProofs (maxSteps := 5000000) only [go_sem, Nat.reduceShiftRight, Nat.reduceAnd, Nat.reduceBNe, Int.reduceEq, Nat.reduceAdd, Nat.reduceSub, Nat.reduceMul, Nat.reduceLeDiff, reduceIte, reduceCtorEq, Nat.reduceBEq, Nat.reduceEqDiff, outs_normal]
  subst hQ
  refine ⟨⟨mg, kg⟩, ?_⟩
  simp -implicitDefEqProofs (maxSteps := 5000000) only [go_sem, Nat.reduceShiftRight, Nat.reduceAnd, Nat.reduceBNe, Int.reduceEq, Nat.reduceAdd, Nat.reduceSub, Nat.reduceMul, Nat.reduceLeDiff, reduceIte, reduceCtorEq, Nat.reduceBEq, Nat.reduceEqDiff]
 obtain ⟨e', t, K', hr, ⟨mk, kk⟩, hf⟩ := o
 rw [crL_all] at mk
 have hAl := A.len
 have hk1 := kk.1
 have old : ∀ b, b < H.length → b ≠ s → b ≠ v → K'[b]? = H[b]? := fun b hb h1 h2 => by
  rw [kk.2 b (by simp [h1, h2])]
  obtain ⟨G, rfl⟩ := A
  exact List.getElem?_append_left hb
 have fK : Fr H K' (fun b => b = s ∨ b = v) := ⟨by omega, fun b hb hn => old b hb (fun e => hn (.inl e)) (fun e => hn (.inr e))⟩
 refine ⟨K'.take H.length, ⟨?_, ?_, ?_, m.n1, m.n2, m.n3, by simp [crashS_len]; exact m.sz, ⟨m.vs.cb, fun x hx => ?_, mk.vs.ok, mk.vs.cap, mk.vs.out, mk.vs.inj⟩⟩, ⟨take_len fK.1, fun b hb => ?_⟩, ?_⟩
 ·rw [take_cells hp]; exact mk.ptr
 ·rw [take_get hs]; exact mk.bs
 ·rw [take_get hv]; exact mk.bv
 ·obtain ⟨y, _, rfl⟩ := List.mem_map.1 hx
  rcases mk.vs.ver _ hx with h | ⟨_, b', _, h0, _⟩
  ·exact .inl h
  ·cases h0
 ·by_cases hlt : b < H.length
  ·exact (take_get hlt).trans (fK.2 b hlt (by simpa using hb))
  ·rw [List.getElem?_eq_none (by rw [take_len fK.1]; omega), List.getElem?_eq_none (by omega)]
 ·rw [c45, hr, hf]
  refine trim_take fK.1 rfl fun b k' hb' hk => ?_
  by_cases e : b = s
  ·subst e
   rw [mk.bs] at hk
   injection hk with hk; subst hk
   refine .inr fun a ha => ?_
   obtain ⟨r, hr, ha⟩ := List.mem_flatten.1 ha
   obtain ⟨x, _, rfl⟩ := List.mem_map.1 hr
   exact u8s_under _ _ a ha
  ·by_cases e2 : b = v
   ·subst e2
    rw [mk.bv] at hk
    injection hk with hk; subst hk
    refine .inr fun a ha => ?_
    obtain ⟨x, hx, rfl⟩ := List.mem_map.1 ha
    obtain ⟨y, _, rfl⟩ := List.mem_map.1 hx
    rfl
   ·exact .inl (by rw [← old b hb' e e2]; exact hk)
end Go.Proofs.Ytipedaadjfhdnaa.G06
end
section
namespace Go.Proofs.Ytipedaadjfhdnaa.G06
open Go Go.Proofs.Ytipedaadjfhdnaa.Eng
section
variable {H : AHeap} {p c : Nat} {x y : Pl} {L0 L1 : List (AV × Sec)} {r : RgS} (m : RQ H p x y c L0 L1 r)
include m
theorem rq_cells (B : AHeap) : cellsOf (H ++ B) p = some (rgCells x.p y.p r) := cells_old (cells_rw m.blk)
set_option maxHeartbeats 2000000 in
theorem rqHasC (dev i : Int) : (envL prog).call 46 [.ptr p 0, .int .i64 dev, .int .i64 i] H = some (.bool (decide (0 ≤ i ∧ i < ((r.dk dev).length : Int))), H) := by
 have hc := cells_rw m.blk
 unfold rgCells at hc
 rw [c46]
 unfold b46
 by_cases h0 : dev = 0
 ·subst h0
  have e := refHasC m.k0 i
  rw [show L0.length = (r.dk 0).length by rw [show r.dk 0 = r.a from rfl, ← m.e0, List.length_map]] at e
  have d1 : decide ((0 : Int) ≥ 0) = true := rfl
  have d2 : decide ((0 : Int) ≤ 1) = true := rfl
  simp -implicitDefEqProofs (maxSteps := 5000000) only [go_sem, Nat.reduceShiftRight, Nat.reduceAnd, Nat.reduceBNe, Int.reduceEq, Nat.reduceAdd, Nat.reduceSub, Nat.reduceMul, Nat.reduceLeDiff, reduceIte, reduceCtorEq, Nat.reduceBEq, Nat.reduceEqDiff, wrap64, runC_loop, runC_range, callF_fn, callV_fn, callV_yld, yield_eq, yieldBody, yieldRaw, roundMid, roundEnd, rangeEnd, Bool.not_not, put_cons, put_nil, trim_same, at_zero, at_add, set_zero, set_add, store_one, write_zero, write_add, write_head, write_succ, splice_one, splice_more, List.drop_nil, List.take_nil, cell_int, cell_bool, fillS, splice_one, idxA, Ex.isNormal, List.set_nil, List.length_set, List.all_cons, List.all_nil, Bool.and_self, and_self, true_and, and_true, List.getElem?_nil, Int.reduceLT, Int.reduceLE, Int.reduceToNat, Int.toNat_zero, Int.toNat_one, Int.reduceAdd, Int.reduceSub, Int.reduceMul, Int.reduceNeg, Int.reduceBEq, Int.reduceBNe, Int.reduceGE, Int.reduceGT, Nat.reduceLT, trim_keep, under_fn, under_ptr, under_sl, Nat.lt_irrefl, not_lt_add, trim_tail, keepOk, ABlk.vals, Int.cast_ofNat_Int, decide_true, decide_false, List.all_cons, List.all_nil, Nat.zero_mul, Nat.mul_one, Nat.one_mul, idx_arr, hc, e, d1, d2]
 by_cases h1 : dev = 1
 ·subst h1
  have e := refHasC m.k1 i
  rw [show L1.length = (r.dk 1).length by rw [show r.dk 1 = r.b from rfl, ← m.e1, List.length_map]] at e
  have d1 : decide ((1 : Int) ≥ 0) = true := rfl
  have d2 : decide ((1 : Int) ≤ 1) = true := rfl
  simp -implicitDefEqProofs (maxSteps := 5000000) only [go_sem, Nat.reduceShiftRight, Nat.reduceAnd, Nat.reduceBNe, Int.reduceEq, Nat.reduceAdd, Nat.reduceSub, Nat.reduceMul, Nat.reduceLeDiff, reduceIte, reduceCtorEq, Nat.reduceBEq, Nat.reduceEqDiff, wrap64, runC_loop, runC_range, callF_fn, callV_fn, callV_yld, yield_eq, yieldBody, yieldRaw, roundMid, roundEnd, rangeEnd, Bool.not_not, put_cons, put_nil, trim_same, at_zero, at_add, set_zero, set_add, store_one, write_zero, write_add, write_head, write_succ, splice_one, splice_more, List.drop_nil, List.take_nil, cell_int, cell_bool, fillS, splice_one, idxA, Ex.isNormal, List.set_nil, List.length_set, List.all_cons, List.all_nil, Bool.and_self, and_self, true_and, and_true, List.getElem?_nil, Int.reduceLT, Int.reduceLE, Int.reduceToNat, Int.toNat_zero, Int.toNat_one, Int.reduceAdd, Int.reduceSub, Int.reduceMul, Int.reduceNeg, Int.reduceBEq, Int.reduceBNe, Int.reduceGE, Int.reduceGT, Nat.reduceLT, trim_keep, under_fn, under_ptr, under_sl, Nat.lt_irrefl, not_lt_add, trim_tail, keepOk, ABlk.vals, Int.cast_ofNat_Int, decide_true, decide_false, List.all_cons, List.all_nil, Nat.zero_mul, Nat.mul_one, Nat.one_mul, idx_arr, hc, e, d1, d2]
 have ed : decide (0 ≤ i ∧ i < ((r.dk dev).length : Int)) = false := decide_eq_false (by unfold RgS.dk; rw [if_neg h0, if_neg h1]; simp)
 rw [ed]
 by_cases hd : dev ≥ 0
 ·have d1 := decide_eq_true hd
  have d2 : decide (dev ≤ 1) = false := decide_eq_false (by omega)
  simp -implicitDefEqProofs (maxSteps := 5000000) only [go_sem, Nat.reduceShiftRight, Nat.reduceAnd, Nat.reduceBNe, Int.reduceEq, Nat.reduceAdd, Nat.reduceSub, Nat.reduceMul, Nat.reduceLeDiff, reduceIte, reduceCtorEq, Nat.reduceBEq, Nat.reduceEqDiff, hc, d1, d2]
 ·have d1 := decide_eq_false hd
  simp -implicitDefEqProofs (maxSteps := 5000000) only [go_sem, Nat.reduceShiftRight, Nat.reduceAnd, Nat.reduceBNe, Int.reduceEq, Nat.reduceAdd, Nat.reduceSub, Nat.reduceMul, Nat.reduceLeDiff, reduceIte, reduceCtorEq, Nat.reduceBEq, Nat.reduceEqDiff, hc, d1]
theorem rqDev {dev : Int} (h : dev = 0 ∨ dev = 1) : ∃ (q : Pl) (L : List (AV × Sec)), (∀ B, ∃ o, idxAddrA 2 1 (.ptr p 0) (.int .i64 dev) = some (.ptr p o) ∧ ∃ cs, cellsOf (H ++ B) p = some cs ∧ cs[o]? = some (.ptr q.p 0)) ∧ RD H q.p q.s q.v c L ∧ L.map (·.2) = r.dk dev := by
 rcases h with rfl | rfl
 ·exact ⟨x, L0, fun B => ⟨0, rfl, _, rq_cells m B, rfl⟩, m.k0, m.e0⟩
 ·exact ⟨y, L1, fun B => ⟨1, rfl, _, rq_cells m B, rfl⟩, m.k1, m.e1⟩
set_option maxHeartbeats 4000000 in
theorem rqReadC (dev i : Int) : (envL prog).call 59 [.ptr p 0, .int .i64 dev, .int .i64 i] H = some (.tup [.agg (u8s (r.read dev i).1), .int .i64 (r.read dev i).2], H) := by
 have hcc := fun B => rq_cells m B
 unfold rgCells at hcc
 have z0 : splice (rep 64 (.int .u8 0)) 0 (rep 64 (.int .u8 0)) = rep 64 (.int .u8 0) := splice_rep _ 64 _ (by omega) (rep_len _ _)
 have zc := rep_cell 64 (.int .u8 0) rfl
 have zt := rep_take 64 (.int .u8 0)
 have zu := rep_under 64 H.length (.int .u8 0) rfl
 have ez : u8s zeros64 = rep 64 (.int .u8 0) := (rep_u8s 64 0).symm
 have hh := fun B => rqHasC (m.adds B) dev i
 rw [c59]
 unfold b59
 by_cases hx : 0 ≤ i ∧ i < ((r.dk dev).length : Int)
 ·have dx := decide_eq_true hx
  rw [dx] at hh
  have hdev : dev = 0 ∨ dev = 1 := by
   by_cases h0 : dev = 0
   ·exact .inl h0
   ·by_cases h1 : dev = 1
    ·exact .inr h1
    ·unfold RgS.dk at hx; rw [if_neg h0, if_neg h1] at hx; simp at hx; omega
  cases hd : r.down with
  | true =>
   have er : r.read dev i = (zeros64, 14) := by unfold RgS.read; rw [if_pos hx, hd]; rfl
   rw [er, ez]
   rw [hd] at hcc
   simp -implicitDefEqProofs (maxSteps := 5000000) only [go_sem, Nat.reduceShiftRight, Nat.reduceAnd, Nat.reduceBNe, Int.reduceEq, Nat.reduceAdd, Nat.reduceSub, Nat.reduceMul, Nat.reduceLeDiff, reduceIte, reduceCtorEq, Nat.reduceBEq, Nat.reduceEqDiff, hh, hcc, store_one, write_zero, z0, zc, zt, zu, rep_len]
  | false =>
   obtain ⟨q, L, hq, k, hl⟩ := rqDev m hdev
   obtain ⟨n, rfl⟩ : ∃ n : Nat, i = n := ⟨i.toNat, by omega⟩
   obtain ⟨w, hx1, hx2⟩ := get_sec hl (n := n) (by omega)
   have er : r.read dev (n : Int) = (w.2.last, 0) := by unfold RgS.read; rw [if_pos hx, hd, Int.toNat_natCast, hx2]; rfl
   rw [er]
   rw [hd] at hcc
   obtain ⟨o, q1, cs, q2, q3⟩ := hq [.rw (rep 64 (.int .u8 0))]
   have c2 := refReadC (k.adds [.rw (rep 64 (.int .u8 0))]) hx1
   rw [hcc] at q2
   injection q2 with q2
   subst q2
   have l64 := (k.vs.at hx1).2.1.last.1
   have w64 : (u8s w.2.last).length = 64 := by rw [u8s_len]; exact l64
   have uc := u8s_cell w.2.last
   have sp := splice_u8 (.int .u8 0) l64 (by omega)
   have tk := u8s_take l64
   have ul := u8s_all w.2.last H.length
   simp -implicitDefEqProofs (maxSteps := 5000000) only [go_sem, Nat.reduceShiftRight, Nat.reduceAnd, Nat.reduceBNe, Int.reduceEq, Nat.reduceAdd, Nat.reduceSub, Nat.reduceMul, Nat.reduceLeDiff, reduceIte, reduceCtorEq, Nat.reduceBEq, Nat.reduceEqDiff, hh, hcc, q1, q3, c2, store_one, write_zero, w64, uc, sp, tk, ul, rep_len]
 ·have dx := decide_eq_false hx
  rw [dx] at hh
  have er : r.read dev i = (zeros64, 1) := by unfold RgS.read; rw [if_neg hx]
  rw [er, ez]
  simp -implicitDefEqProofs (maxSteps := 5000000) only [go_sem, Nat.reduceShiftRight, Nat.reduceAnd, Nat.reduceBNe, Int.reduceEq, Nat.reduceAdd, Nat.reduceSub, Nat.reduceMul, Nat.reduceLeDiff, reduceIte, reduceCtorEq, Nat.reduceBEq, Nat.reduceEqDiff, hh, store_one, write_zero, z0, zc, zt, zu, rep_len]
set_option maxHeartbeats 1000000 in
theorem rqThroughC : RQ (H.set p (.rw (rgCells x.p y.p r.pass.1))) p x y c L0 L1 r.pass.1 ∧ (envL prog).call 47 [.ptr p 0] H = some (.bool (decide (r.pass.2 = 0)), H.set p (.rw (rgCells x.p y.p r.pass.1))) := by
 have ab : r.pass.1.a = r.a ∧ r.pass.1.b = r.b := by unfold RgS.pass; split <;> exact ⟨rfl, rfl⟩
 refine ⟨m.set _ ab.1 ab.2, ?_⟩
 obtain ⟨a, b, fuse, down, done⟩ := r
 have hp := lt_of_at m.blk
 have hc := cells_rw m.blk
 have t : ∀ (x : Bool) R, trim H (some (.bool x, H.set p R)) = some (.bool x, H.set p R) := fun x R => trim_same (by simp)
 have w : ∀ (G : AHeap) f dn k, G[p]? = some (.rw [.ptr x.p 0, .ptr y.p 0, .int .i64 f, .bool dn, .int .i64 k]) → (∀ z, writeN G p 2 [.int .i64 z] = some (G.set p (.rw [.ptr x.p 0, .ptr y.p 0, .int .i64 z, .bool dn, .int .i64 k]))) ∧ (∀ z, writeN G p 3 [.bool z] = some (G.set p (.rw [.ptr x.p 0, .ptr y.p 0, .int .i64 f, .bool z, .int .i64 k]))) ∧ (∀ z, writeN G p 4 [.int .i64 z] = some (G.set p (.rw [.ptr x.p 0, .ptr y.p 0, .int .i64 f, .bool dn, .int .i64 z]))) := by
  intro G f dn k h
  refine ⟨fun z => ?_, fun z => ?_, fun z => ?_⟩ <;> (rw [write_of h, if_pos ⟨by simp, rfl⟩, splice_one]; rfl)
 obtain ⟨w2, w3, w4⟩ := w H fuse down done m.blk
 have at2 : ∀ cs, cellsOf (H.set p (.rw cs)) p = some cs := fun cs => cells_rw (at_set _ _ _ hp)
 have v4 := fun f dn k => (w (H.set p (.rw [.ptr x.p 0, .ptr y.p 0, .int .i64 f, .bool dn, .int .i64 k])) f dn k (at_set _ _ _ hp)).2.2
 unfold rgCells at *
 rw [c47]
 unfold b47
 cases down with
 | true =>
  have e : RgS.pass ⟨a, b, fuse, true, done⟩ = (⟨a, b, fuse, true, done⟩, 14) := by unfold RgS.pass; rw [if_pos (.inl rfl)]
  rw [e]
  have same : H.set p (.rw [.ptr x.p 0, .ptr y.p 0, .int .i64 fuse, .bool true, .int .i64 done]) = H := by
   apply List.ext_getElem?; intro i
   by_cases ei : i = p
   ·subst ei; rw [List.getElem?_set_self hp, m.blk]; rfl
   ·rw [List.getElem?_set_ne (fun q => ei q.symm)]
  have d14 : decide ((14 : Int) = 0) = false := rfl
  have t2 : trim H (some (.bool false, H)) = some (.bool false, H) := trim_same rfl
  rw [same]
  simp -implicitDefEqProofs (maxSteps := 5000000) only [go_sem, Nat.reduceShiftRight, Nat.reduceAnd, Nat.reduceBNe, Int.reduceEq, Nat.reduceAdd, Nat.reduceSub, Nat.reduceMul, Nat.reduceLeDiff, reduceIte, reduceCtorEq, Nat.reduceBEq, Nat.reduceEqDiff, hc, t2, d14]
 | false =>
  by_cases hf : fuse = 0
  ·subst hf
   have e : RgS.pass ⟨a, b, 0, false, done⟩ = (⟨a, b, 0, true, done⟩, 14) := by unfold RgS.pass; rw [if_pos (.inr rfl)]
   have d14 : decide ((14 : Int) = 0) = false := rfl
   rw [e]
   simp -implicitDefEqProofs (maxSteps := 5000000) only [go_sem, Nat.reduceShiftRight, Nat.reduceAnd, Nat.reduceBNe, Int.reduceEq, Nat.reduceAdd, Nat.reduceSub, Nat.reduceMul, Nat.reduceLeDiff, reduceIte, reduceCtorEq, Nat.reduceBEq, Nat.reduceEqDiff, hc, store_one, w3, at2, t, d14]
  ·have f1 : (fuse == 0) = false := by simp [hf]
   by_cases hg : fuse > 0
   ·have d1 := decide_eq_true hg
    have e : RgS.pass ⟨a, b, fuse, false, done⟩ = (⟨a, b, IntKind.i64.wrap (fuse - 1), false, IntKind.i64.wrap (done + 1)⟩, 0) := by
     unfold RgS.pass; rw [if_neg (by simp [hf])]; simp [hg]
    rw [e]
    simp -implicitDefEqProofs (maxSteps := 5000000) only [go_sem, Nat.reduceShiftRight, Nat.reduceAnd, Nat.reduceBNe, Int.reduceEq, Nat.reduceAdd, Nat.reduceSub, Nat.reduceMul, Nat.reduceLeDiff, reduceIte, reduceCtorEq, Nat.reduceBEq, Nat.reduceEqDiff, hc, f1, d1, store_one, w2, at2, v4, List.set_set, t]
   ·have d1 := decide_eq_false hg
    have e : RgS.pass ⟨a, b, fuse, false, done⟩ = (⟨a, b, fuse, false, IntKind.i64.wrap (done + 1)⟩, 0) := by
     unfold RgS.pass; rw [if_neg (by simp [hf])]; simp [hg]
    rw [e]
    simp -implicitDefEqProofs (maxSteps := 5000000) only [go_sem, Nat.reduceShiftRight, Nat.reduceAnd, Nat.reduceBNe, Int.reduceEq, Nat.reduceAdd, Nat.reduceSub, Nat.reduceMul, Nat.reduceLeDiff, reduceIte, reduceCtorEq, Nat.reduceBEq, Nat.reduceEqDiff, hc, f1, d1, store_one, w4, at2, t]
theorem rqTurnW {dev : Int} {n : Nat} {z : List Int} (hdev : dev = 0 ∨ dev = 1) (hn : n < (r.dk dev).length) (hz : B64 z) (hc : c + 1 ≤ 1000000000) : ∃ (q : Pl) (o : Nat) (H' : AHeap) (L0' L1' : List (AV × Sec)), idxAddrA 2 1 (.ptr p 0) (.int .i64 dev) = some (.ptr p o) ∧ (∀ rr, (rgCells x.p y.p rr)[o]? = some (.ptr q.p 0)) ∧ (envL prog).call 48 [.ptr q.p 0, .int .i64 (n : Int), .agg (u8s z)] H = some (.tup [], H') ∧ RQ H' p x y (c + 1) L0' L1' (r.put dev ((r.dk dev).modify n fun s => ⟨s.there, s.vers ++ [z]⟩)) ∧ Fr H H' (fpW p x y L0 L1) ∧ (∀ b, fpW p x y L0' L1' b → fpW p x y L0 L1 b ∨ H.length ≤ b) ∧
  ∀ (K : AHeap) (w : RgS), K.length ≤ H.length → RQ K p x y c L0 L1 w → ∀ v : AV, trim K (some (v, H')) = some (v, H') := by
 rcases hdev with rfl | rfl
 ·have hdk : r.dk 0 = r.a := rfl
  rw [hdk] at hn ⊢
  obtain ⟨w, hx, hx2⟩ := get_sec m.e0 hn
  obtain ⟨H', v, k, ⟨b0, hb0, hb1⟩, f, e⟩ := refWriteC m.k0 hx hz hc
  have fp : ∀ b, b = x.v → fpP x L0 b := fun b h => .inr (.inr (.inl h))
  have t := m.turn0 k f fp (Nat.le_succ _) (fun b hb => by
   rcases fpP_set hb with h | h
   ·exact .inl h
   ·rw [hb0] at h; injection h with h; subst h; exact .inr hb1)
  rw [modify_set hx v (fun s => ⟨s.there, s.vers ++ [z]⟩), m.e0] at t
  refine ⟨x, 0, H', _, _, rfl, fun _ => rfl, e, t, f.mono fun b _ hb => .inr (.inl (fp b hb)), fun b hb => ?_, fun K w' hl mk v' => ?_⟩
  ·rcases hb with rfl | hb | hb
   ·exact .inl (.inl rfl)
   ·rcases fpP_set hb with h | h
    ·exact .inl (.inr (.inl h))
    ·rw [hb0] at h; injection h with h; subst h; exact .inr hb1
   ·exact .inl (.inr (.inr hb))
  ·refine trim_dirty x.v _ _ v mk.k0.bv t.k0.bv ?_ ?_ mk.k0.v_under
   ·exact List.mem_map.2 ⟨_, List.mem_of_getElem? (List.getElem?_set_self (List.getElem?_eq_some_iff.1 hx).1), rfl⟩
   ·cases v with
    | sl b o q l c e => injection hb0 with hb0; subst hb0; simp only [AV.under, decide_eq_false_iff_not]; omega
    | _ => cases hb0
 ·have hdk : r.dk 1 = r.b := rfl
  rw [hdk] at hn ⊢
  obtain ⟨w, hx, hx2⟩ := get_sec m.e1 hn
  obtain ⟨H', v, k, ⟨b0, hb0, hb1⟩, f, e⟩ := refWriteC m.k1 hx hz hc
  have fp : ∀ b, b = y.v → fpP y L1 b := fun b h => .inr (.inr (.inl h))
  have t := m.turn1 k f fp (Nat.le_succ _) (fun b hb => by
   rcases fpP_set hb with h | h
   ·exact .inl h
   ·rw [hb0] at h; injection h with h; subst h; exact .inr hb1)
  rw [modify_set hx v (fun s => ⟨s.there, s.vers ++ [z]⟩), m.e1] at t
  refine ⟨y, 1, H', _, _, rfl, fun _ => rfl, e, t, f.mono fun b _ hb => .inr (.inr (fp b hb)), fun b hb => ?_, fun K w' hl mk v' => ?_⟩
  ·rcases hb with rfl | hb | hb
   ·exact .inl (.inl rfl)
   ·exact .inl (.inr (.inl hb))
   ·rcases fpP_set hb with h | h
    ·exact .inl (.inr (.inr h))
    ·rw [hb0] at h; injection h with h; subst h; exact .inr hb1
  ·refine trim_dirty y.v _ _ v mk.k1.bv t.k1.bv ?_ ?_ mk.k1.v_under
   ·exact List.mem_map.2 ⟨_, List.mem_of_getElem? (List.getElem?_set_self (List.getElem?_eq_some_iff.1 hx).1), rfl⟩
   ·cases v with
    | sl b o q l c e => injection hb0 with hb0; subst hb0; simp only [AV.under, decide_eq_false_iff_not]; omega
    | _ => cases hb0
set_option maxHeartbeats 4000000 in
theorem rqWriteC (dev i : Int) {z : List Int} (hz : B64 z) (hc : c + 1 ≤ 1000000000) : ∃ H' L0' L1', RQ H' p x y (c + 1) L0' L1' (r.write dev i z).1 ∧ Fr H H' (fpW p x y L0 L1) ∧ (∀ b, fpW p x y L0' L1' b → fpW p x y L0 L1 b ∨ H.length ≤ b) ∧
  (envL prog).call 25 [.ptr p 0, .int .i64 dev, .int .i64 i, .agg (u8s z)] H = some (.int .i64 (r.write dev i z).2, H') := by
 have l64 := hz.1
 have w64 : (u8s z).length = 64 := by rw [u8s_len]; exact l64
 have tk := u8s_take l64
 have hp := lt_of_at m.blk
 have m1 := m.adds [.rw (u8s z)]
 have hh := rqHasC m1 dev i
 by_cases hx : 0 ≤ i ∧ i < ((r.dk dev).length : Int)
 ·have dx := decide_eq_true hx
  rw [dx] at hh
  have hdev : dev = 0 ∨ dev = 1 := by
   by_cases h0 : dev = 0
   ·exact .inl h0
   ·by_cases h1 : dev = 1
    ·exact .inr h1
    ·unfold RgS.dk at hx; rw [if_neg h0, if_neg h1] at hx; simp at hx; omega
  obtain ⟨n, rfl⟩ : ∃ n : Nat, i = n := ⟨i.toNat, by omega⟩
  obtain ⟨mp, cp⟩ := rqThroughC m1
  have e1 : (H ++ [ABlk.rw (u8s z)]).set p (.rw (rgCells x.p y.p r.pass.1)) = H.set p (.rw (rgCells x.p y.p r.pass.1)) ++ [.rw (u8s z)] := set_app _ hp
  rw [e1] at mp cp
  have mH := m.set r.pass.1 (by unfold RgS.pass; split <;> rfl) (by unfold RgS.pass; split <;> rfl)
  have hl2 : (H.set p (.rw (rgCells x.p y.p r.pass.1))).length = H.length := by simp
  by_cases hq : r.pass.2 = 0
  ·have hpa : r.pass.1.dk dev = r.dk dev := by
    have : r.pass.1.a = r.a ∧ r.pass.1.b = r.b := by unfold RgS.pass; split <;> exact ⟨rfl, rfl⟩
    unfold RgS.dk; rw [this.1, this.2]
   obtain ⟨q, o, H', L0', L1', ia, io, ew, mt, ft, fn, dirty⟩ := rqTurnW mp hdev (n := n) (by rw [hpa]; omega) hz hc
   have er : r.write dev (n : Int) z = (r.pass.1.put dev ((r.pass.1.dk dev).modify n fun s => ⟨s.there, s.vers ++ [z]⟩), 0) := by
    unfold RgS.write; rw [if_pos hx, if_pos hq, hpa]; simp
   rw [er]
   have f0 : Fr H (H.set p (.rw (rgCells x.p y.p r.pass.1)) ++ [.rw (u8s z)]) (fpW p x y L0 L1) :=
    (Fr.set H (.rw (rgCells x.p y.p r.pass.1)) (F := fpW p x y L0 L1) (.inl rfl)).trans (Fr.adds ⟨_, rfl⟩ (fun _ => False)) (fun _ _ h => h.elim)
   have tr := dirty H r (by rw [List.length_append, hl2]; omega) m
   refine ⟨H', L0', L1', mt, f0.trans ft (fun b _ h => h), fun b hb => ?_, ?_⟩
   ·rcases fn b hb with h | h
    ·exact .inl h
    ·rw [List.length_append, hl2] at h; exact .inr (by omega)
   ·have dq : decide (r.pass.2 = 0) = true := decide_eq_true hq
    rw [dq] at cp
    have hbx : cellsOf (H.set p (.rw (rgCells x.p y.p r.pass.1)) ++ [ABlk.rw (u8s z)]) H.length = some (u8s z) := by
     unfold cellsOf
     rw [List.getElem?_append_right (by rw [hl2]; exact Nat.le_refl _), hl2, Nat.sub_self]; rfl
    have hbp := cells_rw mp.blk
    have hio := io r.pass.1
    rw [c25]
    unfold b25
    simp -implicitDefEqProofs (maxSteps := 5000000) only [go_sem, Nat.reduceShiftRight, Nat.reduceAnd, Nat.reduceBNe, Int.reduceEq, Nat.reduceAdd, Nat.reduceSub, Nat.reduceMul, Nat.reduceLeDiff, reduceIte, reduceCtorEq, Nat.reduceBEq, Nat.reduceEqDiff, hh, cp, hbx, hbp, ia, hio, w64, tk, ew, tr]
  ·have er : r.write dev (n : Int) z = r.pass := by unfold RgS.write; rw [if_pos hx, if_neg hq]
   rw [er]
   have hq14 : r.pass.2 = 14 := by unfold RgS.pass at hq ⊢; split at hq; rw [if_pos (by assumption)]; simp at hq
   have dq : decide (r.pass.2 = 0) = false := decide_eq_false hq
   rw [dq] at cp
   rw [hq14]
   have tr : trim H (some (.int .i64 14, H.set p (.rw (rgCells x.p y.p r.pass.1)) ++ [ABlk.rw (u8s z)])) = some (.int .i64 14, H.set p (.rw (rgCells x.p y.p r.pass.1))) := by
    rw [trim_take (by rw [List.length_append, hl2]; omega) rfl (fun b k' hb hk => ?_)]
    ·rw [← hl2, List.take_left]
    ·rw [List.getElem?_append_left (by omega)] at hk
     by_cases eb : b = p
     ·subst eb
      rw [at_set _ _ _ hp] at hk
      injection hk with hk; subst hk
      refine .inr fun a ha => ?_
      have h0 := lt_of_cells m.k0.ptr
      have h1 := lt_of_cells m.k1.ptr
      simp only [ABlk.vals, rgCells, List.mem_cons, List.not_mem_nil, or_false] at ha
      rcases ha with rfl | rfl | rfl | rfl | rfl <;> simp [AV.under, h0, h1]
     ·rw [at_set_ne _ _ _ _ eb] at hk; exact .inl hk
   refine ⟨_, L0, L1, mH.up (Nat.le_succ _) hc, Fr.set _ _ (.inl rfl), fun b hb => .inl hb, ?_⟩
   rw [c25]
   unfold b25
   simp -implicitDefEqProofs (maxSteps := 5000000) only [go_sem, Nat.reduceShiftRight, Nat.reduceAnd, Nat.reduceBNe, Int.reduceEq, Nat.reduceAdd, Nat.reduceSub, Nat.reduceMul, Nat.reduceLeDiff, reduceIte, reduceCtorEq, Nat.reduceBEq, Nat.reduceEqDiff, hh, cp, tr]
 ·have dx := decide_eq_false hx
  rw [dx] at hh
  have er : r.write dev i z = (r, 1) := by unfold RgS.write; rw [if_neg hx]
  rw [er]
  refine ⟨H, L0, L1, m.up (Nat.le_succ _) hc, Fr.refl _ _, fun b hb => .inl hb, ?_⟩
  rw [c25]
  unfold b25
  simp -implicitDefEqProofs (maxSteps := 5000000) only [go_sem, Nat.reduceShiftRight, Nat.reduceAnd, Nat.reduceBNe, Int.reduceEq, Nat.reduceAdd, Nat.reduceSub, Nat.reduceMul, Nat.reduceLeDiff, reduceIte, reduceCtorEq, Nat.reduceBEq, Nat.reduceEqDiff, hh]
end
end Go.Proofs.Ytipedaadjfhdnaa.G06
end
section
namespace Go.Proofs.Ytipedaadjfhdnaa.G06
open Go Go.Proofs.Ytipedaadjfhdnaa.Eng
section
variable {H : AHeap} {p c : Nat} {x y : Pl} {L0 L1 : List (AV × Sec)} {r : RgS} (m : RQ H p x y c L0 L1 r)
include m
theorem rqTurnF {dev : Int} (hdev : dev = 0 ∨ dev = 1) : ∃ (q : Pl) (o : Nat) (H' : AHeap) (L0' L1' : List (AV × Sec)), idxAddrA 2 1 (.ptr p 0) (.int .i64 dev) = some (.ptr p o) ∧ (∀ rr, (rgCells x.p y.p rr)[o]? = some (.ptr q.p 0)) ∧ (envL prog).call 56 [.ptr q.p 0] H = some (.tup [], H') ∧ RQ H' p x y c L0' L1' (r.put dev ((r.dk dev).map settled)) ∧ Fr H H' (fpW p x y L0 L1) ∧ H'.length = H.length ∧ (∀ b, fpW p x y L0' L1' b → fpW p x y L0 L1 b) := by
 have em : ∀ L : List (AV × Sec), (L.map flX').map (·.2) = (L.map (·.2)).map settled := fun L => by simp only [List.map_map]; rfl
 have nn : ∀ L : List (AV × Sec), ∀ z ∈ L.map flX', slb z.1 = none := fun L z hz => by obtain ⟨w, _, rfl⟩ := List.mem_map.1 hz; rfl
 rcases hdev with rfl | rfl
 ·obtain ⟨H', k, kk, e⟩ := refFlushC m.k0
  have hF : ∀ b, b ∈ [x.s, x.v] → fpP x L0 b := fun b h => by
   simp only [List.mem_cons, List.not_mem_nil, or_false] at h
   rcases h with rfl | rfl
   ·exact .inr (.inl rfl)
   ·exact .inr (.inr (.inl rfl))
  have t := m.turn0 k (Fr.keep kk) hF (Nat.le_refl _) (fun b hb => .inl (fpP_nil (nn _) hb))
  rw [em, m.e0] at t
  refine ⟨x, 0, H', _, _, rfl, fun _ => rfl, e, t, (Fr.keep kk).mono fun b _ hb => .inr (.inl (hF b hb)), kk.1, fun b hb => ?_⟩
  rcases hb with rfl | hb | hb
  ·exact .inl rfl
  ·exact .inr (.inl (fpP_nil (nn _) hb))
  ·exact .inr (.inr hb)
 ·obtain ⟨H', k, kk, e⟩ := refFlushC m.k1
  have hF : ∀ b, b ∈ [y.s, y.v] → fpP y L1 b := fun b h => by
   simp only [List.mem_cons, List.not_mem_nil, or_false] at h
   rcases h with rfl | rfl
   ·exact .inr (.inl rfl)
   ·exact .inr (.inr (.inl rfl))
  have t := m.turn1 k (Fr.keep kk) hF (Nat.le_refl _) (fun b hb => .inl (fpP_nil (nn _) hb))
  rw [em, m.e1] at t
  refine ⟨y, 1, H', _, _, rfl, fun _ => rfl, e, t, (Fr.keep kk).mono fun b _ hb => .inr (.inr (hF b hb)), kk.1, fun b hb => ?_⟩
  rcases hb with rfl | hb | hb
  ·exact .inl rfl
  ·exact .inr (.inl hb)
  ·exact .inr (.inr (fpP_nil (nn _) hb))
set_option maxHeartbeats 4000000 in
theorem rqFlushC (dev : Int) : ∃ H' L0' L1', RQ H' p x y c L0' L1' (r.flush dev).1 ∧ Fr H H' (fpW p x y L0 L1) ∧ H'.length = H.length ∧ (∀ b, fpW p x y L0' L1' b → fpW p x y L0 L1 b) ∧
  (envL prog).call 40 [.ptr p 0, .int .i64 dev] H = some (.int .i64 (r.flush dev).2, H') := by
 by_cases hdev : dev = 0 ∨ dev = 1
 ·have d1 : decide (dev < 0) = false := decide_eq_false (by omega)
  have d2 : decide (dev > 1) = false := decide_eq_false (by omega)
  obtain ⟨mp, cp⟩ := rqThroughC m
  have lp : (H.set p (.rw (rgCells x.p y.p r.pass.1))).length = H.length := by simp
  have fp : Fr H (H.set p (.rw (rgCells x.p y.p r.pass.1))) (fpW p x y L0 L1) := Fr.set _ _ (.inl rfl)
  by_cases hq : r.pass.2 = 0
  ·obtain ⟨q, o, H', L0', L1', ia, io, ef, mt, ft, lt, fn⟩ := rqTurnF mp hdev
   have hpa : r.pass.1.dk dev = r.dk dev := by
    have : r.pass.1.a = r.a ∧ r.pass.1.b = r.b := by unfold RgS.pass; split <;> exact ⟨rfl, rfl⟩
    unfold RgS.dk; rw [this.1, this.2]
   have er : r.flush dev = (r.pass.1.put dev ((r.pass.1.dk dev).map settled), 0) := by unfold RgS.flush; rw [if_pos hdev, if_pos hq, hpa]
   rw [er]
   refine ⟨H', L0', L1', mt, fp.trans ft (fun b _ h => h), by rw [lt, lp], fn, ?_⟩
   have tr : trim H (some (.int .i64 0, H')) = some (.int .i64 0, H') := trim_same (by rw [lt, lp])
   have dq : decide (r.pass.2 = 0) = true := decide_eq_true hq
   rw [dq] at cp
   have hbp := cells_rw mp.blk
   have hio := io r.pass.1
   rw [c40]
   unfold b40
   simp -implicitDefEqProofs (maxSteps := 5000000) only [go_sem, Nat.reduceShiftRight, Nat.reduceAnd, Nat.reduceBNe, Int.reduceEq, Nat.reduceAdd, Nat.reduceSub, Nat.reduceMul, Nat.reduceLeDiff, reduceIte, reduceCtorEq, Nat.reduceBEq, Nat.reduceEqDiff, d1, d2, cp, hbp, ia, hio, ef, tr]
  ·have er : r.flush dev = r.pass := by unfold RgS.flush; rw [if_pos hdev, if_neg hq]
   rw [er]
   have hq14 : r.pass.2 = 14 := by unfold RgS.pass at hq ⊢; split at hq; rw [if_pos (by assumption)]; simp at hq
   refine ⟨_, L0, L1, mp, fp, lp, fun b h => h, ?_⟩
   rw [hq14]
   have tr : trim H (some (.int .i64 14, H.set p (.rw (rgCells x.p y.p r.pass.1)))) = some (.int .i64 14, H.set p (.rw (rgCells x.p y.p r.pass.1))) := trim_same lp
   have dq : decide (r.pass.2 = 0) = false := decide_eq_false hq
   rw [dq] at cp
   rw [c40]
   unfold b40
   simp -implicitDefEqProofs (maxSteps := 5000000) only [go_sem, Nat.reduceShiftRight, Nat.reduceAnd, Nat.reduceBNe, Int.reduceEq, Nat.reduceAdd, Nat.reduceSub, Nat.reduceMul, Nat.reduceLeDiff, reduceIte, reduceCtorEq, Nat.reduceBEq, Nat.reduceEqDiff, d1, d2, cp, tr]
 ·have er : r.flush dev = (r, 1) := by unfold RgS.flush; rw [if_neg hdev]
  rw [er]
  refine ⟨H, L0, L1, m, Fr.refl _ _, rfl, fun b h => h, ?_⟩
  rw [c40]
  unfold b40
  by_cases hd : dev < 0
  ·have d1 := decide_eq_true hd
   simp -implicitDefEqProofs (maxSteps := 5000000) only [go_sem, Nat.reduceShiftRight, Nat.reduceAnd, Nat.reduceBNe, Int.reduceEq, Nat.reduceAdd, Nat.reduceSub, Nat.reduceMul, Nat.reduceLeDiff, reduceIte, reduceCtorEq, Nat.reduceBEq, Nat.reduceEqDiff, d1]
  ·have d1 := decide_eq_false hd
   have d2 : decide (dev > 1) = true := decide_eq_true (by omega)
   simp -implicitDefEqProofs (maxSteps := 5000000) only [go_sem, Nat.reduceShiftRight, Nat.reduceAnd, Nat.reduceBNe, Int.reduceEq, Nat.reduceAdd, Nat.reduceSub, Nat.reduceMul, Nat.reduceLeDiff, reduceIte, reduceCtorEq, Nat.reduceBEq, Nat.reduceEqDiff, d1, d2]
set_option maxHeartbeats 4000000 in
theorem rqCrashC {v0 v1 : AV} {z0 z1 : List Int} (b0 : BS H v0 z0) (b1 : BS H v1 z1) (u0 : IsU8 z0) (u1 : IsU8 z1) (n0 : ∀ b, slb v0 = some b → ¬ fpW p x y L0 L1 b) (n1 : ∀ b, slb v1 = some b → ¬ fpW p x y L0 L1 b) :
  ∃ H' L0' L1', RQ H' p x y c L0' L1' (r.crash z0 z1) ∧ Fr H H' (fpW p x y L0 L1) ∧ H'.length = H.length ∧ (∀ b, fpW p x y L0' L1' b → fpW p x y L0 L1 b) ∧
   (envL prog).call 23 [.ptr p 0, v0, v1] H = some (.tup [], H') := by
 have hp := lt_of_at m.blk
 have em : ∀ (L : List (AV × Sec)) (z : List Int), ((crashS (L.map (·.2)) z).map (fun s => (AV.nilSl, s))).map (·.2) = crashS (L.map (·.2)) z := fun L z => by rw [List.map_map]; exact List.map_id'' (fun _ => rfl) _
 have nn : ∀ (S : List Sec), ∀ x ∈ S.map (fun s => (AV.nilSl, s)), slb x.1 = none := fun S x hx => by obtain ⟨y, _, rfl⟩ := List.mem_map.1 hx; rfl
 have hF0 : ∀ b, b ∈ [x.s, x.v] → fpP x L0 b := fun b h => by
  simp only [List.mem_cons, List.not_mem_nil, or_false] at h
  rcases h with rfl | rfl
  ·exact .inr (.inl rfl)
  ·exact .inr (.inr (.inl rfl))
 have hF1 : ∀ b, b ∈ [y.s, y.v] → fpP y L1 b := fun b h => by
  simp only [List.mem_cons, List.not_mem_nil, or_false] at h
  rcases h with rfl | rfl
  ·exact .inr (.inl rfl)
  ·exact .inr (.inr (.inl rfl))
 obtain ⟨H1, k0', kk0, e0⟩ := refCrashC m.k0 b0 u0 (fun b hb => ⟨fun e => n0 b hb (.inr (.inl (hF0 b (by simp [e])))), fun e => n0 b hb (.inr (.inl (hF0 b (by simp [e]))))⟩)
 have t0 := m.turn0 k0' (Fr.keep kk0) hF0 (Nat.le_refl _) (fun b hb => .inl (fpP_nil (nn _) hb))
 rw [em, m.e0] at t0
 have bs1 : BS H1 v1 z1 := BS.fr b1 (Fr.keep kk0) fun b hb hm => n1 b hb (.inr (.inl (hF0 b hm)))
 obtain ⟨H2, k1', kk1, e1⟩ := refCrashC t0.k1 bs1 u1 (fun b hb => ⟨fun e => n1 b hb (.inr (.inr (hF1 b (by simp [e])))), fun e => n1 b hb (.inr (.inr (hF1 b (by simp [e]))))⟩)
 have t1 := t0.turn1 k1' (Fr.keep kk1) hF1 (Nat.le_refl _) (fun b hb => .inl (fpP_nil (nn _) hb))
 rw [em, t0.e1] at t1
 have t2 := t1.set (r.crash z0 z1) rfl rfl
 have lH : H2.length = H.length := by rw [kk1.1, kk0.1]
 have fr : Fr H (H2.set p (.rw (rgCells x.p y.p (r.crash z0 z1)))) (fpW p x y L0 L1) :=
  (((Fr.keep kk0).mono fun b _ hb => .inr (.inl (hF0 b hb))).trans ((Fr.keep kk1).mono (G := fpW p x y L0 L1) fun b _ hb => .inr (.inr (hF1 b hb))) (fun b _ h => h)).trans (Fr.set _ _ (F := fpW p x y L0 L1) (.inl rfl)) (fun b _ h => h)
 refine ⟨_, _, _, t2, fr, by rw [List.length_set]; exact lH, fun b hb => ?_, ?_⟩
 ·rcases hb with rfl | hb | hb
  ·exact .inl rfl
  ·exact .inr (.inl (fpP_nil (nn _) hb))
  ·exact .inr (.inr (fpP_nil (nn _) hb))
 have c0 := cells_rw m.blk
 have c1 := cells_rw t0.blk
 have w1 : writeN H2 p 2 [.int .i64 (-1)] = some (H2.set p (.rw (rgCells x.p y.p { r with a := crashS r.a z0, b := crashS r.b z1, fuse := -1 }))) := by
  rw [write_of t1.blk, if_pos ⟨by simp [rgCells], rfl⟩, splice_one]; rfl
 have w2 : writeN (H2.set p (.rw (rgCells x.p y.p { r with a := crashS r.a z0, b := crashS r.b z1, fuse := -1 }))) p 3 [.bool false] = some (H2.set p (.rw (rgCells x.p y.p (r.crash z0 z1)))) := by
  rw [write_of (at_set _ _ _ (by omega)), if_pos ⟨by simp [rgCells], rfl⟩, splice_one, List.set_set]; rfl
 have tr : trim H (some (.tup [], H2.set p (.rw (rgCells x.p y.p (r.crash z0 z1))))) = some (.tup [], H2.set p (.rw (rgCells x.p y.p (r.crash z0 z1)))) := trim_same (by rw [List.length_set]; exact lH)
 unfold rgCells at c0 c1
 rw [c23]
 unfold b23
 simp -implicitDefEqProofs (maxSteps := 5000000) only [go_sem, Nat.reduceShiftRight, Nat.reduceAnd, Nat.reduceBNe, Int.reduceEq, Nat.reduceAdd, Nat.reduceSub, Nat.reduceMul, Nat.reduceLeDiff, reduceIte, reduceCtorEq, Nat.reduceBEq, Nat.reduceEqDiff, wrap64, runC_loop, runC_range, callF_fn, callV_fn, callV_yld, yield_eq, yieldBody, yieldRaw, roundMid, roundEnd, rangeEnd, Bool.not_not, put_cons, put_nil, trim_same, at_zero, at_add, set_zero, set_add, store_one, write_zero, write_add, write_head, write_succ, splice_one, splice_more, List.drop_nil, List.take_nil, cell_int, cell_bool, fillS, splice_one, idxA, Ex.isNormal, List.set_nil, List.length_set, List.all_cons, List.all_nil, Bool.and_self, and_self, true_and, and_true, List.getElem?_nil, Int.reduceLT, Int.reduceLE, Int.reduceToNat, Int.toNat_zero, Int.toNat_one, Int.reduceAdd, Int.reduceSub, Int.reduceMul, Int.reduceNeg, Int.reduceBEq, Int.reduceBNe, Int.reduceGE, Int.reduceGT, Nat.reduceLT, trim_keep, under_fn, under_ptr, under_sl, Nat.lt_irrefl, not_lt_add, trim_tail, keepOk, ABlk.vals, Int.cast_ofNat_Int, decide_true, decide_false, List.all_cons, List.all_nil, Nat.zero_mul, Nat.mul_one, Nat.one_mul, idx_arr, c0, c1, e0, e1, store_one, w1, w2, tr]
end
def zthere (n : Nat) : List AV := (List.replicate n (u8s (List.replicate 64 0))).flatten
theorem RD.new {H : AHeap} {p s v n c : Nat} (h1 : cellsOf H p = some [.sl s 0 64 n n true, .sl v 0 1 n n true]) (h2 : H[s]? = some (.rw (zthere n))) (h3 : H[v]? = some (.rw (List.replicate n .nilSl))) (n1 : p ≠ s) (n2 : p ≠ v) (n3 : s ≠ v) (hn : n ≤ 4096) (hc : c ≤ 1000000000) : RD H p s v c (zL n) := by
 refine ⟨by rw [h1]; simp [zL], ?_, ?_, n1, n2, n3, by simp [zL]; exact hn, ⟨hc, fun x hx => ?_, fun x hx => ?_, fun x hx => ?_, fun x hx b hb => ?_, fun i j x y hi hj hne b hb => ?_⟩⟩
 ·rw [h2]; unfold zthere zL; rw [List.map_replicate]; rfl
 ·rw [h3]; unfold zL; rw [List.map_replicate]
 all_goals try (have e := (List.mem_replicate.1 hx).2; subst e)
 ·exact .inl ⟨rfl, rfl⟩
 ·exact zsec_ok
 ·exact Nat.zero_le _
 ·cases hb
 ·have e := (List.mem_replicate.1 (List.mem_of_getElem? hi)).2
  subst e; cases hb
theorem fpP_zL {x : Pl} {n b : Nat} (h : fpP x (zL n) b) : b = x.p ∨ b = x.s ∨ b = x.v := by
 rcases h with h | h | h | ⟨z, hz, hb⟩
 ·exact .inl h
 ·exact .inr (.inl h)
 ·exact .inr (.inr h)
 ·have e := (List.mem_replicate.1 hz).2
  subst e; cases hb
set_option maxHeartbeats 1000000 in
theorem refNewC {n : Nat} (h1 : 1 ≤ n) (h2 : n ≤ 4096) (H : AHeap) : (envL prog).call 38 [.int .i64 (n : Int)] H = some (.tup [.ptr (H.length + 2) 0, .int .i64 0], H ++ [.rw (zthere n), .rw (List.replicate n .nilSl), .rw [.sl H.length 0 64 n n true, .sl (H.length + 1) 0 1 n n true]]) := by
 have d1 : decide ((n : Int) < 1) = false := decide_eq_false (by omega)
 have d2 : decide ((n : Int) > 4096) = false := decide_eq_false (by omega)
 have mk : ∀ G : AHeap, makeSliceV (ty 64 true 64 (rep 64 (.int .u8 0))) (.int .i64 (n : Int)) (.int .i64 (n : Int)) G = some (.sl G.length 0 64 n n true, G ++ [.rw (zthere n)]) := fun G => by
  rw [make_rows 64 64 n true _ (by omega) (by omega) (by unfold roomy; omega), rep_u8s]; rfl
 have mk2 : ∀ G : AHeap, makeSliceV (ty 1 false 24 [.nilSl]) (.int .i64 (n : Int)) (.int .i64 (n : Int)) G = some (.sl G.length 0 1 n n true, G ++ [.rw (List.replicate n .nilSl)]) := fun G => by
  have e : (List.replicate n [AV.nilSl]).flatten = List.replicate n AV.nilSl := by
   clear d1 d2 h1 h2 mk
   induction n with
   | zero => rfl
   | succ n ih => rw [List.replicate_succ, List.flatten_cons, ih]; rfl
  rw [make_rows 1 24 n false _ (by omega) (by omega) (by unfold roomy; omega), e]
 rw [c38]
 unfold b38
 simp -implicitDefEqProofs (maxSteps := 5000000) only [go_sem, Nat.reduceShiftRight, Nat.reduceAnd, Nat.reduceBNe, Int.reduceEq, Nat.reduceAdd, Nat.reduceSub, Nat.reduceMul, Nat.reduceLeDiff, reduceIte, reduceCtorEq, Nat.reduceBEq, Nat.reduceEqDiff, d1, d2, mk, mk2]
 exact trim_keep (by simp [AV.under, underAll])
theorem refNewBad {n : Int} (h : n < 1 ∨ n > 4096) (H : AHeap) : (envL prog).call 38 [.int .i64 n] H = some (.tup [.nilPtr, .int .i64 1], H) := by
 rw [c38]
 unfold b38
 by_cases h1 : n < 1
 ·have d1 := decide_eq_true h1
  simp -implicitDefEqProofs (maxSteps := 5000000) only [go_sem, Nat.reduceShiftRight, Nat.reduceAnd, Nat.reduceBNe, Int.reduceEq, Nat.reduceAdd, Nat.reduceSub, Nat.reduceMul, Nat.reduceLeDiff, reduceIte, reduceCtorEq, Nat.reduceBEq, Nat.reduceEqDiff, d1]
 ·have d1 := decide_eq_false h1
  have d2 : decide (n > 4096) = true := decide_eq_true (by omega)
  simp -implicitDefEqProofs (maxSteps := 5000000) only [go_sem, Nat.reduceShiftRight, Nat.reduceAnd, Nat.reduceBNe, Int.reduceEq, Nat.reduceAdd, Nat.reduceSub, Nat.reduceMul, Nat.reduceLeDiff, reduceIte, reduceCtorEq, Nat.reduceBEq, Nat.reduceEqDiff, d1, d2]
structure LQI (h0 H : AHeap) (p c : Nat) (r : RgS) (F : Nat → Prop) : Prop where
 m : RefIn H p c r F
 old : Adds h0 H
 out : ∀ b, F b → h0.length ≤ b
set_option maxHeartbeats 2000000 in
theorem rqNewC {n0 n1 : Nat} (a1 : 1 ≤ n0) (a2 : n0 ≤ 4096) (b1 : 1 ≤ n1) (b2 : n1 ≤ 4096) (H : AHeap) : ∃ H' F, LQI H H' (H.length + 6) 0 (newRg n0 n1) F ∧ (envL prog).call 18 [.int .i64 (n0 : Int), .int .i64 (n1 : Int)] H = some (.tup [.ptr (H.length + 6) 0, .int .i64 0], H') := by
 have c0 := refNewC a1 a2 H
 have c1 := fun B => refNewC b1 b2 (H ++ B)
 have n00 : ((0 : Int) != 0) = false := rfl
 let H' : AHeap := H ++ [.rw (zthere n0), .rw (List.replicate n0 .nilSl), .rw [.sl H.length 0 64 n0 n0 true, .sl (H.length + 1) 0 1 n0 n0 true], .rw (zthere n1), .rw (List.replicate n1 .nilSl), .rw [.sl (H.length + 3) 0 64 n1 n1 true, .sl (H.length + 4) 0 1 n1 n1 true], .rw [.ptr (H.length + 2) 0, .ptr (H.length + 5) 0, .int .i64 (-1), .bool false, .int .i64 0]]
 have hm : RQ H' (H.length + 6) ⟨H.length + 2, H.length, H.length + 1⟩ ⟨H.length + 5, H.length + 3, H.length + 4⟩ 0 (zL n0) (zL n1) (newRg n0 n1) := by
  refine ⟨by simp [H', rgCells, newRg], RD.new (by unfold cellsOf; simp [H']) (by simp [H']) (by simp [H']) (by simp) (by simp) (by simp) a2 (by omega), RD.new (by unfold cellsOf; simp [H']) (by simp [H']) (by simp [H']) (by simp) (by simp) (by simp) b2 (by omega), by simp [zL, newRg], by simp [zL, newRg], fun b hb hb2 => ?_, fun hb => ?_, fun hb => ?_⟩
  ·have := fpP_zL hb
   have := fpP_zL hb2
   simp only at *
   omega
  ·have := fpP_zL hb; simp only at this; omega
  ·have := fpP_zL hb; simp only at this; omega
 refine ⟨H', fun b => H.length ≤ b ∧ b < H'.length, ⟨⟨_, _, _, _, hm, fun b hb => ⟨?_, hm.lt hb⟩, fun b hb => hb.2⟩, ⟨_, rfl⟩, fun b hb => hb.1⟩, ?_⟩
 ·rcases hb with rfl | hb | hb
  ·omega
  ·have := fpP_zL hb; simp only at this; omega
  ·have := fpP_zL hb; simp only at this; omega
 ·rw [c18]
  unfold b18
  simp -implicitDefEqProofs (maxSteps := 5000000) only [go_sem, Nat.reduceShiftRight, Nat.reduceAnd, Nat.reduceBNe, Int.reduceEq, Nat.reduceAdd, Nat.reduceSub, Nat.reduceMul, Nat.reduceLeDiff, reduceIte, reduceCtorEq, Nat.reduceBEq, Nat.reduceEqDiff, c0, c1, n00, splice_more]
  exact trim_keep (by simp [AV.under, underAll])
end Go.Proofs.Ytipedaadjfhdnaa.G06
end
section
namespace Go.Proofs.Ytipedaadjfhdnaa.G06
open Go Go.Proofs.Ytipedaadjfhdnaa.Eng
set_option maxHeartbeats 4000000 in
theorem rigNewBad {n0 n1 : Int} (hb : ¬ ((1 ≤ n0 ∧ n0 ≤ 4096) ∧ (1 ≤ n1 ∧ n1 ≤ 4096))) (H : AHeap) : (envL prog).call 11 [.int .i64 n0, .int .i64 n1] H = some (.tup [.nilPtr, .int .i64 1], H) := by
 have w1 : IntKind.i64.wrap 1 = 1 := by decide
 have n00 : ((0 : Int) != 0) = false := rfl
 have n10 : ((1 : Int) != 0) = true := rfl
 by_cases h0 : 1 ≤ n0 ∧ n0 ≤ 4096
 ·obtain ⟨m, rfl⟩ : ∃ m : Nat, n0 = m := ⟨n0.toNat, by omega⟩
  have c0 := fun B => diskNewC (n := m) (by omega) (by omega) (H ++ B)
  have c1 := fun B => diskNewBad (n := n1) (by omega) (H ++ B)
  rw [c11]
  unfold b11
  simp -implicitDefEqProofs (maxSteps := 5000000) only [go_sem, Nat.reduceShiftRight, Nat.reduceAnd, Nat.reduceBNe, Int.reduceEq, Nat.reduceAdd, Nat.reduceSub, Nat.reduceMul, Nat.reduceLeDiff, reduceIte, reduceCtorEq, Nat.reduceBEq, Nat.reduceEqDiff, loop_run, runC_loop, idxA, idx_arr, Int.reduceLT, Int.reduceLE, Int.reduceToNat, Int.toNat_zero, Int.toNat_one, Nat.reduceLT, Nat.zero_mul, Nat.mul_one, Nat.one_mul, Int.reduceAdd, Int.cast_ofNat_Int, seqR_exit', store_one, write_zero, write_add, write_head, List.all_cons, List.all_nil, Bool.and_self, l11x0, c0, c1, w1, n00, n10]
 ·have c0 := fun B => diskNewBad (n := n0) (by omega) (H ++ B)
  rw [c11]
  unfold b11
  simp -implicitDefEqProofs (maxSteps := 5000000) only [go_sem, Nat.reduceShiftRight, Nat.reduceAnd, Nat.reduceBNe, Int.reduceEq, Nat.reduceAdd, Nat.reduceSub, Nat.reduceMul, Nat.reduceLeDiff, reduceIte, reduceCtorEq, Nat.reduceBEq, Nat.reduceEqDiff, loop_run, runC_loop, idxA, idx_arr, Int.reduceLT, Int.reduceLE, Int.reduceToNat, Int.toNat_zero, Int.toNat_one, Nat.reduceLT, Nat.zero_mul, Nat.mul_one, Nat.one_mul, Int.reduceAdd, Int.cast_ofNat_Int, seqR_exit', store_one, write_zero, write_add, write_head, List.all_cons, List.all_nil, Bool.and_self, l11x0, c0, w1, n00, n10]
set_option maxHeartbeats 4000000 in
theorem rqNewBad {n0 n1 : Int} (hb : ¬ ((1 ≤ n0 ∧ n0 ≤ 4096) ∧ (1 ≤ n1 ∧ n1 ≤ 4096))) (H : AHeap) : (envL prog).call 18 [.int .i64 n0, .int .i64 n1] H = some (.tup [.nilPtr, .int .i64 1], H) := by
 have n00 : ((0 : Int) != 0) = false := rfl
 have n10 : ((1 : Int) != 0) = true := rfl
 by_cases h0 : 1 ≤ n0 ∧ n0 ≤ 4096
 ·obtain ⟨m, rfl⟩ : ∃ m : Nat, n0 = m := ⟨n0.toNat, by omega⟩
  have c0 := refNewC (n := m) (by omega) (by omega) H
  have c1 := fun B => refNewBad (n := n1) (by omega) (H ++ B)
  rw [c18]
  unfold b18
  simp -implicitDefEqProofs (maxSteps := 5000000) only [go_sem, Nat.reduceShiftRight, Nat.reduceAnd, Nat.reduceBNe, Int.reduceEq, Nat.reduceAdd, Nat.reduceSub, Nat.reduceMul, Nat.reduceLeDiff, reduceIte, reduceCtorEq, Nat.reduceBEq, Nat.reduceEqDiff, c0, c1, n00, n10, splice_more]
 ·have c0 := refNewBad (n := n0) (by omega) H
  by_cases h1 : 1 ≤ n1 ∧ n1 ≤ 4096
  ·obtain ⟨m, rfl⟩ : ∃ m : Nat, n1 = m := ⟨n1.toNat, by omega⟩
   have c1 := fun B => refNewC (n := m) (by omega) (by omega) (H ++ B)
   have c2 := refNewC (n := m) (by omega) (by omega) H
   rw [c18]
   unfold b18
   simp -implicitDefEqProofs (maxSteps := 5000000) only [go_sem, Nat.reduceShiftRight, Nat.reduceAnd, Nat.reduceBNe, Int.reduceEq, Nat.reduceAdd, Nat.reduceSub, Nat.reduceMul, Nat.reduceLeDiff, reduceIte, reduceCtorEq, Nat.reduceBEq, Nat.reduceEqDiff, c0, c1, c2, n00, n10, splice_more]
  ·have c1 := fun B => refNewBad (n := n1) (by omega) (H ++ B)
   have c2 := refNewBad (n := n1) (by omega) H
   rw [c18]
   unfold b18
   simp -implicitDefEqProofs (maxSteps := 5000000) only [go_sem, Nat.reduceShiftRight, Nat.reduceAnd, Nat.reduceBNe, Int.reduceEq, Nat.reduceAdd, Nat.reduceSub, Nat.reduceMul, Nat.reduceLeDiff, reduceIte, reduceCtorEq, Nat.reduceBEq, Nat.reduceEqDiff, c0, c1, c2, n00, n10, splice_more]
end Go.Proofs.Ytipedaadjfhdnaa.G06
end
section
namespace Go.Proofs.Ytipedaadjfhdnaa.G06
open Go Go.Proofs.Ytipedaadjfhdnaa.Eng
section
variable {H : AHeap} {p c : Nat} {r : RgS} {F : Nat → Prop} (m : RefIn H p c r F)
include m
theorem rqnRead (dev i : Int) : (envL prog).call 59 [.ptr p 0, .int .i64 dev, .int .i64 i] H = some (.tup [.agg (u8s (r.read dev i).1), .int .i64 (r.read dev i).2], H) := by
 obtain ⟨x, y, L0, L1, m, _, _⟩ := m
 exact rqReadC m dev i
theorem rqnWrite (dev i : Int) {z : List Int} (hz : B64 z) (hc : c + 1 ≤ 1000000000) : ∃ H' F', RefIn H' p (c + 1) (r.write dev i z).1 F' ∧ RStep H F H' F' ∧ (envL prog).call 25 [.ptr p 0, .int .i64 dev, .int .i64 i, .agg (u8s z)] H = some (.int .i64 (r.write dev i z).2, H') := by
 obtain ⟨x, y, L0, L1, m, h1, h2⟩ := m
 obtain ⟨H', L0', L1', m', f, n, e⟩ := rqWriteC m dev i hz hc
 refine ⟨H', fun b => F b ∨ (H.length ≤ b ∧ b < H'.length), ⟨x, y, L0', L1', m', fun b hb => ?_, fun b hb => ?_⟩, ⟨f.mono fun b _ hb => h1 b hb, fun b hb => hb.elim .inl fun h => .inr h.1⟩, e⟩
 ·rcases n b hb with h | h
  ·exact .inl (h1 b h)
  ·exact .inr ⟨h, m'.lt hb⟩
 ·rcases hb with h | h
  ·exact Nat.lt_of_lt_of_le (h2 b h) f.1
  ·exact h.2
theorem rqnCrash {v0 v1 : AV} {z0 z1 : List Int} (b0 : BS H v0 z0) (b1 : BS H v1 z1) (u0 : IsU8 z0) (u1 : IsU8 z1) (n0 : ∀ b, slb v0 = some b → ¬ F b) (n1 : ∀ b, slb v1 = some b → ¬ F b) :
  ∃ H', RefIn H' p c (r.crash z0 z1) F ∧ RStep H F H' F ∧ H'.length = H.length ∧ (envL prog).call 23 [.ptr p 0, v0, v1] H = some (.tup [], H') := by
 obtain ⟨x, y, L0, L1, m, h1, h2⟩ := m
 obtain ⟨H', L0', L1', m', f, hl, n, e⟩ := rqCrashC m b0 b1 u0 u1 (fun b hb h => n0 b hb (h1 b h)) (fun b hb h => n1 b hb (h1 b h))
 exact ⟨H', ⟨x, y, L0', L1', m', fun b hb => h1 b (n b hb), fun b hb => by rw [hl]; exact h2 b hb⟩, ⟨f.mono fun b _ hb => h1 b hb, fun b hb => .inl hb⟩, hl, e⟩
theorem rqnSee : ∃ q0 q1 s0 v0 s1 v1, cellsOf H p = some [.ptr q0 0, .ptr q1 0, .int .i64 r.fuse, .bool r.down, .int .i64 r.done] ∧ cellsOf H q0 = some [.sl s0 0 64 r.a.length r.a.length true, v0] ∧ cellsOf H q1 = some [.sl s1 0 64 r.b.length r.b.length true, v1] ∧
  (∀ n : Nat, (h : n < r.a.length) → (r.a[n]).vers = [] → ∃ cs, cellsOf H s0 = some cs ∧ n * 64 + 64 ≤ cs.length ∧ (cs.drop (n * 64)).take 64 = u8s (r.a[n]).last) ∧ (∀ n : Nat, (h : n < r.b.length) → (r.b[n]).vers = [] → ∃ cs, cellsOf H s1 = some cs ∧ n * 64 + 64 ≤ cs.length ∧ (cs.drop (n * 64)).take 64 = u8s (r.b[n]).last) := by
 obtain ⟨x, y, L0, L1, m, h1, h2⟩ := m
 have key : ∀ {q : Pl} {L : List (AV × Sec)} {l : List Sec} (k : RD H q.p q.s q.v c L) (e : L.map (·.2) = l) (n : Nat) (h : n < l.length), (l[n]).vers = [] → ∃ cs, cellsOf H q.s = some cs ∧ n * 64 + 64 ≤ cs.length ∧ (cs.drop (n * 64)).take 64 = u8s (l[n]).last := by
  intro q L l k e n h hv
  obtain ⟨w, w1, w2⟩ := get_sec e h
  obtain ⟨⟨cs, c1, c2, c3⟩, _⟩ := k.row w1
  have ew : l[n] = w.2 := (List.getElem?_eq_some_iff.1 w2).2
  refine ⟨cs, c1, c2, ?_⟩
  rw [ew] at hv ⊢
  have : w.2.last = w.2.there := by unfold Sec.last; rw [hv]; rfl
  rw [this]; exact c3
 have la : r.a.length = L0.length := by rw [← m.e0, List.length_map]
 have lb : r.b.length = L1.length := by rw [← m.e1, List.length_map]
 exact ⟨x.p, y.p, x.s, _, y.s, _, cells_rw m.blk, by rw [la]; exact m.k0.ptr, by rw [lb]; exact m.k1.ptr, key m.k0 m.e0, key m.k1 m.e1⟩
end
structure Sim (r q : RgS) : Prop where
 a : r.a = q.a
 b : r.b = q.b
 down : r.down = q.down
 done : r.done = q.done
 fuse : r.fuse = q.fuse ∨ (r.fuse < 0 ∧ q.fuse < 0)
section
variable {r q : RgS} (s : Sim r q)
include s
theorem Sim.dk (dev : Int) : r.dk dev = q.dk dev := by unfold RgS.dk; rw [s.a, s.b]
theorem Sim.read (dev i : Int) : r.read dev i = q.read dev i := by unfold RgS.read; rw [s.dk, s.down]
theorem Sim.put (dev : Int) (l : List Sec) : Sim (r.put dev l) (q.put dev l) := by
 unfold RgS.put
 split
 ·exact ⟨rfl, s.b, s.down, s.done, s.fuse⟩
 ·split
  ·exact ⟨s.a, rfl, s.down, s.done, s.fuse⟩
  ·exact s
theorem Sim.pass : r.pass.2 = q.pass.2 ∧ Sim r.pass.1 q.pass.1 := by
 unfold RgS.pass
 by_cases h : r.down = true ∨ r.fuse = 0
 ·have h2 : q.down = true ∨ q.fuse = 0 := by
   rcases h with h | h
   ·exact .inl (s.down ▸ h)
   ·rcases s.fuse with e | e
    ·exact .inr (by omega)
    ·omega
  rw [if_pos h, if_pos h2]
  exact ⟨rfl, s.a, s.b, rfl, s.done, s.fuse⟩
 ·have h2 : ¬ (q.down = true ∨ q.fuse = 0) := by
   intro h2
   apply h
   rcases h2 with h2 | h2
   ·exact .inl (s.down ▸ h2)
   ·rcases s.fuse with e | e
    ·exact .inr (by omega)
    ·omega
  rw [if_neg h, if_neg h2]
  refine ⟨rfl, s.a, s.b, s.down, ?_, ?_⟩
  ·show IntKind.i64.wrap (r.done + 1) = IntKind.i64.wrap (q.done + 1)
   rw [s.done]
  ·show (if r.fuse > 0 then _ else _) = (if q.fuse > 0 then _ else _) ∨ ((if r.fuse > 0 then _ else _) < 0 ∧ (if q.fuse > 0 then _ else _) < 0)
   rcases s.fuse with e | e
   ·rw [e]; exact .inl rfl
   ·rw [if_neg (by omega), if_neg (by omega)]; exact .inr e
theorem Sim.write (dev i : Int) (z : List Int) : (r.write dev i z).2 = (q.write dev i z).2 ∧ Sim (r.write dev i z).1 (q.write dev i z).1 := by
 obtain ⟨p1, p2⟩ := s.pass
 unfold RgS.write
 rw [s.dk]
 split
 ·rw [p1]
  split
  ·exact ⟨rfl, p2.put _ _⟩
  ·exact ⟨p1, p2⟩
 ·exact ⟨rfl, s⟩
theorem Sim.flush (dev : Int) : (r.flush dev).2 = (q.flush dev).2 ∧ Sim (r.flush dev).1 (q.flush dev).1 := by
 obtain ⟨p1, p2⟩ := s.pass
 unfold RgS.flush
 rw [s.dk]
 split
 ·rw [p1]
  split
  ·exact ⟨rfl, p2.put _ _⟩
  ·exact ⟨p1, p2⟩
 ·exact ⟨rfl, s⟩
theorem Sim.crash (za zb : List Int) : Sim (r.crash za zb) (q.crash za zb) := by
 unfold RgS.crash
 exact ⟨by show crashS r.a za = _; rw [s.a], by show crashS r.b zb = _; rw [s.b], rfl, s.done, .inl rfl⟩
theorem Sim.arm (n : Int) : Sim (r.arm n) { q with fuse := n } := by
 unfold RgS.arm
 refine ⟨s.a, s.b, s.down, s.done, ?_⟩
 show (if -1 > n then -1 else n) = n ∨ ((if -1 > n then (-1 : Int) else n) < 0 ∧ n < 0)
 split
 ·exact .inr ⟨by omega, by omega⟩
 ·exact .inl rfl
end
structure Both (h0 H : AHeap) (p pq c : Nat) (r q : RgS) (F G : Nat → Prop) : Prop where
 l : LI h0 H p c r F
 lq : LQI h0 H pq c q G
 dis : ∀ b, F b → ¬ G b
 sim : Sim r q
 la : r.a.length ≤ 60
 lb : r.b.length ≤ 60
section
variable {h0 H : AHeap} {p pq c : Nat} {r q : RgS} {F G : Nat → Prop}
theorem Both.adds (b : Both h0 H p pq c r q F G) (B : AHeap) : Both h0 (H ++ B) p pq c r q F G := ⟨b.l.adds B, ⟨b.lq.m.adds B, b.lq.old.trans ⟨B, rfl⟩, b.lq.out⟩, b.dis, b.sim, b.la, b.lb⟩
theorem both_a (l : LI h0 H p c r F) (lq : LQI h0 H pq c q G) (dis : ∀ b, F b → ¬ G b) {H' : AHeap} {c' : Nat} {r' : RgS} {F' : Nat → Prop} (m' : RigIn H' p c' r' F') (s : RStep H F H' F') : LI h0 H' p c' r' F' ∧ LQI h0 H' pq c q G ∧ ∀ b, F' b → ¬ G b := by
 refine ⟨l.step m' s, ⟨lq.m.fr s.1 fun b hb hf => dis b hf hb, s.1.old lq.old fun b hb hf => (by have := l.out b hf; omega), lq.out⟩, fun b hb hg => ?_⟩
 rcases s.2 b hb with h | h
 ·exact dis b h hg
 ·have := lq.m.lt b hg; omega
theorem both_b (l : LI h0 H p c r F) {c2 : Nat} (lq : LQI h0 H pq c2 q G) (dis : ∀ b, F b → ¬ G b) {H' : AHeap} {c' : Nat} {q' : RgS} {G' : Nat → Prop} (m' : RefIn H' pq c' q' G') (s : RStep H G H' G') : LI h0 H' p c r F ∧ LQI h0 H' pq c' q' G' ∧ ∀ b, F b → ¬ G' b := by
 have hl := lq.old.len
 refine ⟨⟨l.m.fr s.1 fun b hb hf => dis b hb hf, s.1.old l.old fun b hb hf => (by have := lq.out b hf; omega), l.out⟩, ⟨m', s.1.old lq.old fun b hb hf => (by have := lq.out b hf; omega), fun b hb => (s.2 b hb).elim (lq.out b) fun h => by omega⟩, fun b hb hg => ?_⟩
 rcases s.2 b hg with h | h
 ·exact dis b hb h
 ·have := l.m.lt b hb; omega
end
theorem put_len (r : RgS) (dev : Int) (l : List Sec) (h : l.length = (r.dk dev).length) : (r.put dev l).a.length = r.a.length ∧ (r.put dev l).b.length = r.b.length := by
 unfold RgS.put
 unfold RgS.dk at h
 by_cases h0 : dev = 0
 ·rw [if_pos h0] at h ⊢; exact ⟨h, rfl⟩
 ·rw [if_neg h0] at h ⊢
  by_cases h1 : dev = 1
  ·rw [if_pos h1] at h ⊢; exact ⟨rfl, h⟩
  ·rw [if_neg h1]; exact ⟨rfl, rfl⟩
theorem pass_ab (r : RgS) : r.pass.1.a = r.a ∧ r.pass.1.b = r.b := by unfold RgS.pass; split <;> exact ⟨rfl, rfl⟩
theorem pass_dk (r : RgS) (dev : Int) : r.pass.1.dk dev = r.dk dev := by unfold RgS.dk; rw [(pass_ab r).1, (pass_ab r).2]
theorem write_lens (r : RgS) (dev i : Int) (z : List Int) : (r.write dev i z).1.a.length = r.a.length ∧ (r.write dev i z).1.b.length = r.b.length := by
 unfold RgS.write
 split
 ·split
  ·obtain ⟨q1, q2⟩ := put_len r.pass.1 dev ((r.dk dev).modify i.toNat fun s => ⟨s.there, s.vers ++ [z]⟩) (by rw [List.length_modify, pass_dk])
   rw [(pass_ab r).1] at q1
   rw [(pass_ab r).2] at q2
   exact ⟨q1, q2⟩
  ·exact ⟨by rw [(pass_ab r).1], by rw [(pass_ab r).2]⟩
 ·exact ⟨rfl, rfl⟩
theorem write_len (r : RgS) (dev i : Int) (z : List Int) : (r.write dev i z).1.a.length = r.a.length := (write_lens r dev i z).1
theorem write_lenb (r : RgS) (dev i : Int) (z : List Int) : (r.write dev i z).1.b.length = r.b.length := (write_lens r dev i z).2
theorem flush_lens (r : RgS) (dev : Int) : (r.flush dev).1.a.length = r.a.length ∧ (r.flush dev).1.b.length = r.b.length := by
 unfold RgS.flush
 split
 ·split
  ·obtain ⟨q1, q2⟩ := put_len r.pass.1 dev ((r.dk dev).map settled) (by rw [List.length_map, pass_dk])
   rw [(pass_ab r).1] at q1
   rw [(pass_ab r).2] at q2
   exact ⟨q1, q2⟩
  ·exact ⟨by rw [(pass_ab r).1], by rw [(pass_ab r).2]⟩
 ·exact ⟨rfl, rfl⟩
theorem flush_len (r : RgS) (dev : Int) : (r.flush dev).1.a.length = r.a.length := (flush_lens r dev).1
theorem flush_lenb (r : RgS) (dev : Int) : (r.flush dev).1.b.length = r.b.length := (flush_lens r dev).2
end Go.Proofs.Ytipedaadjfhdnaa.G06
end
section
namespace Go.Proofs.Ytipedaadjfhdnaa.G06
open Go Go.Proofs.Ytipedaadjfhdnaa.Eng
section
variable {q : RPl} {H : AHeap} {c : Nat} {r : RgS} {F : Nat → Prop} (m : RigAt q H c r F)
include m
theorem atRead (dev i : Int) : (envL prog).call 15 [.ptr q.p 0, .int .i64 dev, .int .i64 i] H = some (.tup [.agg (u8s (r.read dev i).1), .int .i64 (r.read dev i).2], H) := rinRead m.rin dev i
theorem atLen (dev : Int) : (envL prog).call 49 [.ptr q.p 0, .int .i64 dev] H = some (.int .i64 ((r.dk dev).length : Int), H) := rinLen m.rin dev
theorem atWrite (dev i : Int) {z : List Int} (hz : B64 z) (hc : c + 1 ≤ 1000000000) : ∃ H' F', RigAt q H' (c + 1) (r.write dev i z).1 F' ∧ RStep H F H' F' ∧ (envL prog).call 16 [.ptr q.p 0, .int .i64 dev, .int .i64 i, .agg (u8s z)] H = some (.int .i64 (r.write dev i z).2, H') := by
 obtain ⟨L0, L1, m, h1, h2⟩ := m
 obtain ⟨H', L0', L1', m', f, n, e⟩ := rigWriteC m dev i hz hc
 refine ⟨H', fun b => F b ∨ (H.length ≤ b ∧ b < H'.length), ⟨L0', L1', m', fun b hb => ?_, fun b hb => ?_⟩, ⟨f.mono fun b _ hb => h1 b hb, fun b hb => hb.elim .inl fun h => .inr h.1⟩, e⟩
 ·rcases n b hb with h | h
  ·exact .inl (h1 b h)
  ·exact .inr ⟨h, m'.lt hb⟩
 ·rcases hb with h | h
  ·exact Nat.lt_of_lt_of_le (h2 b h) f.1
  ·exact h.2
theorem atFlush (dev : Int) : ∃ H', RigAt q H' c (r.flush dev).1 F ∧ RStep H F H' F ∧ H'.length = H.length ∧ (envL prog).call 31 [.ptr q.p 0, .int .i64 dev] H = some (.int .i64 (r.flush dev).2, H') := by
 obtain ⟨L0, L1, m, h1, h2⟩ := m
 obtain ⟨H', L0', L1', m', f, hl, n, e⟩ := rigFlushC m dev
 exact ⟨H', ⟨L0', L1', m', fun b hb => h1 b (n b hb), fun b hb => by rw [hl]; exact h2 b hb⟩, ⟨f.mono fun b _ hb => h1 b hb, fun b hb => .inl hb⟩, hl, e⟩
theorem at_ok (dev i : Int) : B64 (r.read dev i).1 := by
 obtain ⟨oa, ob, la, lb⟩ := m.rin.ok
 unfold RgS.read
 split
 ·rename_i hi
  split
  ·exact B64.zero
  ·have lt : i.toNat < (r.dk dev).length := by omega
   rw [List.getElem?_eq_getElem lt]
   have mem := List.getElem_mem lt
   generalize (r.dk dev)[i.toNat] = s at *
   have os : s.Ok := by
    unfold RgS.dk at mem
    split at mem
    ·exact oa s mem
    ·split at mem
     ·exact ob s mem
     ·cases mem
   show B64 s.last
   exact os.last
 ·exact B64.zero
end
end Go.Proofs.Ytipedaadjfhdnaa.G06
end
section
namespace Go.Proofs.Ytipedaadjfhdnaa.G06
open Go Go.Proofs.Ytipedaadjfhdnaa.Eng
section
variable {q : QPl} {H : AHeap} {c : Nat} {r : RgS} {F : Nat → Prop} (m : RefAt q H c r F)
include m
theorem raRead (dev i : Int) : (envL prog).call 59 [.ptr q.p 0, .int .i64 dev, .int .i64 i] H = some (.tup [.agg (u8s (r.read dev i).1), .int .i64 (r.read dev i).2], H) := rqnRead m.rin dev i
theorem raWrite (dev i : Int) {z : List Int} (hz : B64 z) (hc : c + 1 ≤ 1000000000) : ∃ H' F', RefAt q H' (c + 1) (r.write dev i z).1 F' ∧ RStep H F H' F' ∧ (envL prog).call 25 [.ptr q.p 0, .int .i64 dev, .int .i64 i, .agg (u8s z)] H = some (.int .i64 (r.write dev i z).2, H') := by
 obtain ⟨L0, L1, m, h1, h2⟩ := m
 obtain ⟨H', L0', L1', m', f, n, e⟩ := rqWriteC m dev i hz hc
 refine ⟨H', fun b => F b ∨ (H.length ≤ b ∧ b < H'.length), ⟨L0', L1', m', fun b hb => ?_, fun b hb => ?_⟩, ⟨f.mono fun b _ hb => h1 b hb, fun b hb => hb.elim .inl fun h => .inr h.1⟩, e⟩
 ·rcases n b hb with h | h
  ·exact .inl (h1 b h)
  ·exact .inr ⟨h, m'.lt hb⟩
 ·rcases hb with h | h
  ·exact Nat.lt_of_lt_of_le (h2 b h) f.1
  ·exact h.2
theorem raFlush (dev : Int) : ∃ H', RefAt q H' c (r.flush dev).1 F ∧ RStep H F H' F ∧ H'.length = H.length ∧ (envL prog).call 40 [.ptr q.p 0, .int .i64 dev] H = some (.int .i64 (r.flush dev).2, H') := by
 obtain ⟨L0, L1, m, h1, h2⟩ := m
 obtain ⟨H', L0', L1', m', f, hl, n, e⟩ := rqFlushC m dev
 exact ⟨H', ⟨L0', L1', m', fun b hb => h1 b (n b hb), fun b hb => by rw [hl]; exact h2 b hb⟩, ⟨f.mono fun b _ hb => h1 b hb, fun b hb => .inl hb⟩, hl, e⟩
theorem ra_ok (dev i : Int) : B64 (r.read dev i).1 := by
 obtain ⟨L0, L1, m, _, _⟩ := m
 have key : ∀ {x : Pl} {L : List (AV × Sec)} {l : List Sec} (k : RD H x.p x.s x.v c L) (e : L.map (·.2) = l), ∀ s ∈ l, s.Ok := fun k e s hs => by
  subst e
  obtain ⟨x, hx, rfl⟩ := List.mem_map.1 hs
  exact k.vs.ok x hx
 have oa := key m.k0 m.e0
 have ob := key m.k1 m.e1
 unfold RgS.read
 split
 ·rename_i hi
  split
  ·exact B64.zero
  ·have lt : i.toNat < (r.dk dev).length := by omega
   rw [List.getElem?_eq_getElem lt]
   have mem := List.getElem_mem lt
   generalize (r.dk dev)[i.toNat] = s at *
   have os : s.Ok := by
    unfold RgS.dk at mem
    split at mem
    ·exact oa s mem
    ·split at mem
     ·exact ob s mem
     ·cases mem
   show B64 s.last
   exact os.last
 ·exact B64.zero
end
end Go.Proofs.Ytipedaadjfhdnaa.G06
end
