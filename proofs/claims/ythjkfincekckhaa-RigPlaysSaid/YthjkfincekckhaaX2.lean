/- What the functions that RigPlays reaches answer, for every argument. No condition but those in each statement. -/
import Derived.Test.YthjkfincekckhaaX1
import Derived.Test.YthjkfincekckhaaE6
set_option linter.unusedSimpArgs false
set_option linter.unusedVariables false
set_option linter.unusedSectionVars false
set_option maxRecDepth 10000
namespace Go.Proofs.Ythjkfincekckhaa.G04
open Go Go.Proofs.Ythjkfincekckhaa.Eng
theorem nil_of {H : AHeap} {v : AV} {s : Sec} (g : GR 64 H 0 v (verR s)) (h : s.vers = []) : v = .nilSl := by
  rcases g with ⟨_, hv⟩ | ⟨hv, _⟩
  · exact hv
  · exact absurd (by unfold verR; rw [h]; rfl) hv
section
variable {H : AHeap} {p s v c : Nat} {L : List (AV × Sec)} (m : RD H p s v c L)
include m
set_option maxHeartbeats 2000000 in
theorem refFlushL (x1 : AV) : ∀ (k i : Nat) (G : AHeap) (j3 j4 j5 j6 j7 j8 j9 j10 j11 j12 j13 j14 j15 j16 j17 j18 j19 j20 j21 j22 j23 j24 j25 j26 : AV), RD G p s v c (flI L i) → KeepB H G [s, v] → i + k = L.length →
    Outs (LQ l38x0 [.ptr p 0, x1, .int .i64 (i : Int), j3, j4, j5, j6, j7, j8, j9, j10, j11, j12, j13, j14, j15, j16, j17, j18, j19, j20, j21, j22, j23, j24, j25, j26] G) fun e t G' => e = .exit 0 ∧ RD G' p s v c (flI L L.length) ∧ KeepB H G' [s, v] ∧ ∃ k : Nat → AV, t = [.ptr p 0, x1, (k 2), (k 3), (k 4), (k 5), (k 6), (k 7), (k 8), (k 9), (k 10), (k 11), (k 12), (k 13), (k 14), (k 15), (k 16), (k 17), (k 18), (k 19), (k 20), (k 21), (k 22), (k 23), (k 24), (k 25), (k 26)] := by
  intro k
  obtain ⟨Lp, hL⟩ : ∃ L, L = LQ l38x0 := ⟨_, rfl⟩
  have lo := loop_open hL
  rw [← hL]
  induction k with
  | zero =>
    intro i G j3 j4 j5 j6 j7 j8 j9 j10 j11 j12 j13 j14 j15 j16 j17 j18 j19 j20 j21 j22 j23 j24 j25 j26 mg kg hi
    obtain rfl : i = L.length := by omega
    have hm := mg.ptr
    rw [flI_len L (Nat.le_refl _)] at hm
    have hd : decide ((L.length : Int) < (L.length : Int)) = false := by simp
    rw [lo]
    unfold l38x0
    simp -implicitDefEqProofs (maxSteps := 5000000) only [go_sem, Nat.reduceShiftRight, Nat.reduceAnd, Nat.reduceBNe, Int.reduceEq, Nat.reduceAdd, Nat.reduceSub, Nat.reduceMul, Nat.reduceLeDiff, reduceIte, reduceCtorEq, Nat.reduceBEq, Nat.reduceEqDiff, hm, hd, seqR_exit', outs_normal]
    exact ⟨mg, kg, exF rfl⟩
  | succ k ih =>
    intro i G j3 j4 j5 j6 j7 j8 j9 j10 j11 j12 j13 j14 j15 j16 j17 j18 j19 j20 j21 j22 j23 j24 j25 j26 mg kg hi
    have hlt : i < L.length := by omega
    have hm := mg.ptr
    rw [flI_len L (by omega)] at hm
    obtain ⟨x, hx⟩ : ∃ x, L[i]? = some x := ⟨_, List.getElem?_eq_getElem hlt⟩
    have hx2 : (flI L i)[i]? = some x := by rw [flI_get hlt, hx]
    have hsz := mg.sz
    rw [flI_len L (by omega)] at hsz
    have hd : decide ((i : Int) < (L.length : Int)) = true := decide_eq_true (by omega)
    have e2 : IntKind.i64.wrap ((i : Int) + 1) = ((i + 1 : Nat) : Int) := by rw [wrap64 (by omega) (by omega)]; omega
    have er := refReadC mg hx2
    have okl : B64 x.2.last := (mg.vs.at hx2).2.1.last
    obtain ⟨m1, w1⟩ := mg.setT hx2 okl
    have hx3 : ((flI L i).set i (x.1, (⟨x.2.last, x.2.vers⟩ : Sec)))[i]? = some (x.1, ⟨x.2.last, x.2.vers⟩) := List.getElem?_set_self (by rw [flI_len L (by omega)]; exact hlt)
    obtain ⟨m2, w2⟩ := m1.setN hx3
    rw [List.set_set] at m2 w2
    have k2 : KeepB H ((G.set s (.rw (((flI L i).set i (x.1, (⟨x.2.last, x.2.vers⟩ : Sec))).map thereR).flatten)).set v (.rw (((flI L i).set i (.nilSl, (⟨x.2.last, []⟩ : Sec))).map (·.1)))) [s, v] := (kg.trans (KeepB.set _ _ _ _ (by simp))).trans (KeepB.set _ _ _ _ (by simp))
    have p1 := m1.ptr
    rw [List.length_set, flI_len L (by omega)] at p1
    generalize hG1 : G.set s (.rw (((flI L i).set i (x.1, (⟨x.2.last, x.2.vers⟩ : Sec))).map thereR).flatten) = G1 at *
    have w2' : writeN G1 v i [.nilSl] = some (G1.set v (.rw (((flI L i).set i (.nilSl, (⟨x.2.last, []⟩ : Sec))).map (·.1)))) := w2
    generalize hG2 : G1.set v (.rw (((flI L i).set i (.nilSl, (⟨x.2.last, []⟩ : Sec))).map (·.1))) = G2 at *
    rw [show (flI L i).set i (.nilSl, (⟨x.2.last, []⟩ : Sec)) = flI L (i + 1) from (flI_step hx).symm] at m2
    have w64 : (u8s x.2.last).length = 64 := by rw [u8s_len]; exact okl.1
    have ix1 := idx_nat v 1 L.length L.length i true .i64 (by omega) hlt
    rw [Nat.mul_one] at ix1
    have ix2 := idx_nat s 64 L.length L.length i true .i64 (by omega) hlt
    rw [lo]
    unfold l38x0
    simp -implicitDefEqProofs (maxSteps := 5000000) only [go_sem, Nat.reduceShiftRight, Nat.reduceAnd, Nat.reduceBNe, Int.reduceEq, Nat.reduceAdd, Nat.reduceSub, Nat.reduceMul, Nat.reduceLeDiff, reduceIte, reduceCtorEq, Nat.reduceBEq, Nat.reduceEqDiff, hm, p1, hd, e2, er, ix1, ix2, store_one, w64, w1, w2']
    exact ih (i + 1) G2 _ _ _ _ _ _ _ _ _ _ _ _ _ _ _ _ _ _ _ _ _ _ _ _ m2 k2 (by omega)
set_option maxHeartbeats 2000000 in
theorem refFlushC : ∃ H', RD H' p s v c (L.map flX') ∧ KeepB H H' [s, v] ∧ (envL prog).call 38 [.ptr p 0] H = some (.tup [], H') := by
  have l0 := refFlushL m (k := L.length) (i := 0) (G := H)
  rw [show ((0 : Nat) : Int) = 0 from rfl] at l0
  have o : Outs (runC (envL prog) (b38 (envL prog)) ([.ptr p 0] ++ List.replicate (27 - [AV.ptr p 0].length) .undef) H) fun e' t K' => (RD K' p s v c (L.map flX') ∧ KeepB H K' [s, v]) ∧ fin [] (some (e', t, K')) = some (.tup [], K') := by
    unfold b38
    generalize hQ : (fun (e' : Ex) (t : T) (K' : AHeap) => (RD K' p s v c (L.map flX') ∧ KeepB H K' [s, v]) ∧ fin [] (some (e', t, K')) = some (AV.tup [], K')) = Q
    simp -implicitDefEqProofs (maxSteps := 5000000) only [go_sem, Nat.reduceShiftRight, Nat.reduceAnd, Nat.reduceBNe, Int.reduceEq, Nat.reduceAdd, Nat.reduceSub, Nat.reduceMul, Nat.reduceLeDiff, reduceIte, reduceCtorEq, Nat.reduceBEq, Nat.reduceEqDiff, runC_loop]
    unfold LQ at l0
    generalize (envL prog).loop (runC (envL prog) (l38x0 (envL prog))) = L0 at l0 ⊢
    refine outs_ctx (fun r => blockR 0 r) (l0 _ _ _ _ _ _ _ _ _ _ _ _ _ _ _ _ _ _ _ _ _ _ _ _ _ (by unfold flI; simpa using m) (KeepB.refl _ _) (by omega)) ?_
    rintro e t G ⟨rfl, mg, kg, k, rfl⟩
    rw [flI_all] at mg
    simp -implicitDefEqProofs (maxSteps := 5000000) only [go_sem, Nat.reduceShiftRight, Nat.reduceAnd, Nat.reduceBNe, Int.reduceEq, Nat.reduceAdd, Nat.reduceSub, Nat.reduceMul, Nat.reduceLeDiff, reduceIte, reduceCtorEq, Nat.reduceBEq, Nat.reduceEqDiff, outs_normal]
    subst hQ
    refine ⟨⟨mg, kg⟩, ?_⟩
    simp -implicitDefEqProofs (maxSteps := 5000000) only [go_sem, Nat.reduceShiftRight, Nat.reduceAnd, Nat.reduceBNe, Int.reduceEq, Nat.reduceAdd, Nat.reduceSub, Nat.reduceMul, Nat.reduceLeDiff, reduceIte, reduceCtorEq, Nat.reduceBEq, Nat.reduceEqDiff]
  obtain ⟨e', t, K', hr, ⟨mk, kk⟩, hf⟩ := o
  exact ⟨K', mk, kk, by rw [c38, hr, hf]; exact kk.trim _⟩
set_option maxHeartbeats 2000000 in
theorem refLooseL (x1 x2 x27 : AV) : ∀ (k i : Nat) (H' : AHeap) (l : AV) (j5 j6 j7 j8 j9 j10 j11 j12 j13 j14 j15 j16 j17 j18 j19 j20 j21 j22 j23 j24 j25 j26 : AV), Adds H H' → GR 1 H' H.length l ((looseF ((L.map (·.2)).take i) 0).map fun (n : Nat) => [AV.int .i64 (n : Int)]) → i + k = L.length →
    Outs (LQ l49x0 [.ptr p 0, x1, x2, l, .int .i64 (i : Int), j5, j6, j7, j8, j9, j10, j11, j12, j13, j14, j15, j16, j17, j18, j19, j20, j21, j22, j23, j24, j25, j26, x27] H') fun e' t H2 => e' = .exit 0 ∧ Adds H H2 ∧ ∃ l', GR 1 H2 H.length l' ((looseF (L.map (·.2)) 0).map fun (n : Nat) => [AV.int .i64 (n : Int)]) ∧ ∃ k : Nat → AV, t = [.ptr p 0, x1, x2, l', (k 4), (k 5), (k 6), (k 7), (k 8), (k 9), (k 10), (k 11), (k 12), (k 13), (k 14), (k 15), (k 16), (k 17), (k 18), (k 19), (k 20), (k 21), (k 22), (k 23), (k 24), (k 25), (k 26), x27] := by
  intro k
  obtain ⟨Lp, hL⟩ : ∃ L, L = LQ l49x0 := ⟨_, rfl⟩
  have lo := loop_open hL
  have hsz := m.sz
  rw [← hL]
  induction k with
  | zero =>
    intro i H' l j5 j6 j7 j8 j9 j10 j11 j12 j13 j14 j15 j16 j17 j18 j19 j20 j21 j22 j23 j24 j25 j26 A g hi
    obtain rfl : i = L.length := by omega
    have hm := A.cells m.ptr
    have hd : decide ((L.length : Int) < (L.length : Int)) = false := by simp
    rw [List.take_of_length_le (by simp)] at g
    rw [lo]
    unfold l49x0
    simp -implicitDefEqProofs (maxSteps := 5000000) only [go_sem, Nat.reduceShiftRight, Nat.reduceAnd, Nat.reduceBNe, Int.reduceEq, Nat.reduceAdd, Nat.reduceSub, Nat.reduceMul, Nat.reduceLeDiff, reduceIte, reduceCtorEq, Nat.reduceBEq, Nat.reduceEqDiff, hm, hd, seqR_exit', outs_normal]
    exact ⟨A, l, g, exF rfl⟩
  | succ k ih =>
    intro i H' l j5 j6 j7 j8 j9 j10 j11 j12 j13 j14 j15 j16 j17 j18 j19 j20 j21 j22 j23 j24 j25 j26 A g hi
    have hlt : i < L.length := by omega
    have hm := A.cells m.ptr
    obtain ⟨x, hx⟩ : ∃ x, L[i]? = some x := ⟨_, List.getElem?_eq_getElem hlt⟩
    obtain ⟨_, ⟨cv, hcv0, hv⟩, _, _⟩ := m.row hx
    have hcv := A.cells hcv0
    obtain ⟨gv, ok, cap⟩ := m.vs.at hx
    have cb := m.vs.cb
    obtain ⟨hl, hr⟩ := ver_read gv ok
    have hd : decide ((i : Int) < (L.length : Int)) = true := decide_eq_true (by omega)
    have e2 : IntKind.i64.wrap ((i : Int) + 1) = ((i + 1 : Nat) : Int) := by rw [wrap64 (by omega) (by omega)]; omega
    have ix1 := idx_nat v 1 L.length L.length i true .i64 (by omega) hlt
    rw [Nat.mul_one] at ix1
    have ih := fun H2 l2 j5 j6 j7 j8 j9 j10 j11 j12 j13 j14 j15 j16 j17 j18 j19 j20 j21 j22 j23 j24 j25 j26 A2 g2 => ih (i + 1) H2 l2 j5 j6 j7 j8 j9 j10 j11 j12 j13 j14 j15 j16 j17 j18 j19 j20 j21 j22 j23 j24 j25 j26 A2 g2 (by omega)
    rw [looseF_snoc (get_map (fun y : AV × Sec => y.2) hx)] at ih
    rw [lo]
    unfold l49x0
    rcases hr with ⟨h0, h1⟩ | ⟨b, cs2, z, hz, h1, hp, hc2, hle2, htk2⟩
    · rw [h1] at hv
      rw [if_pos h0, List.append_nil] at ih
      have d0 : decide ((0 : Int) > 0) = false := rfl
      simp -implicitDefEqProofs (maxSteps := 5000000) only [go_sem, Nat.reduceShiftRight, Nat.reduceAnd, Nat.reduceBNe, Int.reduceEq, Nat.reduceAdd, Nat.reduceSub, Nat.reduceMul, Nat.reduceLeDiff, reduceIte, reduceCtorEq, Nat.reduceBEq, Nat.reduceEqDiff, hm, hd, e2, ix1, hcv, hv, d0]
      exact ih H' l _ _ _ _ _ _ _ _ _ _ _ _ _ _ _ _ _ _ _ _ _ _ A g
    · rw [h1] at hv
      have hne : x.2.vers ≠ [] := fun e => by rw [e] at hp; simp at hp
      rw [if_neg hne, List.map_append] at ih
      have d0 : decide ((x.2.vers.length : Int) > 0) = true := decide_eq_true (by omega)
      have dl := looseF_len ((L.map (·.2)).take i) 0
      rw [List.length_take, List.length_map] at dl
      obtain ⟨l2, H2, A2, g2, ea⟩ := GR.app (k := 1) (by omega) (d := ty 1 false 8 [.int .i64 0]) rfl (by decide) (P := H) (H := H' ++ [.rw [.int .i64 (i : Int)]]) (A.trans ⟨_, rfl⟩) (g.mono _) (fun r hr => by obtain ⟨n, _, rfl⟩ := List.mem_map.1 hr; rfl) (y := .sl H'.length 0 1 1 1 true) (r := [.int .i64 (i : Int)]) rfl
        (by unfold srcCells readN cellsOf; simp) rfl (by rw [List.length_map]; unfold roomy; show (_ + 1) * 8 ≤ _; omega)
      simp -implicitDefEqProofs (maxSteps := 5000000) only [go_sem, Nat.reduceShiftRight, Nat.reduceAnd, Nat.reduceBNe, Int.reduceEq, Nat.reduceAdd, Nat.reduceSub, Nat.reduceMul, Nat.reduceLeDiff, reduceIte, reduceCtorEq, Nat.reduceBEq, Nat.reduceEqDiff, hm, hd, e2, ix1, hcv, hv, d0, ea]
      exact ih H2 l2 _ _ _ _ _ _ _ _ _ _ _ _ _ _ _ _ _ _ _ _ _ _ A2 g2
set_option maxHeartbeats 2000000 in
theorem refLooseC : ∃ l H', Adds H H' ∧ IS H' l ((looseF (L.map (·.2)) 0).map fun (n : Nat) => (n : Int)) ∧ (∀ b, slb l = some b → H.length ≤ b) ∧ (envL prog).call 49 [.ptr p 0] H = some (l, H') := by
  have sl0 := refLooseL m (k := L.length) (i := 0) (H' := H) (l := .nilSl)
  rw [show ((0 : Nat) : Int) = 0 from rfl] at sl0
  have o : Outs (runC (envL prog) (b49 (envL prog)) ([.ptr p 0] ++ List.replicate (28 - [AV.ptr p 0].length) .undef) H) fun e' t H' => ∃ l, Adds H H' ∧ GR 1 H' H.length l ((looseF (L.map (·.2)) 0).map fun (n : Nat) => [AV.int .i64 (n : Int)]) ∧ fin [.tmp 2] (some (e', t, H')) = some (l, H') := by
    unfold b49
    generalize hQ : (fun (e' : Ex) (t : T) (H' : AHeap) => ∃ l, Adds H H' ∧ GR 1 H' H.length l ((looseF (L.map (·.2)) 0).map fun (n : Nat) => [AV.int .i64 (n : Int)]) ∧ fin [.tmp 2] (some (e', t, H')) = some (l, H')) = Q
    simp -implicitDefEqProofs (maxSteps := 5000000) only [go_sem, Nat.reduceShiftRight, Nat.reduceAnd, Nat.reduceBNe, Int.reduceEq, Nat.reduceAdd, Nat.reduceSub, Nat.reduceMul, Nat.reduceLeDiff, reduceIte, reduceCtorEq, Nat.reduceBEq, Nat.reduceEqDiff, runC_loop]
    unfold LQ at sl0
    generalize (envL prog).loop (runC (envL prog) (l49x0 (envL prog))) = L0 at sl0 ⊢
    refine outs_ctx (fun r => seqR (blockR 0 r) _) (sl0 _ _ _ _ _ _ _ _ _ _ _ _ _ _ _ _ _ _ _ _ _ _ _ _ _ (Adds.refl H) (.inl ⟨rfl, rfl⟩) (by omega)) ?_
    rintro e' t H' ⟨rfl, A, l, g, k, rfl⟩
    simp -implicitDefEqProofs (maxSteps := 5000000) only [go_sem, Nat.reduceShiftRight, Nat.reduceAnd, Nat.reduceBNe, Int.reduceEq, Nat.reduceAdd, Nat.reduceSub, Nat.reduceMul, Nat.reduceLeDiff, reduceIte, reduceCtorEq, Nat.reduceBEq, Nat.reduceEqDiff, outs_normal]
    subst hQ
    refine ⟨l, A, g, ?_⟩
    simp -implicitDefEqProofs (maxSteps := 5000000) only [go_sem, Nat.reduceShiftRight, Nat.reduceAnd, Nat.reduceBNe, Int.reduceEq, Nat.reduceAdd, Nat.reduceSub, Nat.reduceMul, Nat.reduceLeDiff, reduceIte, reduceCtorEq, Nat.reduceBEq, Nat.reduceEqDiff]
  obtain ⟨e', t, H', hr, l, A, g, hf⟩ := o
  have e1 : (looseF (L.map (·.2)) 0).map (fun (n : Nat) => [AV.int .i64 (n : Int)]) = ((looseF (L.map (·.2)) 0).map fun (n : Nat) => (n : Int)).map fun z => [AV.int .i64 z] := by rw [List.map_map]; rfl
  have hb : ∀ b, slb l = some b → H.length ≤ b := fun b hb => by
    rcases g with ⟨_, rfl⟩ | ⟨_, b', hb', rfl, _⟩
    · cases hb
    · injection hb with hb; subst hb; exact hb'
  rw [c49, hr, hf]
  rcases g.under with ⟨h0, rfl⟩ | hu
  · rw [e1] at g
    refine ⟨_, H, Adds.refl H, ?_, hb, A.trimS (by simp [AV.under])⟩
    have : (looseF (L.map (·.2)) 0).map (fun (n : Nat) => (n : Int)) = [] := by rw [e1] at h0; simpa using h0
    rw [this]; exact IS.nil _
  · rw [e1] at g
    exact ⟨l, H', A, g.is, hb, trim_keep hu⟩
end
end Go.Proofs.Ythjkfincekckhaa.G04

