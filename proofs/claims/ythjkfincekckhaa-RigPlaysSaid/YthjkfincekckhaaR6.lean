/- What the functions that RigPlays reaches answer, for every argument. No condition but those in each statement. -/
import Derived.Test.YthjkfincekckhaaR5
set_option linter.unusedSimpArgs false
set_option linter.unusedVariables false
set_option linter.unusedSectionVars false
set_option maxRecDepth 10000
namespace Go.Proofs.Ythjkfincekckhaa.G04
open Go Go.Proofs.Ythjkfincekckhaa.Eng
theorem fpD_nil {q d : Nat} {L L' : List (AV × Sec)} (h : ∀ x ∈ L', slb x.1 = none) {b : Nat} (hb : fpD q d L' b) : fpD q d L b := by
  rcases hb with rfl | rfl | ⟨x, hx, hb⟩
  · exact .inl rfl
  · exact .inr (.inl rfl)
  · rw [h x hx] at hb; cases hb
section
variable {H : AHeap} {p p0 d0 p1 d1 c : Nat} {L0 L1 : List (AV × Sec)} {r : RgS} (m : RG H p p0 d0 p1 d1 c L0 L1 r)
include m
theorem rigTurnF {dev : Int} (hdev : dev = 0 ∨ dev = 1) : ∃ q H' L0' L1', (envL prog).call 37 [.ptr q 0] H = some (.int .i64 0, H') ∧ (envL prog).call 28 [.ptr p 0, .int .i64 dev] H = some (.ptr q 0, H) ∧ RG H' p p0 d0 p1 d1 c L0' L1' (r.put dev ((r.dk dev).map settled)) ∧ Fr H H' (fpR p p0 d0 p1 d1 L0 L1) ∧ H'.length = H.length ∧ (∀ b, fpR p p0 d0 p1 d1 L0' L1' b → fpR p p0 d0 p1 d1 L0 L1 b) := by
  have em : ∀ L : List (AV × Sec), (L.map flX).map (·.2) = (L.map (·.2)).map settled := fun L => by simp only [List.map_map]; rfl
  have nn : ∀ L : List (AV × Sec), ∀ x ∈ L.map flX, slb x.1 = none := fun L x hx => by obtain ⟨y, _, rfl⟩ := List.mem_map.1 hx; rfl
  rcases hdev with rfl | rfl
  · obtain ⟨H', k, kk, e⟩ := diskFlushC m.k0
    have t := m.turn0 k (Fr.keep kk) (fun b h => by simp at h; subst h; exact .inr (.inl rfl)) (Nat.le_refl _) m.k0.vs.cb (fun b hb => .inl (fpD_nil (nn _) hb))
    rw [em, m.e0] at t
    refine ⟨p0, H', _, _, e, rigDisk0 m, t, (Fr.keep kk).mono fun b _ hb => ?_, kk.1, fun b hb => ?_⟩
    · simp at hb; subst hb; exact .inr (.inl (.inr (.inl rfl)))
    · rcases hb with rfl | hb | hb
      · exact .inl rfl
      · exact .inr (.inl (fpD_nil (nn _) hb))
      · exact .inr (.inr hb)
  · obtain ⟨H', k, kk, e⟩ := diskFlushC m.k1
    have t := m.turn1 k (Fr.keep kk) (fun b h => by simp at h; subst h; exact .inr (.inl rfl)) (Nat.le_refl _) m.k1.vs.cb (fun b hb => .inl (fpD_nil (nn _) hb))
    rw [em, m.e1] at t
    refine ⟨p1, H', _, _, e, rigDisk1 m, t, (Fr.keep kk).mono fun b _ hb => ?_, kk.1, fun b hb => ?_⟩
    · simp at hb; subst hb; exact .inr (.inr (.inr (.inl rfl)))
    · rcases hb with rfl | hb | hb
      · exact .inl rfl
      · exact .inr (.inl hb)
      · exact .inr (.inr (fpD_nil (nn _) hb))
set_option maxHeartbeats 4000000 in
theorem rigFlushC (dev : Int) : ∃ H' L0' L1', RG H' p p0 d0 p1 d1 c L0' L1' (r.flush dev).1 ∧ Fr H H' (fpR p p0 d0 p1 d1 L0 L1) ∧ H'.length = H.length ∧ (∀ b, fpR p p0 d0 p1 d1 L0' L1' b → fpR p p0 d0 p1 d1 L0 L1 b) ∧
    (envL prog).call 17 [.ptr p 0, .int .i64 dev] H = some (.int .i64 (r.flush dev).2, H') := by
  rcases rigDev m dev with ⟨q, d, L, e, k, hl, hdev⟩ | ⟨e, hl, h0, h1⟩
  · obtain ⟨mp, cp⟩ := rigPassC m
    have lp : (H.set p (.rw (rgCells p0 p1 r.pass.1))).length = H.length := by simp
    have fp : Fr H (H.set p (.rw (rgCells p0 p1 r.pass.1))) (fpR p p0 d0 p1 d1 L0 L1) := Fr.set _ _ (.inl rfl)
    by_cases hq : r.pass.2 = 0
    · obtain ⟨q2, H', L0', L1', ef, ed, mt, ft, lt, fn⟩ := rigTurnF mp hdev
      have eq2 : q2 = q := by
        rcases hdev with rfl | rfl
        · have a1 := rigDisk0 m
          have a2 := rigDisk0 mp
          rw [e] at a1; rw [ed] at a2
          simp only [Option.some.injEq, Prod.mk.injEq, AV.ptr.injEq, and_true] at a1 a2
          rw [a1, a2]
        · have a1 := rigDisk1 m
          have a2 := rigDisk1 mp
          rw [e] at a1; rw [ed] at a2
          simp only [Option.some.injEq, Prod.mk.injEq, AV.ptr.injEq, and_true] at a1 a2
          rw [a1, a2]
      subst eq2
      have hpa : r.pass.1.dk dev = r.dk dev := by
        have : r.pass.1.a = r.a ∧ r.pass.1.b = r.b := by unfold RgS.pass; split <;> exact ⟨rfl, rfl⟩
        unfold RgS.dk; rw [this.1, this.2]
      have er : r.flush dev = (r.pass.1.put dev ((r.pass.1.dk dev).map settled), 0) := by unfold RgS.flush; rw [if_pos hdev, if_pos hq, hpa]
      rw [er]
      refine ⟨H', L0', L1', mt, fp.trans ft (fun b _ h => h), by rw [lt, lp], fn, ?_⟩
      have tr : trim H (some (.int .i64 0, H')) = some (.int .i64 0, H') := trim_same (by rw [lt, lp])
      rw [hq] at cp
      have n0 : ((0 : Int) != 0) = false := rfl
      rw [c17]
      unfold b17
      simp -implicitDefEqProofs (maxSteps := 5000000) only [go_sem, Nat.reduceShiftRight, Nat.reduceAnd, Nat.reduceBNe, Int.reduceEq, Nat.reduceAdd, Nat.reduceSub, Nat.reduceMul, Nat.reduceLeDiff, reduceIte, reduceCtorEq, Nat.reduceBEq, Nat.reduceEqDiff, e, cp, n0, ef, tr]
    · have er : r.flush dev = r.pass := by unfold RgS.flush; rw [if_pos hdev, if_neg hq]
      rw [er]
      refine ⟨_, L0, L1, mp, fp, lp, fun b h => h, ?_⟩
      have tr : trim H (some (.int .i64 r.pass.2, H.set p (.rw (rgCells p0 p1 r.pass.1)))) = some (.int .i64 r.pass.2, H.set p (.rw (rgCells p0 p1 r.pass.1))) := trim_same lp
      have hq2 : (r.pass.2 != 0) = true := by simp [hq]
      rw [c17]
      unfold b17
      simp -implicitDefEqProofs (maxSteps := 5000000) only [go_sem, Nat.reduceShiftRight, Nat.reduceAnd, Nat.reduceBNe, Int.reduceEq, Nat.reduceAdd, Nat.reduceSub, Nat.reduceMul, Nat.reduceLeDiff, reduceIte, reduceCtorEq, Nat.reduceBEq, Nat.reduceEqDiff, e, cp, hq2, tr]
  · have er : r.flush dev = (r, 1) := by unfold RgS.flush; rw [if_neg (by omega)]
    rw [er]
    refine ⟨H, L0, L1, m, Fr.refl _ _, rfl, fun b h => h, ?_⟩
    rw [c17]
    unfold b17
    simp -implicitDefEqProofs (maxSteps := 5000000) only [go_sem, Nat.reduceShiftRight, Nat.reduceAnd, Nat.reduceBNe, Int.reduceEq, Nat.reduceAdd, Nat.reduceSub, Nat.reduceMul, Nat.reduceLeDiff, reduceIte, reduceCtorEq, Nat.reduceBEq, Nat.reduceEqDiff, e]
end

/-! ### Crash -/
theorem eachC {y q p p0 p1 : Nat} {K0 K1 K2 : AHeap} {rest : List AV} (hq : cellsOf K0 q = some [.ptr p 0]) (hp : cellsOf K0 p = some (.ptr p0 0 :: .ptr p1 0 :: rest)) (y0 : (envL prog).yield y [.int .i64 0, .ptr p0 0] K0 = some (.bool true, K1)) (y1 : (envL prog).yield y [.int .i64 1, .ptr p1 0] K1 = some (.bool true, K2)) :
    (envL prog).call 47 [.yld y, .ptr q 0] K0 = trim K0 (some (.tup [], K2)) := by
  have w1 : IntKind.i64.wrap 1 = 1 := by decide
  have w2 : IntKind.i64.wrap 2 = 2 := by decide
  have h2 : (2 ≤ rest.length + 1 + 1) = True := by simp
  rw [c47]
  unfold b47
  simp -implicitDefEqProofs (maxSteps := 5000000) only [go_sem, Nat.reduceShiftRight, Nat.reduceAnd, Nat.reduceBNe, Int.reduceEq, Nat.reduceAdd, Nat.reduceSub, Nat.reduceMul, Nat.reduceLeDiff, reduceIte, reduceCtorEq, Nat.reduceBEq, Nat.reduceEqDiff, loop_run, runC_loop, callV_yld, idxA, Int.reduceLT, Int.reduceLE, Int.reduceToNat, Int.toNat_zero, Int.toNat_one, Nat.reduceLT, Nat.zero_mul, Nat.mul_one, Nat.one_mul, Int.reduceAdd, Int.cast_ofNat_Int, seqR_exit', l47x0, hq, hp, y0, y1, w1, w2, h2]
set_option maxHeartbeats 4000000 in
theorem crashYield {G : AHeap} {q d c p : Nat} {L : List (AV × Sec)} (k : DK G q d c L) {v0 v1 v : AV} {zs : List Int} {dev : Nat} (hv : [v0, v1][dev]? = some v) (b : BS G v zs) (hu : IsU8 zs) (hl : LenOk v) (hvb : ∀ b, slb v = some b → b < G.length ∧ b ≠ d) (hvc : cellsA v = some [v]) {t : T} (ht : t.length = 29) (h6 : getT t 6 = .ptr G.length 0) :
    (envL prog).yield (G.length + 2) [.int .i64 (dev : Int), .ptr q 0] (G ++ [.rw [v0, v1], .rw [.ptr p 0], .loop ⟨.ready, .normal, t, [14, 15], kaq19x0, kbq19x0⟩]) = some (.bool true, setD G d ((crashS (L.map (·.2)) zs).map (fun s => (AV.nilSl, s))) ++ [.rw [v0, v1], .rw [.ptr p 0], .loop ⟨.ready, .normal, t, [14, 15], kaq19x0, kbq19x0⟩]) := by
  have hd := lt_of_at k.blk
  have hdev : dev < 2 := (List.getElem?_eq_some_iff.1 hv).1
  have e1 : (G ++ [ABlk.rw [v0, v1], .rw [.ptr p 0], .loop ⟨.ready, .normal, t, [14, 15], kaq19x0, kbq19x0⟩]).set (G.length + 2) (.loop ⟨.busy, .normal, t, [14, 15], kaq19x0, kbq19x0⟩) = G ++ [.rw [v0, v1], .rw [.ptr p 0], .loop ⟨.busy, .normal, t, [14, 15], kaq19x0, kbq19x0⟩] := by
    rw [List.set_append_right _ _ (by omega)]; simp
  obtain ⟨H', dk, kk, e⟩ := diskCrashC (H := G ++ [.rw [v0, v1], .rw [.ptr p 0], .loop ⟨.busy, .normal, t, [14, 15], kaq19x0, kbq19x0⟩]) (k.fr (Fr.adds ⟨_, rfl⟩ (fun _ => False)) (fun _ _ h => h)) (b.mono _) hu hl (fun b hb => ⟨by have := (hvb b hb).1; simp; omega, (hvb b hb).2⟩) hvc
  have eH := keep_eq kk dk.blk
  rw [set_app _ hd] at eH
  subst eH
  have cc : ∀ (x : ABlk), cellsOf (G ++ [.rw [v0, v1], .rw [.ptr p 0], x]) G.length = some [v0, v1] := fun x => by unfold cellsOf; simp
  have hix : idxAddrA 2 1 (.ptr G.length 0) (.int .i64 (dev : Int)) = some (.ptr G.length dev) := by
    rw [idx_arr, if_pos ⟨by omega, by omega⟩]; simp
  have st := fun {ex : Ex} {t2 : T} {K2 : AHeap} (hb : runC (envL prog) (bq19x0 (envL prog)) ((((t.set 14 (.int .i64 (dev : Int))).set 15 (.ptr q 0)).set 7 (.int .i64 (dev : Int))).set 8 (.ptr q 0)) (G ++ [.rw [v0, v1], .rw [.ptr p 0], .loop ⟨.busy, .normal, t, [14, 15], kaq19x0, kbq19x0⟩]) = some (ex, t2, K2)) (h2 : K2[G.length + 2]? = some (.loop ⟨.busy, .normal, t, [14, 15], kaq19x0, kbq19x0⟩)) => yield_step (P := prog) (l := G.length + 2) (args := [.int .i64 (dev : Int), .ptr q 0]) (K := G ++ [.rw [v0, v1], .rw [.ptr p 0], .loop ⟨.ready, .normal, t, [14, 15], kaq19x0, kbq19x0⟩]) (eaq19x0 _) (ebq19x0 _) (e0 := .normal) (T0 := t) (ps := [14, 15]) (by rw [List.getElem?_append_right (by omega)]; simp) rfl
    (t1 := (((t.set 14 (.int .i64 (dev : Int))).set 15 (.ptr q 0)).set 7 (.int .i64 (dev : Int))).set 8 (.ptr q 0)) (by
      unfold aq19x0
      simp -implicitDefEqProofs (maxSteps := 5000000) only [go_sem, Nat.reduceShiftRight, Nat.reduceAnd, Nat.reduceBNe, Int.reduceEq, Nat.reduceAdd, Nat.reduceSub, Nat.reduceMul, Nat.reduceLeDiff, reduceIte, reduceCtorEq, Nat.reduceBEq, Nat.reduceEqDiff, putParams, getT_set, ht, List.length_set, Nat.reduceLT]) (by rw [e1]; exact hb) h2
  have ob : Outs (runC (envL prog) (bq19x0 (envL prog)) ((((t.set 14 (.int .i64 (dev : Int))).set 15 (.ptr q 0)).set 7 (.int .i64 (dev : Int))).set 8 (.ptr q 0)) (G ++ [.rw [v0, v1], .rw [.ptr p 0], .loop ⟨.busy, .normal, t, [14, 15], kaq19x0, kbq19x0⟩])) fun e _ K' => e = .normal ∧ K' = G.set d (.rw (((crashS (L.map (·.2)) zs).map (fun s => (AV.nilSl, s))).map secR).flatten) ++ [.rw [v0, v1], .rw [.ptr p 0], .loop ⟨.busy, .normal, t, [14, 15], kaq19x0, kbq19x0⟩] := by
    unfold bq19x0
    simp -implicitDefEqProofs (maxSteps := 5000000) only [go_sem, Nat.reduceShiftRight, Nat.reduceAnd, Nat.reduceBNe, Int.reduceEq, Nat.reduceAdd, Nat.reduceSub, Nat.reduceMul, Nat.reduceLeDiff, reduceIte, reduceCtorEq, Nat.reduceBEq, Nat.reduceEqDiff, getT_set, ht, h6, List.length_set, Nat.reduceLT, hix, cc, hv, e, outs_normal]
  obtain ⟨ex, t2, K2, er, rfl, rfl⟩ := ob
  have hl2 : (G.set d (.rw (((crashS (L.map (·.2)) zs).map (fun s => (AV.nilSl, s))).map secR).flatten)).length = G.length := by simp
  rw [st er (by rw [List.getElem?_append_right (by omega), hl2]; simp)]
  rw [trim_same (by rw [List.length_set, List.length_append, List.length_append, hl2]; rfl), List.set_append_right _ _ (by omega), hl2]
  unfold setD
  simp [Ex.isNormal]
section
variable {H : AHeap} {p p0 d0 p1 d1 c : Nat} {L0 L1 : List (AV × Sec)} {r : RgS} (m : RG H p p0 d0 p1 d1 c L0 L1 r)
include m
set_option maxHeartbeats 4000000 in
theorem rigCrashC {v0 v1 : AV} {z0 z1 : List Int} (b0 : BS H v0 z0) (b1 : BS H v1 z1) (u0 : IsU8 z0) (u1 : IsU8 z1) (l0 : LenOk v0) (l1 : LenOk v1) (n0 : ∀ b, slb v0 = some b → b < H.length ∧ ¬ fpR p p0 d0 p1 d1 L0 L1 b) (n1 : ∀ b, slb v1 = some b → b < H.length ∧ ¬ fpR p p0 d0 p1 d1 L0 L1 b) :
    ∃ H' L0' L1', RG H' p p0 d0 p1 d1 c L0' L1' (r.crash z0 z1) ∧ Fr H H' (fpR p p0 d0 p1 d1 L0 L1) ∧ H'.length = H.length ∧ (∀ b, fpR p p0 d0 p1 d1 L0' L1' b → fpR p p0 d0 p1 d1 L0 L1 b) ∧
      (envL prog).call 19 [.ptr p 0, v0, v1] H = some (.tup [], H') := by
  have hp := lt_of_at m.blk
  have hd0 := lt_of_at m.k0.blk
  have hd1 := lt_of_at m.k1.blk
  have vc : ∀ (v : AV) (z : List Int), BS H v z → cellsA v = some [v] ∧ v.isCell = true := fun v z h => by
    rcases h with ⟨rfl, _⟩ | ⟨_, _, _, _, _, rfl, _⟩ <;> exact ⟨rfl, rfl⟩
  obtain ⟨a0, i0⟩ := vc v0 z0 b0
  obtain ⟨a1, i1⟩ := vc v1 z1 b1
  -- the fast disk's turn
  have em : ∀ (L : List (AV × Sec)) (z : List Int), ((crashS (L.map (·.2)) z).map (fun s => (AV.nilSl, s))).map (·.2) = crashS (L.map (·.2)) z := fun L z => by rw [List.map_map]; exact List.map_id'' (fun _ => rfl) _
  have nn : ∀ (S : List Sec), ∀ x ∈ S.map (fun s => (AV.nilSl, s)), slb x.1 = none := fun S x hx => by obtain ⟨y, _, rfl⟩ := List.mem_map.1 hx; rfl
  obtain ⟨H1, k0', kk0, _⟩ := diskCrashC m.k0 b0 u0 l0 (fun b hb => ⟨(n0 b hb).1, fun e => (n0 b hb).2 (.inr (.inl (.inr (.inl e))))⟩) a0
  have t0 := m.turn0 k0' (Fr.keep kk0) (fun b h => by simp at h; subst h; exact .inr (.inl rfl)) (Nat.le_refl _) m.k0.vs.cb (fun b hb => .inl (fpD_nil (nn _) hb))
  rw [em, m.e0] at t0
  have e1 := keep_eq kk0 k0'.blk
  have lH1 := kk0.1
  have bs1 : BS H1 v1 z1 := BS.fr b1 (Fr.keep kk0) fun b hb hm => by
    simp at hm; subst hm; exact (n1 _ hb).2 (.inr (.inl (.inr (.inl rfl))))
  obtain ⟨H2, k1', kk1, _⟩ := diskCrashC t0.k1 bs1 u1 l1 (fun b hb => ⟨by rw [lH1]; exact (n1 b hb).1, fun e => (n1 b hb).2 (.inr (.inr (.inr (.inl e))))⟩) a1
  have t1 := t0.turn1 k1' (Fr.keep kk1) (fun b h => by simp at h; subst h; exact .inr (.inl rfl)) (Nat.le_refl _) m.k1.vs.cb (fun b hb => .inl (fpD_nil (nn _) hb))
  rw [em, t0.e1] at t1
  have e2 := keep_eq kk1 k1'.blk
  have lH2 := kk1.1
  have t2 := t1.set (r.crash z0 z1) rfl rfl
  have fr : Fr H (H2.set p (.rw (rgCells p0 p1 (r.crash z0 z1)))) (fpR p p0 d0 p1 d1 L0 L1) :=
    (((Fr.keep kk0).mono fun b _ hb => by simp at hb; subst hb; exact .inr (.inl (.inr (.inl rfl)))).trans ((Fr.keep kk1).mono (G := fpR p p0 d0 p1 d1 L0 L1) fun b _ hb => by simp at hb; subst hb; exact .inr (.inr (.inr (.inl rfl)))) (fun b _ h => h)).trans (Fr.set _ _ (F := fpR p p0 d0 p1 d1 L0 L1) (.inl rfl)) (fun b _ h => h)
  have lH3 : (H2.set p (.rw (rgCells p0 p1 (r.crash z0 z1)))).length = H.length := by rw [List.length_set]; omega
  refine ⟨_, _, _, t2, fr, lH3, fun b hb => ?_, ?_⟩
  · rcases hb with rfl | hb | hb
    · exact .inl rfl
    · exact .inr (.inl (fpD_nil (nn _) hb))
    · exact .inr (.inr (fpD_nil (nn _) hb))
  -- the walk
  have it : ∀ t : T, (t.length = 29 ∧ getT t 6 = .ptr H.length 0) → (envL prog).call 47 [.yld (H.length + 2), .ptr (H.length + 1) 0] (H ++ [.rw [v0, v1], .rw [.ptr p 0], .loop ⟨.ready, .normal, t, [14, 15], kaq19x0, kbq19x0⟩]) = some (.tup [], H2 ++ [.rw [v0, v1], .rw [.ptr p 0], .loop ⟨.ready, .normal, t, [14, 15], kaq19x0, kbq19x0⟩]) := by
    rintro T ⟨hT, h6⟩
    have y0 := crashYield (p := p) (v0 := v0) (v1 := v1) (dev := 0) m.k0 rfl b0 u0 l0 (fun b hb => ⟨(n0 b hb).1, fun e => (n0 b hb).2 (.inr (.inl (.inr (.inl e))))⟩) a0 hT h6
    have y1 := crashYield (p := p) (v0 := v0) (v1 := v1) (dev := 1) t0.k1 rfl bs1 u1 l1 (fun b hb => ⟨by rw [lH1]; exact (n1 b hb).1, fun e => (n1 b hb).2 (.inr (.inr (.inr (.inl e))))⟩) a1 hT (by rw [lH1]; exact h6)
    rw [show setD H d0 ((crashS (L0.map (·.2)) z0).map (fun s => (AV.nilSl, s))) = H1 from e1.symm] at y0
    rw [show setD H1 d1 ((crashS (L1.map (·.2)) z1).map (fun s => (AV.nilSl, s))) = H2 from e2.symm, lH1] at y1
    rw [show ((0 : Nat) : Int) = 0 from rfl] at y0
    rw [show ((1 : Nat) : Int) = 1 from rfl] at y1
    rw [eachC (p := p) (rest := [.int .i64 r.fuse, .bool r.down, .int .i64 r.done]) (by unfold cellsOf; simp) (cells_old (cells_rw m.blk)) y0 y1]
    exact trim_same (by rw [List.length_append, List.length_append, lH2, lH1])
  have e3 := fun t h1 h2 => it t ⟨h1, h2⟩
  have er := fun B => rigEach (p := p) (H ++ B)
  have w1 : ∀ B, writeN (H2 ++ B) p 2 [.int .i64 (-1)] = some (H2.set p (.rw (rgCells p0 p1 { r with a := crashS r.a z0, b := crashS r.b z1, fuse := -1 })) ++ B) := fun B => by
    have hb : (H2 ++ B)[p]? = some (.rw (rgCells p0 p1 { r with a := crashS r.a z0, b := crashS r.b z1 })) := by rw [List.getElem?_append_left (by omega)]; exact t1.blk
    rw [write_of hb, if_pos ⟨by simp [rgCells], rfl⟩, splice_one, set_app _ (by omega)]; rfl
  have w2 : ∀ B, writeN (H2.set p (.rw (rgCells p0 p1 { r with a := crashS r.a z0, b := crashS r.b z1, fuse := -1 })) ++ B) p 3 [.bool false] = some (H2.set p (.rw (rgCells p0 p1 (r.crash z0 z1))) ++ B) := fun B => by
    have hb : (H2.set p (.rw (rgCells p0 p1 { r with a := crashS r.a z0, b := crashS r.b z1, fuse := -1 })) ++ B)[p]? = some (.rw (rgCells p0 p1 { r with a := crashS r.a z0, b := crashS r.b z1, fuse := -1 })) := by
      rw [List.getElem?_append_left (by rw [List.length_set]; omega)]; exact at_set _ _ _ (by omega)
    rw [write_of hb, if_pos ⟨by simp [rgCells], rfl⟩, splice_one, set_app _ (by rw [List.length_set]; omega), List.set_set]; rfl
  have l3 : ∀ (x y z : ABlk), (H2 ++ [x, y, z])[H.length + 2]? = some z := fun x y z => by
    rw [← lH1, ← lH2, List.getElem?_append_right (by omega)]; simp
  have l4 : ∀ (x y z k : ABlk), (H2 ++ [x, y, z]).set (H.length + 2) k = H2 ++ [x, y, k] := fun x y z k => by
    rw [← lH1, ← lH2, List.set_append_right _ _ (by omega)]; simp
  have o : Outs (runC (envL prog) (b19 (envL prog)) ([.ptr p 0, v0, v1] ++ List.replicate (29 - [AV.ptr p 0, v0, v1].length) .undef) H) fun e' t K' => (∃ B, K' = H2.set p (.rw (rgCells p0 p1 (r.crash z0 z1))) ++ B) ∧ fin [] (some (e', t, K')) = some (.tup [], K') := by
    unfold b19
    generalize hQ : (fun (e' : Ex) (t : T) (K' : AHeap) => (∃ B, K' = H2.set p (.rw (rgCells p0 p1 (r.crash z0 z1))) ++ B) ∧ fin [] (some (e', t, K')) = some (AV.tup [], K')) = Q
    have hc2 : ([v0, v1] : List AV).all AV.isCell = true := by simp [i0, i1]
    simp -implicitDefEqProofs (maxSteps := 5000000) only [go_sem, Nat.reduceShiftRight, Nat.reduceAnd, Nat.reduceBNe, Int.reduceEq, Nat.reduceAdd, Nat.reduceSub, Nat.reduceMul, Nat.reduceLeDiff, reduceIte, reduceCtorEq, Nat.reduceBEq, Nat.reduceEqDiff, a0, a1, i0, i1, hc2, store_one, write_zero, splice_more, er, runC_range, callF_fn, e3, rangeEnd, l3, l4, w1, w2, outs_normal]
    subst hQ
    refine ⟨⟨_, rfl⟩, ?_⟩
    simp -implicitDefEqProofs (maxSteps := 5000000) only [go_sem, Nat.reduceShiftRight, Nat.reduceAnd, Nat.reduceBNe, Int.reduceEq, Nat.reduceAdd, Nat.reduceSub, Nat.reduceMul, Nat.reduceLeDiff, reduceIte, reduceCtorEq, Nat.reduceBEq, Nat.reduceEqDiff]
  obtain ⟨e', t, K', hr, ⟨B, rfl⟩, hf⟩ := o
  rw [c19, hr, hf, trim_take (by rw [List.length_append]; omega) rfl (fun b k' hb hk => ?_)]
  · rw [← lH3, List.take_left]
  · rw [List.getElem?_append_left (by omega)] at hk
    have hlt : ∀ x, x < H.length → AV.under H.length (.ptr x 0) = true := fun x hx => by simp [AV.under, hx]
    by_cases q : b = p
    · subst q
      rw [t2.blk] at hk
      injection hk with hk; subst hk
      refine .inr fun a ha => ?_
      simp only [ABlk.vals, rgCells, List.mem_cons, List.not_mem_nil, or_false] at ha
      rcases ha with rfl | rfl | rfl | rfl | rfl
      · exact hlt _ (lt_of_cells m.k0.ptr)
      · exact hlt _ (lt_of_cells m.k1.ptr)
      · rfl
      · rfl
      · rfl
    · by_cases q0 : b = d0
      · subst q0
        rw [t2.k0.blk] at hk
        injection hk with hk; subst hk
        have := secR_under t2.k0.vs
        rw [lH3] at this
        exact .inr this
      · by_cases q1 : b = d1
        · subst q1
          rw [t2.k1.blk] at hk
          injection hk with hk; subst hk
          have := secR_under t2.k1.vs
          rw [lH3] at this
          exact .inr this
        · rw [at_set_ne _ _ _ _ q, kk1.2 b (by simpa using q1), kk0.2 b (by simpa using q0)] at hk
          exact .inl hk
end
end Go.Proofs.Ythjkfincekckhaa.G04

