/- What the functions that RigPlays reaches answer, for every argument. No condition but those in each statement. -/
import Derived.Test.YthjkfincekckhaaX2
set_option linter.unusedSimpArgs false
set_option linter.unusedVariables false
set_option linter.unusedSectionVars false
set_option maxRecDepth 10000
namespace Go.Proofs.Ythjkfincekckhaa.G04
open Go Go.Proofs.Ythjkfincekckhaa.Eng
theorem ver_at {H : AHeap} {v : AV} {s : Sec} (g : GR 64 H 0 v (verR s)) (ok : s.Ok) {k : Nat} {z : List Int} (hk : s.vers[k]? = some z) : ∃ b cs, v = .sl b 0 64 s.vers.length s.vers.length false ∧ cellsOf H b = some cs ∧ k * 64 + 64 ≤ cs.length ∧ (cs.drop (k * 64)).take 64 = u8s z := by
  have hl : (verR s).length = s.vers.length := by unfold verR; simp
  rcases g with ⟨h1, _⟩ | ⟨h1, b, _, rfl, hH⟩
  · have : s.vers = [] := by unfold verR at h1; simpa using h1
    rw [this] at hk; simp at hk
  · obtain ⟨q1, q2⟩ := rows_sub (verR_len ok) (get_map u8s hk) 0 64 (by omega)
    rw [Nat.add_zero] at q1 q2
    refine ⟨b, _, by rw [hl], cells_rw hH, q2, ?_⟩
    rw [q1, List.drop_zero]
    exact u8s_take (ok.v z (List.mem_of_getElem? hk)).1
theorem IS.fr {H H' : AHeap} {F : Nat → Prop} {v : AV} {zs : List Int} (h : IS H v zs) (a : Fr H H' F) (hn : ∀ b, slb v = some b → ¬ F b) : IS H' v zs := by
  rcases h with h | ⟨b, o, l, e, cs, rfl, hc, h⟩
  · exact .inl h
  · exact .inr ⟨b, o, l, e, cs, rfl, a.cells hc (hn b rfl), h⟩
set_option maxHeartbeats 4000000 in
theorem refCrashL {H1 : AHeap} {p s v c : Nat} {L : List (AV × Sec)} {zs : List Int} {w l : AV} (hn : L.length ≤ 4096) (hv : ∀ x ∈ L, x.2.vers = [] → x.1 = .nilSl) (hl : IS H1 l ((looseF (L.map (·.2)) 0).map fun (n : Nat) => (n : Int))) (hb : BS H1 w zs) (hu : IsU8 zs) (nl : ∀ b, slb l = some b → b ≠ s ∧ b ≠ v) (nw : ∀ b, slb w = some b → b ≠ s ∧ b ≠ v)
    (x2 x3 x8 x9 : AV) : ∀ (k j t : Nat) (G : AHeap) (j6 j7 j10 j11 j12 j13 j14 j15 j16 j17 j18 j19 j20 j21 j22 j23 j24 j25 j26 j27 j28 j29 j30 j31 j32 j33 j34 j35 j36 j37 j38 j39 j40 j41 j42 j43 j44 j45 j46 j47 j48 j49 j50 j51 j52 j53 j54 j55 j56 j57 j58 j59 j60 j61 j62 j63 : AV), RD G p s v c (crL L zs t) → KeepB H1 G [s, v] → t ≤ L.length → looseF ((L.map (·.2)).drop t) t = (looseF (L.map (·.2)) 0).drop j → crashR (L.map (·.2)) zs t = zs.drop j → j + k = (looseF (L.map (·.2)) 0).length →
    Outs (LQ l41x0 [.ptr p 0, w, x2, x3, l, .int .i64 (j : Int), j6, j7, x8, x9, j10, j11, j12, j13, j14, j15, j16, j17, j18, j19, j20, j21, j22, j23, j24, j25, j26, j27, j28, j29, j30, j31, j32, j33, j34, j35, j36, j37, j38, j39, j40, j41, j42, j43, j44, j45, j46, j47, j48, j49, j50, j51, j52, j53, j54, j55, j56, j57, j58, j59, j60, j61, j62, j63] G) fun e t G' => e = .exit 0 ∧ RD G' p s v c (crL L zs L.length) ∧ KeepB H1 G' [s, v] ∧ ∃ k : Nat → AV, t = [.ptr p 0, w, x2, x3, l, (k 5), (k 6), (k 7), x8, x9, (k 10), (k 11), (k 12), (k 13), (k 14), (k 15), (k 16), (k 17), (k 18), (k 19), (k 20), (k 21), (k 22), (k 23), (k 24), (k 25), (k 26), (k 27), (k 28), (k 29), (k 30), (k 31), (k 32), (k 33), (k 34), (k 35), (k 36), (k 37), (k 38), (k 39), (k 40), (k 41), (k 42), (k 43), (k 44), (k 45), (k 46), (k 47), (k 48), (k 49), (k 50), (k 51), (k 52), (k 53), (k 54), (k 55), (k 56), (k 57), (k 58), (k 59), (k 60), (k 61), (k 62), (k 63)] := by
  intro k
  obtain ⟨Lp, hL⟩ : ∃ L, L = LQ l41x0 := ⟨_, rfl⟩
  have lo := loop_open hL
  rw [← hL]
  have hll := hl.len
  rw [List.length_map] at hll
  have jn := looseF_len (L.map (·.2)) 0
  rw [List.length_map] at jn
  induction k with
  | zero =>
    intro j t G j6 j7 j10 j11 j12 j13 j14 j15 j16 j17 j18 j19 j20 j21 j22 j23 j24 j25 j26 j27 j28 j29 j30 j31 j32 j33 j34 j35 j36 j37 j38 j39 j40 j41 j42 j43 j44 j45 j46 j47 j48 j49 j50 j51 j52 j53 j54 j55 j56 j57 j58 j59 j60 j61 j62 j63 mg kg ht hJ hR hj
    obtain rfl : j = (looseF (L.map (·.2)) 0).length := by omega
    rw [List.drop_length] at hJ
    have hd : decide (((looseF (L.map (·.2)) 0).length : Int) < ((looseF (L.map (·.2)) 0).length : Int)) = false := by simp
    have hfin : crL L zs t = crL L zs L.length := by
      rcases loose_next (zs := zs) hv (L.length - t) t (by omega) with ⟨_, q⟩ | ⟨i, x, _, _, _, q, _⟩
      · exact q
      · rw [hJ] at q; cases q
    rw [hfin] at mg
    rw [lo]
    unfold l41x0
    simp -implicitDefEqProofs (maxSteps := 5000000) only [go_sem, Nat.reduceShiftRight, Nat.reduceAnd, Nat.reduceBNe, Int.reduceEq, Nat.reduceAdd, Nat.reduceSub, Nat.reduceMul, Nat.reduceLeDiff, reduceIte, reduceCtorEq, Nat.reduceBEq, Nat.reduceEqDiff, hll, hd, seqR_exit', outs_normal]
    exact ⟨mg, kg, exF rfl⟩
  | succ k ih =>
    intro j t G j6 j7 j10 j11 j12 j13 j14 j15 j16 j17 j18 j19 j20 j21 j22 j23 j24 j25 j26 j27 j28 j29 j30 j31 j32 j33 j34 j35 j36 j37 j38 j39 j40 j41 j42 j43 j44 j45 j46 j47 j48 j49 j50 j51 j52 j53 j54 j55 j56 j57 j58 j59 j60 j61 j62 j63 mg kg ht hJ hR hj
    have hjl : j < (looseF (L.map (·.2)) 0).length := by omega
    have hJd := List.drop_eq_getElem_cons hjl
    rcases loose_next (zs := zs) hv (L.length - t) t (by omega) with ⟨q, _⟩ | ⟨i, x, hti, hx, h1, hq, hc, hcR⟩
    · rw [hJ, hJd] at q; cases q
    have hJe := hJ
    rw [hq, hJd] at hJe
    injection hJe with he hJ'
    have hJi : ((looseF (L.map (·.2)) 0).map fun (n : Nat) => (n : Int))[j]? = some (i : Int) := by
      rw [List.getElem?_map, List.getElem?_eq_getElem hjl, ← he]; rfl
    rw [hc] at mg
    have hRi : crashR (L.map (·.2)) zs i = zs.drop j := hcR.trans hR
    have hlt : i < L.length := (List.getElem?_eq_some_iff.1 hx).1
    have hx2 : (crL L zs i)[i]? = some x := by rw [crL_get hlt, hx]
    have hm := mg.ptr
    rw [crL_len L zs (by omega)] at hm
    obtain ⟨_, ⟨cv, hcv, hvx⟩, _, _⟩ := mg.row hx2
    obtain ⟨gv, ok, cap⟩ := mg.vs.at hx2
    have cb := mg.vs.cb
    obtain ⟨hvl, _⟩ := ver_read gv ok
    have nv : 0 < x.2.vers.length := by cases hq : x.2.vers with | nil => exact absurd hq h1 | cons _ _ => simp
    have fr := Fr.keep kg
    have hl2 := IS.fr hl fr fun b hb hm => by simp only [List.mem_cons, List.not_mem_nil, or_false] at hm; have := nl b hb; omega
    have hb2 := BS.fr hb fr fun b hb hm => by simp only [List.mem_cons, List.not_mem_nil, or_false] at hm; have := nw b hb; omega
    obtain ⟨ai, ia, la⟩ := hl2.idx hJi .i64
    have hwl := hb2.len
    have hd : decide ((j : Int) < ((looseF (L.map (·.2)) 0).length : Int)) = true := decide_eq_true (by omega)
    have e2 : IntKind.i64.wrap ((j : Int) + 1) = ((j + 1 : Nat) : Int) := by rw [wrap64 (by omega) (by omega)]; omega
    have ix1 := idx_nat v 1 L.length L.length i true .i64 (by omega) hlt
    rw [Nat.mul_one] at ix1
    have hnext := crashR_drop hx h1 hRi
    have hcr := crL_step (zs := zs) hx
    rw [hRi] at hcr
    -- what is behind the round
    have go : ∀ (G' : AHeap) (y : List Int), RD G' p s v c ((crL L zs i).set i (.nilSl, ⟨y, []⟩)) → KeepB G G' [s, v] → crashSec (zs.drop j) x.2 = ⟨y, []⟩ → RD G' p s v c (crL L zs (i + 1)) ∧ KeepB H1 G' [s, v] := fun G' y mG kG hs => by
      rw [hcr, hs]; exact ⟨mG, kg.trans kG⟩
    have ih := fun G' y j6 j7 j10 j11 j12 j13 j14 j15 j16 j17 j18 j19 j20 j21 j22 j23 j24 j25 j26 j27 j28 j29 j30 j31 j32 j33 j34 j35 j36 j37 j38 j39 j40 j41 j42 j43 j44 j45 j46 j47 j48 j49 j50 j51 j52 j53 j54 j55 j56 j57 j58 j59 j60 j61 j62 j63 mG kG hs => ih (j + 1) (i + 1) G' j6 j7 j10 j11 j12 j13 j14 j15 j16 j17 j18 j19 j20 j21 j22 j23 j24 j25 j26 j27 j28 j29 j30 j31 j32 j33 j34 j35 j36 j37 j38 j39 j40 j41 j42 j43 j44 j45 j46 j47 j48 j49 j50 j51 j52 j53 j54 j55 j56 j57 j58 j59 j60 j61 j62 j63 (go G' y mG kG hs).1 (go G' y mG kG hs).2 (by omega) hJ' hnext (by omega)
    obtain ⟨mN, wN⟩ := mg.setN hx2
    have kN : KeepB G (G.set v (.rw (((crL L zs i).set i (.nilSl, (⟨x.2.there, []⟩ : Sec))).map (·.1)))) [s, v] := KeepB.set _ _ _ _ (by simp)
    by_cases hjz : j < zs.length
    · have hz := List.getElem?_eq_getElem hjz
      have hdz := List.drop_eq_getElem_cons hjz
      have hu0 := hu _ (List.getElem_mem hjz)
      generalize zs[j] = z0 at hz hdz hu0
      obtain ⟨az, iz, lz⟩ := hb2.idx hz .i64
      have dz : decide ((j : Int) < (zs.length : Int)) = true := decide_eq_true (by omega)
      have md0 := Int.emod_nonneg z0 (show ((x.2.vers.length : Int) + 1) ≠ 0 by omega)
      have md1 := Int.emod_lt_of_pos z0 (show 0 < ((x.2.vers.length : Int) + 1) by omega)
      obtain ⟨q, hq'⟩ : ∃ q : Nat, z0 % ((x.2.vers.length : Int) + 1) = q := ⟨(z0 % ((x.2.vers.length : Int) + 1)).toNat, by omega⟩
      have hrem : binV .rem .none (.int .i64 z0) (.int .i64 ((x.2.vers.length + 1 : Nat) : Int)) = some (.int .i64 (q : Int)) := by
        rw [int_rem _ _ _ _ (by omega), Int.tmod_eq_emod_of_nonneg hu0.1, ← hq']; rfl
      have wz : IntKind.i64.wrap z0 = z0 := wrap64 (by omega) (by omega)
      have wn : IntKind.i64.wrap ((x.2.vers.length : Int) + 1) = ((x.2.vers.length + 1 : Nat) : Int) := by rw [wrap64 (by omega) (by omega)]; omega
      have hpk : pickN (zs.drop j) x.2.vers.length = q := by rw [hdz]; show (z0 % ((x.2.vers.length : Int) + 1)).toNat = q; rw [hq', Int.toNat_natCast]
      by_cases hq0 : q = 0
      · subst hq0
        have d0 : decide ((((0 : Nat) : Int)) > 0) = false := rfl
        have hs : crashSec (zs.drop j) x.2 = ⟨x.2.there, []⟩ := by unfold crashSec; rw [if_neg h1, hpk]; rfl
        rw [lo]
        unfold l41x0
        simp -implicitDefEqProofs (maxSteps := 5000000) only [go_sem, Nat.reduceShiftRight, Nat.reduceAnd, Nat.reduceBNe, Int.reduceEq, Nat.reduceAdd, Nat.reduceSub, Nat.reduceMul, Nat.reduceLeDiff, reduceIte, reduceCtorEq, Nat.reduceBEq, Nat.reduceEqDiff, hll, hd, ia, la, hwl, dz, iz, lz, wz, hm, ix1, hcv, hvx, hvl, wn, hrem, d0, e2, store_one, wN]
        exact ih _ x.2.there _ _ _ _ _ _ _ _ _ _ _ _ _ _ _ _ _ _ _ _ _ _ _ _ _ _ _ _ _ _ _ _ _ _ _ _ _ _ _ _ _ _ _ _ _ _ _ _ _ _ _ _ _ _ _ _ mN kN hs
      · obtain ⟨y, hy⟩ : ∃ y, x.2.vers[q - 1]? = some y := ⟨_, List.getElem?_eq_getElem (by omega)⟩
        have oy : B64 y := ok.v y (List.mem_of_getElem? hy)
        obtain ⟨bb, C, hvb, hC, hle, htk⟩ := ver_at gv ok hy
        have d0 : decide ((q : Int) > 0) = true := decide_eq_true (by omega)
        have e1 : IntKind.i64.wrap ((q : Int) - 1) = ((q - 1 : Nat) : Int) := by rw [wrap64 (by omega) (by omega)]; omega
        have ixv := idx_nat bb 64 x.2.vers.length x.2.vers.length (q - 1) false .i64 (by omega) (by omega)
        have ixs := idx_nat s 64 L.length L.length i true .i64 (by omega) hlt
        have hs : crashSec (zs.drop j) x.2 = ⟨y, []⟩ := by
          unfold crashSec
          rw [if_neg h1, hpk]
          obtain ⟨q', rfl⟩ : ∃ q', q = q' + 1 := ⟨q - 1, by omega⟩
          rw [List.getElem?_cons_succ]
          rw [Nat.add_sub_cancel] at hy
          rw [hy]; rfl
        obtain ⟨m1, w1⟩ := mg.setT hx2 oy
        have hx3 : ((crL L zs i).set i (x.1, (⟨y, x.2.vers⟩ : Sec)))[i]? = some (x.1, ⟨y, x.2.vers⟩) := List.getElem?_set_self (by rw [crL_len L zs (by omega)]; exact hlt)
        obtain ⟨m2, w2⟩ := m1.setN hx3
        rw [List.set_set] at m2 w2
        have k1 : KeepB G (G.set s (.rw (((crL L zs i).set i (x.1, (⟨y, x.2.vers⟩ : Sec))).map thereR).flatten)) [s, v] := KeepB.set _ _ _ _ (by simp)
        have p1 := m1.ptr
        rw [List.length_set, crL_len L zs (by omega)] at p1
        generalize hG1 : G.set s (.rw (((crL L zs i).set i (x.1, (⟨y, x.2.vers⟩ : Sec))).map thereR).flatten) = G1 at *
        have w2' : writeN G1 v i [.nilSl] = some (G1.set v (.rw (((crL L zs i).set i (.nilSl, (⟨y, []⟩ : Sec))).map (·.1)))) := w2
        have k2 : KeepB G (G1.set v (.rw (((crL L zs i).set i (.nilSl, (⟨y, []⟩ : Sec))).map (·.1)))) [s, v] := k1.trans (KeepB.set _ _ _ _ (by simp))
        have w64 : (u8s y).length = 64 := by rw [u8s_len]; exact oy.1
        rw [hvb] at hvx
        rw [lo]
        unfold l41x0
        simp -implicitDefEqProofs (maxSteps := 5000000) only [go_sem, Nat.reduceShiftRight, Nat.reduceAnd, Nat.reduceBNe, Int.reduceEq, Nat.reduceAdd, Nat.reduceSub, Nat.reduceMul, Nat.reduceLeDiff, reduceIte, reduceCtorEq, Nat.reduceBEq, Nat.reduceEqDiff, hll, hd, ia, la, hwl, dz, iz, lz, wz, hm, p1, ix1, ixs, ixv, hcv, hvx, wn, hrem, d0, e1, hC, hle, htk, e2, store_one, w64, w1, w2']
        exact ih _ y _ _ _ _ _ _ _ _ _ _ _ _ _ _ _ _ _ _ _ _ _ _ _ _ _ _ _ _ _ _ _ _ _ _ _ _ _ _ _ _ _ _ _ _ _ _ _ _ _ _ _ _ _ _ _ _ m2 k2 hs
    · have dz : decide ((j : Int) < (zs.length : Int)) = false := decide_eq_false (by omega)
      have hs : crashSec (zs.drop j) x.2 = ⟨x.2.there, []⟩ := by
        unfold crashSec
        rw [if_neg h1, List.drop_of_length_le (by omega)]; rfl
      rw [lo]
      unfold l41x0
      simp -implicitDefEqProofs (maxSteps := 5000000) only [go_sem, Nat.reduceShiftRight, Nat.reduceAnd, Nat.reduceBNe, Int.reduceEq, Nat.reduceAdd, Nat.reduceSub, Nat.reduceMul, Nat.reduceLeDiff, reduceIte, reduceCtorEq, Nat.reduceBEq, Nat.reduceEqDiff, hll, hd, ia, la, hwl, dz, hm, ix1, e2, store_one, wN]
      exact ih _ x.2.there _ _ _ _ _ _ _ _ _ _ _ _ _ _ _ _ _ _ _ _ _ _ _ _ _ _ _ _ _ _ _ _ _ _ _ _ _ _ _ _ _ _ _ _ _ _ _ _ _ _ _ _ _ _ _ _ mN kN hs
set_option maxHeartbeats 4000000 in
theorem refCrashC {H : AHeap} {p s v c : Nat} {L : List (AV × Sec)} (m : RD H p s v c L) {w : AV} {zs : List Int} (hb : BS H w zs) (hu : IsU8 zs) (nw : ∀ b, slb w = some b → b ≠ s ∧ b ≠ v) :
    ∃ H', RD H' p s v c ((crashS (L.map (·.2)) zs).map (fun s => (AV.nilSl, s))) ∧ KeepB H H' [s, v] ∧ (envL prog).call 41 [.ptr p 0, w] H = some (.tup [], H') := by
  have hp := lt_of_cells m.ptr
  have hs := lt_of_at m.bs
  have hv := lt_of_at m.bv
  obtain ⟨l, H1, A, hl, hlb, el⟩ := refLooseC m
  have m1 : RD H1 p s v c L := by obtain ⟨G, rfl⟩ := A; exact m.adds G
  have l0 := refCrashL (p := p) (c := c) m.sz (fun x hx h => nil_of (m.vs.ver x hx) h) hl (A.bs hb) hu (fun b h => by have := hlb b h; omega) nw (k := (looseF (L.map (·.2)) 0).length) (j := 0) (t := 0) (G := H1)
  rw [show ((0 : Nat) : Int) = 0 from rfl] at l0
  have c0 : crL L zs 0 = L := by unfold crL; simp
  have o : Outs (runC (envL prog) (b41 (envL prog)) ([.ptr p 0, w] ++ List.replicate (64 - [AV.ptr p 0, w].length) .undef) H) fun e' t K' => (RD K' p s v c (crL L zs L.length) ∧ KeepB H1 K' [s, v]) ∧ fin [] (some (e', t, K')) = some (.tup [], K') := by
    unfold b41
    generalize hQ : (fun (e' : Ex) (t : T) (K' : AHeap) => (RD K' p s v c (crL L zs L.length) ∧ KeepB H1 K' [s, v]) ∧ fin [] (some (e', t, K')) = some (AV.tup [], K')) = Q
    simp -implicitDefEqProofs (maxSteps := 5000000) only [go_sem, Nat.reduceShiftRight, Nat.reduceAnd, Nat.reduceBNe, Int.reduceEq, Nat.reduceAdd, Nat.reduceSub, Nat.reduceMul, Nat.reduceLeDiff, reduceIte, reduceCtorEq, Nat.reduceBEq, Nat.reduceEqDiff, runC_loop, el]
    unfold LQ at l0
    generalize (envL prog).loop (runC (envL prog) (l41x0 (envL prog))) = L0 at l0 ⊢
    refine outs_ctx (fun r => blockR 0 r) (l0 _ _ _ _ _ _ _ _ _ _ _ _ _ _ _ _ _ _ _ _ _ _ _ _ _ _ _ _ _ _ _ _ _ _ _ _ _ _ _ _ _ _ _ _ _ _ _ _ _ _ _ _ _ _ _ _ _ _ _ _ (by rw [c0]; exact m1) (KeepB.refl _ _) (Nat.zero_le _) (by simp) (by cases L <;> rfl) (by omega)) ?_
    rintro e t G ⟨rfl, mg, kg, k, rfl⟩
    simp -implicitDefEqProofs (maxSteps := 5000000) only [go_sem, Nat.reduceShiftRight, Nat.reduceAnd, Nat.reduceBNe, Int.reduceEq, Nat.reduceAdd, Nat.reduceSub, Nat.reduceMul, Nat.reduceLeDiff, reduceIte, reduceCtorEq, Nat.reduceBEq, Nat.reduceEqDiff, outs_normal]
    subst hQ
    refine ⟨⟨mg, kg⟩, ?_⟩
    simp -implicitDefEqProofs (maxSteps := 5000000) only [go_sem, Nat.reduceShiftRight, Nat.reduceAnd, Nat.reduceBNe, Int.reduceEq, Nat.reduceAdd, Nat.reduceSub, Nat.reduceMul, Nat.reduceLeDiff, reduceIte, reduceCtorEq, Nat.reduceBEq, Nat.reduceEqDiff]
  obtain ⟨e', t, K', hr, ⟨mk, kk⟩, hf⟩ := o
  rw [crL_all] at mk
  have hAl := A.len
  have hk1 := kk.1
  have old : ∀ b, b < H.length → b ≠ s → b ≠ v → K'[b]? = H[b]? := fun b hb h1 h2 => by
    rw [kk.2 b (by simp [h1, h2])]
    obtain ⟨G, rfl⟩ := A
    exact List.getElem?_append_left hb
  have fK : Fr H K' (fun b => b = s ∨ b = v) := ⟨by omega, fun b hb hn => old b hb (fun e => hn (.inl e)) (fun e => hn (.inr e))⟩
  refine ⟨K'.take H.length, ⟨?_, ?_, ?_, m.n1, m.n2, m.n3, by simp [crashS_len]; exact m.sz, ⟨m.vs.cb, fun x hx => ?_, mk.vs.ok, mk.vs.cap, mk.vs.out, mk.vs.inj⟩⟩, ⟨take_len fK.1, fun b hb => ?_⟩, ?_⟩
  · rw [take_cells hp]; exact mk.ptr
  · rw [take_get hs]; exact mk.bs
  · rw [take_get hv]; exact mk.bv
  · obtain ⟨y, _, rfl⟩ := List.mem_map.1 hx
    rcases mk.vs.ver _ hx with h | ⟨_, b', _, h0, _⟩
    · exact .inl h
    · cases h0
  · by_cases hlt : b < H.length
    · exact (take_get hlt).trans (fK.2 b hlt (by simpa using hb))
    · rw [List.getElem?_eq_none (by rw [take_len fK.1]; omega), List.getElem?_eq_none (by omega)]
  · rw [c41, hr, hf]
    refine trim_take fK.1 rfl fun b k' hb' hk => ?_
    by_cases e : b = s
    · subst e
      rw [mk.bs] at hk
      injection hk with hk; subst hk
      refine .inr fun a ha => ?_
      obtain ⟨r, hr, ha⟩ := List.mem_flatten.1 ha
      obtain ⟨x, _, rfl⟩ := List.mem_map.1 hr
      exact u8s_under _ _ a ha
    · by_cases e2 : b = v
      · subst e2
        rw [mk.bv] at hk
        injection hk with hk; subst hk
        refine .inr fun a ha => ?_
        obtain ⟨x, hx, rfl⟩ := List.mem_map.1 ha
        obtain ⟨y, _, rfl⟩ := List.mem_map.1 hx
        rfl
      · exact .inl (by rw [← old b hb' e e2]; exact hk)
end Go.Proofs.Ythjkfincekckhaa.G04

