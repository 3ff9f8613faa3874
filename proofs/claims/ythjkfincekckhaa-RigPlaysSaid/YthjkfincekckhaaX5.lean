/- What the functions that RigPlays reaches answer, for every argument. No condition but those in each statement. -/
import Derived.Test.YthjkfincekckhaaX4
set_option linter.unusedSimpArgs false
set_option linter.unusedVariables false
set_option linter.unusedSectionVars false
set_option maxRecDepth 10000
namespace Go.Proofs.Ythjkfincekckhaa.G04
open Go Go.Proofs.Ythjkfincekckhaa.Eng
section
variable {H : AHeap} {p c : Nat} {x y : Pl} {L0 L1 : List (AV × Sec)} {r : RgS} (m : RQ H p x y c L0 L1 r)
include m
theorem rqTurnF {dev : Int} (hdev : dev = 0 ∨ dev = 1) : ∃ (q : Pl) (o : Nat) (H' : AHeap) (L0' L1' : List (AV × Sec)), idxAddrA 2 1 (.ptr p 0) (.int .i64 dev) = some (.ptr p o) ∧ (∀ rr, (rgCells x.p y.p rr)[o]? = some (.ptr q.p 0)) ∧ (envL prog).call 38 [.ptr q.p 0] H = some (.tup [], H') ∧ RQ H' p x y c L0' L1' (r.put dev ((r.dk dev).map settled)) ∧ Fr H H' (fpW p x y L0 L1) ∧ H'.length = H.length ∧ (∀ b, fpW p x y L0' L1' b → fpW p x y L0 L1 b) := by
  have em : ∀ L : List (AV × Sec), (L.map flX').map (·.2) = (L.map (·.2)).map settled := fun L => by simp only [List.map_map]; rfl
  have nn : ∀ L : List (AV × Sec), ∀ z ∈ L.map flX', slb z.1 = none := fun L z hz => by obtain ⟨w, _, rfl⟩ := List.mem_map.1 hz; rfl
  rcases hdev with rfl | rfl
  · obtain ⟨H', k, kk, e⟩ := refFlushC m.k0
    have hF : ∀ b, b ∈ [x.s, x.v] → fpP x L0 b := fun b h => by
      simp only [List.mem_cons, List.not_mem_nil, or_false] at h
      rcases h with rfl | rfl
      · exact .inr (.inl rfl)
      · exact .inr (.inr (.inl rfl))
    have t := m.turn0 k (Fr.keep kk) hF (Nat.le_refl _) (fun b hb => .inl (fpP_nil (nn _) hb))
    rw [em, m.e0] at t
    refine ⟨x, 0, H', _, _, rfl, fun _ => rfl, e, t, (Fr.keep kk).mono fun b _ hb => .inr (.inl (hF b hb)), kk.1, fun b hb => ?_⟩
    rcases hb with rfl | hb | hb
    · exact .inl rfl
    · exact .inr (.inl (fpP_nil (nn _) hb))
    · exact .inr (.inr hb)
  · obtain ⟨H', k, kk, e⟩ := refFlushC m.k1
    have hF : ∀ b, b ∈ [y.s, y.v] → fpP y L1 b := fun b h => by
      simp only [List.mem_cons, List.not_mem_nil, or_false] at h
      rcases h with rfl | rfl
      · exact .inr (.inl rfl)
      · exact .inr (.inr (.inl rfl))
    have t := m.turn1 k (Fr.keep kk) hF (Nat.le_refl _) (fun b hb => .inl (fpP_nil (nn _) hb))
    rw [em, m.e1] at t
    refine ⟨y, 1, H', _, _, rfl, fun _ => rfl, e, t, (Fr.keep kk).mono fun b _ hb => .inr (.inr (hF b hb)), kk.1, fun b hb => ?_⟩
    rcases hb with rfl | hb | hb
    · exact .inl rfl
    · exact .inr (.inl hb)
    · exact .inr (.inr (fpP_nil (nn _) hb))
set_option maxHeartbeats 4000000 in
theorem rqFlushC (dev : Int) : ∃ H' L0' L1', RQ H' p x y c L0' L1' (r.flush dev).1 ∧ Fr H H' (fpW p x y L0 L1) ∧ H'.length = H.length ∧ (∀ b, fpW p x y L0' L1' b → fpW p x y L0 L1 b) ∧
    (envL prog).call 18 [.ptr p 0, .int .i64 dev] H = some (.int .i64 (r.flush dev).2, H') := by
  by_cases hdev : dev = 0 ∨ dev = 1
  · have d1 : decide (dev < 0) = false := decide_eq_false (by omega)
    have d2 : decide (dev > 1) = false := decide_eq_false (by omega)
    obtain ⟨mp, cp⟩ := rqThroughC m
    have lp : (H.set p (.rw (rgCells x.p y.p r.pass.1))).length = H.length := by simp
    have fp : Fr H (H.set p (.rw (rgCells x.p y.p r.pass.1))) (fpW p x y L0 L1) := Fr.set _ _ (.inl rfl)
    by_cases hq : r.pass.2 = 0
    · obtain ⟨q, o, H', L0', L1', ia, io, ef, mt, ft, lt, fn⟩ := rqTurnF mp hdev
      have hpa : r.pass.1.dk dev = r.dk dev := by
        have : r.pass.1.a = r.a ∧ r.pass.1.b = r.b := by unfold RgS.pass; split <;> exact ⟨rfl, rfl⟩
        unfold RgS.dk; rw [this.1, this.2]
      have er : r.flush dev = (r.pass.1.put dev ((r.pass.1.dk dev).map settled), 0) := by unfold RgS.flush; rw [if_pos hdev, if_pos hq, hpa]
      rw [er]
      refine ⟨H', L0', L1', mt, fp.trans ft (fun b _ h => h), by rw [lt, lp], fn, ?_⟩
      have tr : trim H (some (.int .i64 0, H')) = some (.int .i64 0, H') := trim_same (by rw [lt, lp])
      have dq : decide (r.pass.2 = 0) = true := decide_eq_true hq
      rw [dq] at cp
      have hbp := cells_rw mp.blk
      have hio := io r.pass.1
      rw [c18]
      unfold b18
      simp -implicitDefEqProofs (maxSteps := 5000000) only [go_sem, Nat.reduceShiftRight, Nat.reduceAnd, Nat.reduceBNe, Int.reduceEq, Nat.reduceAdd, Nat.reduceSub, Nat.reduceMul, Nat.reduceLeDiff, reduceIte, reduceCtorEq, Nat.reduceBEq, Nat.reduceEqDiff, d1, d2, cp, hbp, ia, hio, ef, tr]
    · have er : r.flush dev = r.pass := by unfold RgS.flush; rw [if_pos hdev, if_neg hq]
      rw [er]
      have hq14 : r.pass.2 = 14 := by unfold RgS.pass at hq ⊢; split at hq; rw [if_pos (by assumption)]; simp at hq
      refine ⟨_, L0, L1, mp, fp, lp, fun b h => h, ?_⟩
      rw [hq14]
      have tr : trim H (some (.int .i64 14, H.set p (.rw (rgCells x.p y.p r.pass.1)))) = some (.int .i64 14, H.set p (.rw (rgCells x.p y.p r.pass.1))) := trim_same lp
      have dq : decide (r.pass.2 = 0) = false := decide_eq_false hq
      rw [dq] at cp
      rw [c18]
      unfold b18
      simp -implicitDefEqProofs (maxSteps := 5000000) only [go_sem, Nat.reduceShiftRight, Nat.reduceAnd, Nat.reduceBNe, Int.reduceEq, Nat.reduceAdd, Nat.reduceSub, Nat.reduceMul, Nat.reduceLeDiff, reduceIte, reduceCtorEq, Nat.reduceBEq, Nat.reduceEqDiff, d1, d2, cp, tr]
  · have er : r.flush dev = (r, 1) := by unfold RgS.flush; rw [if_neg hdev]
    rw [er]
    refine ⟨H, L0, L1, m, Fr.refl _ _, rfl, fun b h => h, ?_⟩
    rw [c18]
    unfold b18
    by_cases hd : dev < 0
    · have d1 := decide_eq_true hd
      simp -implicitDefEqProofs (maxSteps := 5000000) only [go_sem, Nat.reduceShiftRight, Nat.reduceAnd, Nat.reduceBNe, Int.reduceEq, Nat.reduceAdd, Nat.reduceSub, Nat.reduceMul, Nat.reduceLeDiff, reduceIte, reduceCtorEq, Nat.reduceBEq, Nat.reduceEqDiff, d1]
    · have d1 := decide_eq_false hd
      have d2 : decide (dev > 1) = true := decide_eq_true (by omega)
      simp -implicitDefEqProofs (maxSteps := 5000000) only [go_sem, Nat.reduceShiftRight, Nat.reduceAnd, Nat.reduceBNe, Int.reduceEq, Nat.reduceAdd, Nat.reduceSub, Nat.reduceMul, Nat.reduceLeDiff, reduceIte, reduceCtorEq, Nat.reduceBEq, Nat.reduceEqDiff, d1, d2]
set_option maxHeartbeats 4000000 in
theorem rqCrashC {v0 v1 : AV} {z0 z1 : List Int} (b0 : BS H v0 z0) (b1 : BS H v1 z1) (u0 : IsU8 z0) (u1 : IsU8 z1) (n0 : ∀ b, slb v0 = some b → ¬ fpW p x y L0 L1 b) (n1 : ∀ b, slb v1 = some b → ¬ fpW p x y L0 L1 b) :
    ∃ H' L0' L1', RQ H' p x y c L0' L1' (r.crash z0 z1) ∧ Fr H H' (fpW p x y L0 L1) ∧ H'.length = H.length ∧ (∀ b, fpW p x y L0' L1' b → fpW p x y L0 L1 b) ∧
      (envL prog).call 20 [.ptr p 0, v0, v1] H = some (.tup [], H') := by
  have hp := lt_of_at m.blk
  have em : ∀ (L : List (AV × Sec)) (z : List Int), ((crashS (L.map (·.2)) z).map (fun s => (AV.nilSl, s))).map (·.2) = crashS (L.map (·.2)) z := fun L z => by rw [List.map_map]; exact List.map_id'' (fun _ => rfl) _
  have nn : ∀ (S : List Sec), ∀ x ∈ S.map (fun s => (AV.nilSl, s)), slb x.1 = none := fun S x hx => by obtain ⟨y, _, rfl⟩ := List.mem_map.1 hx; rfl
  have hF0 : ∀ b, b ∈ [x.s, x.v] → fpP x L0 b := fun b h => by
    simp only [List.mem_cons, List.not_mem_nil, or_false] at h
    rcases h with rfl | rfl
    · exact .inr (.inl rfl)
    · exact .inr (.inr (.inl rfl))
  have hF1 : ∀ b, b ∈ [y.s, y.v] → fpP y L1 b := fun b h => by
    simp only [List.mem_cons, List.not_mem_nil, or_false] at h
    rcases h with rfl | rfl
    · exact .inr (.inl rfl)
    · exact .inr (.inr (.inl rfl))
  obtain ⟨H1, k0', kk0, e0⟩ := refCrashC m.k0 b0 u0 (fun b hb => ⟨fun e => n0 b hb (.inr (.inl (hF0 b (by simp [e])))), fun e => n0 b hb (.inr (.inl (hF0 b (by simp [e]))))⟩)
  have t0 := m.turn0 k0' (Fr.keep kk0) hF0 (Nat.le_refl _) (fun b hb => .inl (fpP_nil (nn _) hb))
  rw [em, m.e0] at t0
  have bs1 : BS H1 v1 z1 := BS.fr b1 (Fr.keep kk0) fun b hb hm => n1 b hb (.inr (.inl (hF0 b hm)))
  obtain ⟨H2, k1', kk1, e1⟩ := refCrashC t0.k1 bs1 u1 (fun b hb => ⟨fun e => n1 b hb (.inr (.inr (hF1 b (by simp [e])))), fun e => n1 b hb (.inr (.inr (hF1 b (by simp [e]))))⟩)
  have t1 := t0.turn1 k1' (Fr.keep kk1) hF1 (Nat.le_refl _) (fun b hb => .inl (fpP_nil (nn _) hb))
  rw [em, t0.e1] at t1
  have t2 := t1.set (r.crash z0 z1) rfl rfl
  have lH : H2.length = H.length := by rw [kk1.1, kk0.1]
  have fr : Fr H (H2.set p (.rw (rgCells x.p y.p (r.crash z0 z1)))) (fpW p x y L0 L1) :=
    (((Fr.keep kk0).mono fun b _ hb => .inr (.inl (hF0 b hb))).trans ((Fr.keep kk1).mono (G := fpW p x y L0 L1) fun b _ hb => .inr (.inr (hF1 b hb))) (fun b _ h => h)).trans (Fr.set _ _ (F := fpW p x y L0 L1) (.inl rfl)) (fun b _ h => h)
  refine ⟨_, _, _, t2, fr, by rw [List.length_set]; exact lH, fun b hb => ?_, ?_⟩
  · rcases hb with rfl | hb | hb
    · exact .inl rfl
    · exact .inr (.inl (fpP_nil (nn _) hb))
    · exact .inr (.inr (fpP_nil (nn _) hb))
  have c0 := cells_rw m.blk
  have c1 := cells_rw t0.blk
  have w1 : writeN H2 p 2 [.int .i64 (-1)] = some (H2.set p (.rw (rgCells x.p y.p { r with a := crashS r.a z0, b := crashS r.b z1, fuse := -1 }))) := by
    rw [write_of t1.blk, if_pos ⟨by simp [rgCells], rfl⟩, splice_one]; rfl
  have w2 : writeN (H2.set p (.rw (rgCells x.p y.p { r with a := crashS r.a z0, b := crashS r.b z1, fuse := -1 }))) p 3 [.bool false] = some (H2.set p (.rw (rgCells x.p y.p (r.crash z0 z1)))) := by
    rw [write_of (at_set _ _ _ (by omega)), if_pos ⟨by simp [rgCells], rfl⟩, splice_one, List.set_set]; rfl
  have tr : trim H (some (.tup [], H2.set p (.rw (rgCells x.p y.p (r.crash z0 z1))))) = some (.tup [], H2.set p (.rw (rgCells x.p y.p (r.crash z0 z1)))) := trim_same (by rw [List.length_set]; exact lH)
  unfold rgCells at c0 c1
  rw [c20]
  unfold b20
  simp -implicitDefEqProofs (maxSteps := 5000000) only [go_sem, Nat.reduceShiftRight, Nat.reduceAnd, Nat.reduceBNe, Int.reduceEq, Nat.reduceAdd, Nat.reduceSub, Nat.reduceMul, Nat.reduceLeDiff, reduceIte, reduceCtorEq, Nat.reduceBEq, Nat.reduceEqDiff, wrap64, runC_loop, runC_range, callF_fn, callV_fn, callV_yld, yield_eq, yieldBody, yieldRaw, roundMid, roundEnd, rangeEnd, Bool.not_not, put_cons, put_nil, trim_same, at_zero, at_add, set_zero, set_add, store_one, write_zero, write_add, write_head, write_succ, splice_one, splice_more, List.drop_nil, List.take_nil, cell_int, cell_bool, fillS, splice_one, idxA, Ex.isNormal, List.set_nil, List.length_set, List.all_cons, List.all_nil, Bool.and_self, and_self, true_and, and_true, List.getElem?_nil, Int.reduceLT, Int.reduceLE, Int.reduceToNat, Int.toNat_zero, Int.toNat_one, Int.reduceAdd, Int.reduceSub, Int.reduceMul, Int.reduceNeg, Int.reduceBEq, Int.reduceBNe, Int.reduceGE, Int.reduceGT, Nat.reduceLT, trim_keep, under_fn, under_ptr, under_sl, Nat.lt_irrefl, not_lt_add, trim_tail, keepOk, ABlk.vals, Int.cast_ofNat_Int, decide_true, decide_false, List.all_cons, List.all_nil, Nat.zero_mul, Nat.mul_one, Nat.one_mul, idx_arr, c0, c1, e0, e1, store_one, w1, w2, tr]
end
/-! ### New -/
def zthere (n : Nat) : List AV := (List.replicate n (u8s (List.replicate 64 0))).flatten
theorem RD.new {H : AHeap} {p s v n c : Nat} (h1 : cellsOf H p = some [.sl s 0 64 n n true, .sl v 0 1 n n true]) (h2 : H[s]? = some (.rw (zthere n))) (h3 : H[v]? = some (.rw (List.replicate n .nilSl))) (n1 : p ≠ s) (n2 : p ≠ v) (n3 : s ≠ v) (hn : n ≤ 4096) (hc : c ≤ 1000000000) : RD H p s v c (zL n) := by
  refine ⟨by rw [h1]; simp [zL], ?_, ?_, n1, n2, n3, by simp [zL]; exact hn, ⟨hc, fun x hx => ?_, fun x hx => ?_, fun x hx => ?_, fun x hx b hb => ?_, fun i j x y hi hj hne b hb => ?_⟩⟩
  · rw [h2]; unfold zthere zL; rw [List.map_replicate]; rfl
  · rw [h3]; unfold zL; rw [List.map_replicate]
  all_goals try (have e := (List.mem_replicate.1 hx).2; subst e)
  · exact .inl ⟨rfl, rfl⟩
  · exact zsec_ok
  · exact Nat.zero_le _
  · cases hb
  · have e := (List.mem_replicate.1 (List.mem_of_getElem? hi)).2
    subst e; cases hb
theorem fpP_zL {x : Pl} {n b : Nat} (h : fpP x (zL n) b) : b = x.p ∨ b = x.s ∨ b = x.v := by
  rcases h with h | h | h | ⟨z, hz, hb⟩
  · exact .inl h
  · exact .inr (.inl h)
  · exact .inr (.inr h)
  · have e := (List.mem_replicate.1 hz).2
    subst e; cases hb
set_option maxHeartbeats 1000000 in
theorem refNewC {n : Nat} (h1 : 1 ≤ n) (h2 : n ≤ 4096) (H : AHeap) : (envL prog).call 27 [.int .i64 (n : Int)] H = some (.tup [.ptr (H.length + 2) 0, .int .i64 0], H ++ [.rw (zthere n), .rw (List.replicate n .nilSl), .rw [.sl H.length 0 64 n n true, .sl (H.length + 1) 0 1 n n true]]) := by
  have d1 : decide ((n : Int) < 1) = false := decide_eq_false (by omega)
  have d2 : decide ((n : Int) > 4096) = false := decide_eq_false (by omega)
  have mk : ∀ G : AHeap, makeSliceV (ty 64 true 64 (rep 64 (.int .u8 0))) (.int .i64 (n : Int)) (.int .i64 (n : Int)) G = some (.sl G.length 0 64 n n true, G ++ [.rw (zthere n)]) := fun G => by
    rw [make_rows 64 64 n true _ (by omega) (by omega) (by unfold roomy; omega), rep_u8s]; rfl
  have mk2 : ∀ G : AHeap, makeSliceV (ty 1 false 24 [.nilSl]) (.int .i64 (n : Int)) (.int .i64 (n : Int)) G = some (.sl G.length 0 1 n n true, G ++ [.rw (List.replicate n .nilSl)]) := fun G => by
    have e : (List.replicate n [AV.nilSl]).flatten = List.replicate n AV.nilSl := by
      clear d1 d2 h1 h2 mk
      induction n with
      | zero => rfl
      | succ n ih => rw [List.replicate_succ, List.flatten_cons, ih]; rfl
    rw [make_rows 1 24 n false _ (by omega) (by omega) (by unfold roomy; omega), e]
  rw [c27]
  unfold b27
  simp -implicitDefEqProofs (maxSteps := 5000000) only [go_sem, Nat.reduceShiftRight, Nat.reduceAnd, Nat.reduceBNe, Int.reduceEq, Nat.reduceAdd, Nat.reduceSub, Nat.reduceMul, Nat.reduceLeDiff, reduceIte, reduceCtorEq, Nat.reduceBEq, Nat.reduceEqDiff, d1, d2, mk, mk2]
  exact trim_keep (by simp [AV.under, underAll])
theorem refNewBad {n : Int} (h : n < 1 ∨ n > 4096) (H : AHeap) : (envL prog).call 27 [.int .i64 n] H = some (.tup [.nilPtr, .int .i64 1], H) := by
  rw [c27]
  unfold b27
  by_cases h1 : n < 1
  · have d1 := decide_eq_true h1
    simp -implicitDefEqProofs (maxSteps := 5000000) only [go_sem, Nat.reduceShiftRight, Nat.reduceAnd, Nat.reduceBNe, Int.reduceEq, Nat.reduceAdd, Nat.reduceSub, Nat.reduceMul, Nat.reduceLeDiff, reduceIte, reduceCtorEq, Nat.reduceBEq, Nat.reduceEqDiff, d1]
  · have d1 := decide_eq_false h1
    have d2 : decide (n > 4096) = true := decide_eq_true (by omega)
    simp -implicitDefEqProofs (maxSteps := 5000000) only [go_sem, Nat.reduceShiftRight, Nat.reduceAnd, Nat.reduceBNe, Int.reduceEq, Nat.reduceAdd, Nat.reduceSub, Nat.reduceMul, Nat.reduceLeDiff, reduceIte, reduceCtorEq, Nat.reduceBEq, Nat.reduceEqDiff, d1, d2]
/-- The document's rig of a law's own, beside what was there at first. -/
structure LQI (h0 H : AHeap) (p c : Nat) (r : RgS) (F : Nat → Prop) : Prop where
  m : RefIn H p c r F
  old : Adds h0 H
  out : ∀ b, F b → h0.length ≤ b
set_option maxHeartbeats 2000000 in
theorem rqNewC {n0 n1 : Nat} (a1 : 1 ≤ n0) (a2 : n0 ≤ 4096) (b1 : 1 ≤ n1) (b2 : n1 ≤ 4096) (H : AHeap) : ∃ H' F, LQI H H' (H.length + 6) 0 (newRg n0 n1) F ∧ (envL prog).call 11 [.int .i64 (n0 : Int), .int .i64 (n1 : Int)] H = some (.tup [.ptr (H.length + 6) 0, .int .i64 0], H') := by
  have c0 := refNewC a1 a2 H
  have c1 := fun B => refNewC b1 b2 (H ++ B)
  have n00 : ((0 : Int) != 0) = false := rfl
  let H' : AHeap := H ++ [.rw (zthere n0), .rw (List.replicate n0 .nilSl), .rw [.sl H.length 0 64 n0 n0 true, .sl (H.length + 1) 0 1 n0 n0 true], .rw (zthere n1), .rw (List.replicate n1 .nilSl), .rw [.sl (H.length + 3) 0 64 n1 n1 true, .sl (H.length + 4) 0 1 n1 n1 true], .rw [.ptr (H.length + 2) 0, .ptr (H.length + 5) 0, .int .i64 (-1), .bool false, .int .i64 0]]
  have hm : RQ H' (H.length + 6) ⟨H.length + 2, H.length, H.length + 1⟩ ⟨H.length + 5, H.length + 3, H.length + 4⟩ 0 (zL n0) (zL n1) (newRg n0 n1) := by
    refine ⟨by simp [H', rgCells, newRg], RD.new (by unfold cellsOf; simp [H']) (by simp [H']) (by simp [H']) (by simp) (by simp) (by simp) a2 (by omega), RD.new (by unfold cellsOf; simp [H']) (by simp [H']) (by simp [H']) (by simp) (by simp) (by simp) b2 (by omega), by simp [zL, newRg], by simp [zL, newRg], fun b hb hb2 => ?_, fun hb => ?_, fun hb => ?_⟩
    · have := fpP_zL hb
      have := fpP_zL hb2
      simp only at *
      omega
    · have := fpP_zL hb; simp only at this; omega
    · have := fpP_zL hb; simp only at this; omega
  refine ⟨H', fun b => H.length ≤ b ∧ b < H'.length, ⟨⟨_, _, _, _, hm, fun b hb => ⟨?_, hm.lt hb⟩, fun b hb => hb.2⟩, ⟨_, rfl⟩, fun b hb => hb.1⟩, ?_⟩
  · rcases hb with rfl | hb | hb
    · omega
    · have := fpP_zL hb; simp only at this; omega
    · have := fpP_zL hb; simp only at this; omega
  · rw [c11]
    unfold b11
    simp -implicitDefEqProofs (maxSteps := 5000000) only [go_sem, Nat.reduceShiftRight, Nat.reduceAnd, Nat.reduceBNe, Int.reduceEq, Nat.reduceAdd, Nat.reduceSub, Nat.reduceMul, Nat.reduceLeDiff, reduceIte, reduceCtorEq, Nat.reduceBEq, Nat.reduceEqDiff, c0, c1, n00, splice_more]
    exact trim_keep (by simp [AV.under, underAll])
end Go.Proofs.Ythjkfincekckhaa.G04

