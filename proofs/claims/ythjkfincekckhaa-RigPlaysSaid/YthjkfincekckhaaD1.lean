/- What the functions that RigPlays reaches answer, for every argument. No condition but those in each statement. -/
import Derived.Test.YthjkfincekckhaaN
import Derived.Test.YthjkfincekckhaaE6
set_option linter.unusedSimpArgs false
set_option linter.unusedVariables false
set_option linter.unusedSectionVars false
set_option maxRecDepth 10000
namespace Go.Proofs.Ythjkfincekckhaa.G04
open Go Go.Proofs.Ythjkfincekckhaa.Eng
noncomputable abbrev LQ (l : Env → CT) := (envL prog).loop (runC (envL prog) (l (envL prog)))
theorem diskLenN (h : AHeap) : (envL prog).call 29 [.nilPtr] h = some (.int .i64 0, h) := by
  rw [c29]
  unfold b29
  simp -implicitDefEqProofs (maxSteps := 5000000) only [go_sem, Nat.reduceShiftRight, Nat.reduceAnd, Nat.reduceBNe, Int.reduceEq, Nat.reduceAdd, Nat.reduceSub, Nat.reduceMul, Nat.reduceLeDiff, reduceIte, reduceCtorEq, Nat.reduceBEq, Nat.reduceEqDiff]
section
variable {H : AHeap} {p d c : Nat} {L : List (AV × Sec)} (m : DK H p d c L)
include m
theorem diskLenC : (envL prog).call 29 [.ptr p 0] H = some (.int .i64 (L.length : Int), H) := by
  have hm := m.ptr
  rw [c29]
  unfold b29
  simp -implicitDefEqProofs (maxSteps := 5000000) only [go_sem, Nat.reduceShiftRight, Nat.reduceAnd, Nat.reduceBNe, Int.reduceEq, Nat.reduceAdd, Nat.reduceSub, Nat.reduceMul, Nat.reduceLeDiff, reduceIte, reduceCtorEq, Nat.reduceBEq, Nat.reduceEqDiff, hm]
theorem sectorC {i : Nat} (hi : i < L.length) : (envL prog).call 42 [.ptr p 0, .int .i64 (i : Int)] H = some (.ptr d (i * 65), H) := by
  have hm := m.ptr
  have hl := diskLenC m
  have ix := idx_nat d 65 L.length L.length i true .i64 (by omega) hi
  have d1 : decide ((i : Int) < 0) = false := decide_eq_false (by omega)
  have d2 : decide ((i : Int) ≥ (L.length : Int)) = false := decide_eq_false (by omega)
  have u := lt_of_at m.blk
  have hu : (AV.ptr d (i * 65)).under H.length = true := by simp [AV.under, u]
  rw [c42]
  unfold b42
  simp -implicitDefEqProofs (maxSteps := 5000000) only [go_sem, Nat.reduceShiftRight, Nat.reduceAnd, Nat.reduceBNe, Int.reduceEq, Nat.reduceAdd, Nat.reduceSub, Nat.reduceMul, Nat.reduceLeDiff, reduceIte, reduceCtorEq, Nat.reduceBEq, Nat.reduceEqDiff, hm, hl, d1, d2, ix, hu]
theorem sectorO {i : Int} (hi : i < 0 ∨ i ≥ L.length) : (envL prog).call 42 [.ptr p 0, .int .i64 i] H = some (.nilPtr, H) := by
  have hm := m.ptr
  have hl := diskLenC m
  rw [c42]
  unfold b42
  by_cases h : i < 0
  · have d1 : decide (i < 0) = true := decide_eq_true h
    simp -implicitDefEqProofs (maxSteps := 5000000) only [go_sem, Nat.reduceShiftRight, Nat.reduceAnd, Nat.reduceBNe, Int.reduceEq, Nat.reduceAdd, Nat.reduceSub, Nat.reduceMul, Nat.reduceLeDiff, reduceIte, reduceCtorEq, Nat.reduceBEq, Nat.reduceEqDiff, hm, hl, d1]
  · have d1 : decide (i < 0) = false := decide_eq_false h
    have d2 : decide (i ≥ (L.length : Int)) = true := decide_eq_true (by omega)
    simp -implicitDefEqProofs (maxSteps := 5000000) only [go_sem, Nat.reduceShiftRight, Nat.reduceAnd, Nat.reduceBNe, Int.reduceEq, Nat.reduceAdd, Nat.reduceSub, Nat.reduceMul, Nat.reduceLeDiff, reduceIte, reduceCtorEq, Nat.reduceBEq, Nat.reduceEqDiff, hm, hl, d1, d2]
set_option maxHeartbeats 1000000 in
theorem lastC {i : Nat} {x : AV × Sec} (hi : L[i]? = some x) : (envL prog).call 44 [.ptr d (i * 65)] H = some (.agg (u8s x.2.last), H) := by
  obtain ⟨cs, hc, hv, hle, htk, _⟩ := m.row hi
  obtain ⟨gv, ok, cap⟩ := m.vs.at hi
  have cb := m.vs.cb
  obtain ⟨hl, hr⟩ := ver_read gv ok
  have ul := u8s_all x.2.last H.length
  have l64 := ok.last.1
  have w64 : (u8s x.2.last).length = 64 := by rw [u8s_len]; exact l64
  have uc := u8s_cell x.2.last
  have sp := splice_u8 (.int .u8 0) l64 (by omega)
  have tk := u8s_take l64
  rw [c44]
  unfold b44
  rcases hr with ⟨h0, h1⟩ | ⟨b, cs2, z, hz, h1, hp, hc2, hle2, htk2⟩
  · have e : x.2.last = x.2.there := by unfold Sec.last; rw [h0]; rfl
    rw [e] at ul w64 uc sp tk ⊢
    rw [h1] at hv
    have d0 : decide ((0 : Int) > 0) = false := rfl
    simp -implicitDefEqProofs (maxSteps := 5000000) only [go_sem, Nat.reduceShiftRight, Nat.reduceAnd, Nat.reduceBNe, Int.reduceEq, Nat.reduceAdd, Nat.reduceSub, Nat.reduceMul, Nat.reduceLeDiff, reduceIte, reduceCtorEq, Nat.reduceBEq, Nat.reduceEqDiff, cells_old hc, hc, hv, hle, htk, d0, write_zero, store_one, w64, uc, sp, tk, rep_len, ul]
  · have e : x.2.last = z := by unfold Sec.last; rw [hz]; rfl
    rw [e] at ul w64 uc sp tk ⊢
    rw [h1] at hv
    generalize x.2.vers.length = n at *
    have d0 : decide ((n : Int) > 0) = true := decide_eq_true (by omega)
    have e1 : IntKind.i64.wrap ((n : Int) - 1) = ((n - 1 : Nat) : Int) := by rw [wrap64 (by omega) (by omega)]; omega
    have ix := idx_nat b 64 n n (n - 1) false .i64 (by omega) (by omega)
    simp -implicitDefEqProofs (maxSteps := 5000000) only [go_sem, Nat.reduceShiftRight, Nat.reduceAnd, Nat.reduceBNe, Int.reduceEq, Nat.reduceAdd, Nat.reduceSub, Nat.reduceMul, Nat.reduceLeDiff, reduceIte, reduceCtorEq, Nat.reduceBEq, Nat.reduceEqDiff, cells_old hc, cells_old hc2, hc, hv, hc2, hle2, htk2, d0, e1, ix, write_zero, store_one, w64, uc, sp, tk, rep_len, ul]
set_option maxHeartbeats 1000000 in
theorem diskReadC {i : Nat} {x : AV × Sec} (hi : L[i]? = some x) : (envL prog).call 35 [.ptr p 0, .int .i64 (i : Int)] H = some (.tup [.agg (u8s x.2.last), .int .i64 0], H) := by
  have ok := (m.vs.at hi).2.1
  have lt : i < L.length := (List.getElem?_eq_some_iff.1 hi).1
  have a := fun B => m.fr (Fr.adds ⟨B, rfl⟩ (fun _ => False)) (fun _ _ h => h)
  have c1 := fun B => sectorC (a B) lt
  have c2 := fun B => lastC (a B) hi
  have ul := u8s_all x.2.last H.length
  have l64 := ok.last.1
  have w64 : (u8s x.2.last).length = 64 := by rw [u8s_len]; exact l64
  have uc := u8s_cell x.2.last
  have sp := splice_u8 (.int .u8 0) l64 (by omega)
  have tk := u8s_take l64
  rw [c35]
  unfold b35
  simp -implicitDefEqProofs (maxSteps := 5000000) only [go_sem, Nat.reduceShiftRight, Nat.reduceAnd, Nat.reduceBNe, Int.reduceEq, Nat.reduceAdd, Nat.reduceSub, Nat.reduceMul, Nat.reduceLeDiff, reduceIte, reduceCtorEq, Nat.reduceBEq, Nat.reduceEqDiff, c1, c2, write_zero, store_one, w64, uc, sp, tk, rep_len, ul]
set_option maxHeartbeats 1000000 in
theorem diskWriteC {i : Nat} {x : AV × Sec} (hi : L[i]? = some x) {z : List Int} (hz : B64 z) (hc : c + 1 ≤ 1000000000) : ∃ H' v, DK H' p d (c + 1) (L.set i (v, ⟨x.2.there, x.2.vers ++ [z]⟩)) ∧ (∃ b, slb v = some b ∧ H.length ≤ b) ∧ Fr H H' (fun b => b = d ∨ slb x.1 = some b) ∧
    (envL prog).call 31 [.ptr p 0, .int .i64 (i : Int), .agg (u8s z)] H = some (.int .i64 0, H') := by
  have lt : i < L.length := (List.getElem?_eq_some_iff.1 hi).1
  obtain ⟨cs, hcs, hv, hle, htk, _⟩ := m.row hi
  have a := fun B => m.fr (Fr.adds ⟨B, rfl⟩ (fun _ => False)) (fun _ _ h => h)
  have c1 := fun B => sectorC (a B) lt
  have l64 := hz.1
  have w64 : (u8s z).length = 64 := by rw [u8s_len]; exact l64
  have sp := splice_u8 (.int .u8 0) l64 (by omega)
  have tk := u8s_take l64
  obtain ⟨H3, H4, v, ha, hvc, hva, w, m4, hb, f, t⟩ := m.more hi hz hc [.rw (u8s z), .rw (u8s z)] (y := .sl (H.length + 1) 0 64 1 1 true) rfl (Src.block (k := 64) (n := 1) (show cellsOf (H ++ [ABlk.rw (u8s z), ABlk.rw (u8s z)]) (H.length + 1) = some (u8s z) by unfold cellsOf; simp) (by rw [w64]) (u8s_cell z)).cells
  refine ⟨H4, v, m4, hb, f, ?_⟩
  rw [c31]
  unfold b31
  simp -implicitDefEqProofs (maxSteps := 5000000) only [go_sem, Nat.reduceShiftRight, Nat.reduceAnd, Nat.reduceBNe, Int.reduceEq, Nat.reduceAdd, Nat.reduceSub, Nat.reduceMul, Nat.reduceLeDiff, reduceIte, reduceCtorEq, Nat.reduceBEq, Nat.reduceEqDiff, c1, cells_old hcs, hv, w64, sp, tk, ha, store_one, hva, w, t, rep_len]
set_option maxHeartbeats 1000000 in
theorem settleC {i : Nat} {x : AV × Sec} (hi : L[i]? = some x) {z : List Int} (hz : B64 z) : (envL prog).call 46 [.ptr d (i * 65), .agg (u8s z)] H = some (.tup [], setD H d (L.set i (.nilSl, ⟨z, []⟩))) := by
  have l64 := hz.1
  have w64 : (u8s z).length = 64 := by rw [u8s_len]; exact l64
  have tk := u8s_take l64
  have uc := u8s_cell z
  have hd := lt_of_at m.blk
  have hb : (H ++ [ABlk.rw (u8s z)])[d]? = some (.rw (L.map secR).flatten) := by rw [List.getElem?_append_left hd]; exact m.blk
  have w1 := DK.putT hb m.vs.ok hi l64
  have ok1 : ∀ y ∈ L.set i (x.1, ⟨z, x.2.vers⟩), y.2.Ok := fun y hy => by
    rcases mem_set hy with rfl | hy
    · exact ⟨hz, (m.vs.at hi).2.1.v⟩
    · exact m.vs.ok y hy
  have lt : i < L.length := (List.getElem?_eq_some_iff.1 hi).1
  have w2 := DK.putV (H := (H ++ [ABlk.rw (u8s z)]).set d (.rw ((L.set i (x.1, ⟨z, x.2.vers⟩)).map secR).flatten)) (at_set _ _ _ (by simp; omega)) ok1 (List.getElem?_set_self lt) (v := .nilSl) rfl []
  rw [List.set_set, List.set_set] at w2
  have e : (H ++ [ABlk.rw (u8s z)]).set d (.rw ((L.set i (.nilSl, ⟨z, []⟩)).map secR).flatten) = setD H d (L.set i (.nilSl, ⟨z, []⟩)) ++ [ABlk.rw (u8s z)] := by
    unfold setD
    rw [List.set_append_left _ _ hd]
  rw [e] at w2
  generalize hG : (H ++ [ABlk.rw (u8s z)]).set d (.rw ((L.set i (x.1, ⟨z, x.2.vers⟩)).map secR).flatten) = G at w1 w2
  have t : trim H (some (.tup [], setD H d (L.set i (.nilSl, ⟨z, []⟩)) ++ [ABlk.rw (u8s z)])) = some (.tup [], setD H d (L.set i (.nilSl, ⟨z, []⟩))) := by
    have ms := m.settle hi hz
    have hl : (setD H d (L.set i (.nilSl, ⟨z, []⟩))).length = H.length := by unfold setD; simp
    rw [trim_take (by simp [hl]) rfl (fun b k' hb hk => ?_)]
    · rw [← hl, List.take_left]
    · rw [List.getElem?_append_left (by omega)] at hk
      by_cases e : b = d
      · subst e
        rw [ms.blk] at hk
        injection hk with hk; subst hk
        have := secR_under ms.vs
        rw [hl] at this
        exact .inr this
      · unfold setD at hk
        rw [at_set_ne _ _ _ _ e] at hk
        exact .inl hk
  rw [c46]
  unfold b46
  simp -implicitDefEqProofs (maxSteps := 5000000) only [go_sem, Nat.reduceShiftRight, Nat.reduceAnd, Nat.reduceBNe, Int.reduceEq, Nat.reduceAdd, Nat.reduceSub, Nat.reduceMul, Nat.reduceLeDiff, reduceIte, reduceCtorEq, Nat.reduceBEq, Nat.reduceEqDiff, w64, uc, tk, store_one, w1, w2, t, rep_len]
end
end Go.Proofs.Ythjkfincekckhaa.G04

