/- What the functions that RigPlays reaches answer, for every argument. No condition but those in each statement. -/
import Derived.Test.YthjkfincekckhaaD1
import Derived.Test.YthjkfincekckhaaE6
set_option linter.unusedSimpArgs false
set_option linter.unusedVariables false
set_option linter.unusedSectionVars false
set_option maxRecDepth 10000
namespace Go.Proofs.Ythjkfincekckhaa.G04
open Go Go.Proofs.Ythjkfincekckhaa.Eng
section
variable {H : AHeap} {p s v c : Nat} {L : List (AV × Sec)} (m : RD H p s v c L)
include m
theorem refHasC (i : Int) : (envL prog).call 43 [.ptr p 0, .int .i64 i] H = some (.bool (decide (0 ≤ i ∧ i < (L.length : Int))), H) := by
  have hm := m.ptr
  rw [c43]
  unfold b43
  by_cases h : 0 ≤ i
  · have d1 : decide (i ≥ 0) = true := decide_eq_true h
    have e : decide (0 ≤ i ∧ i < (L.length : Int)) = decide (i < (L.length : Int)) := by simp [h]
    rw [e]
    simp -implicitDefEqProofs (maxSteps := 5000000) only [go_sem, Nat.reduceShiftRight, Nat.reduceAnd, Nat.reduceBNe, Int.reduceEq, Nat.reduceAdd, Nat.reduceSub, Nat.reduceMul, Nat.reduceLeDiff, reduceIte, reduceCtorEq, Nat.reduceBEq, Nat.reduceEqDiff, hm, d1]
  · have d1 : decide (i ≥ 0) = false := decide_eq_false h
    have e : decide (0 ≤ i ∧ i < (L.length : Int)) = false := decide_eq_false (by omega)
    rw [e]
    simp -implicitDefEqProofs (maxSteps := 5000000) only [go_sem, Nat.reduceShiftRight, Nat.reduceAnd, Nat.reduceBNe, Int.reduceEq, Nat.reduceAdd, Nat.reduceSub, Nat.reduceMul, Nat.reduceLeDiff, reduceIte, reduceCtorEq, Nat.reduceBEq, Nat.reduceEqDiff, hm, d1]
set_option maxHeartbeats 1000000 in
theorem refReadC {i : Nat} {x : AV × Sec} (hi : L[i]? = some x) : (envL prog).call 36 [.ptr p 0, .int .i64 (i : Int)] H = some (.agg (u8s x.2.last), H) := by
  have hm := m.ptr
  obtain ⟨⟨cs, hc, hle, htk⟩, ⟨cv, hcv, hv⟩, hlt, hsz⟩ := m.row hi
  obtain ⟨gv, ok, cap⟩ := m.vs.at hi
  have cb := m.vs.cb
  obtain ⟨hl, hr⟩ := ver_read gv ok
  have ul := u8s_all x.2.last H.length
  have l64 := ok.last.1
  have w64 : (u8s x.2.last).length = 64 := by rw [u8s_len]; exact l64
  have uc := u8s_cell x.2.last
  have sp := splice_u8 (.int .u8 0) l64 (by omega)
  have tk := u8s_take l64
  have ix1 := idx_nat v 1 L.length L.length i true .i64 (by omega) hlt
  rw [Nat.mul_one] at ix1
  have ix2 := idx_nat s 64 L.length L.length i true .i64 (by omega) hlt
  have hmo := fun B => cells_old (x := B) hm
  have hco := fun B => cells_old (x := B) hc
  have hcvo := fun B => cells_old (x := B) hcv
  rw [c36]
  unfold b36
  rcases hr with ⟨h0, h1⟩ | ⟨b, cs2, z, hz, h1, hp, hc2, hle2, htk2⟩
  · have e : x.2.last = x.2.there := by unfold Sec.last; rw [h0]; rfl
    rw [e] at ul w64 uc sp tk ⊢
    rw [h1] at hv
    have d0 : decide ((0 : Int) > 0) = false := rfl
    simp -implicitDefEqProofs (maxSteps := 5000000) only [go_sem, Nat.reduceShiftRight, Nat.reduceAnd, Nat.reduceBNe, Int.reduceEq, Nat.reduceAdd, Nat.reduceSub, Nat.reduceMul, Nat.reduceLeDiff, reduceIte, reduceCtorEq, Nat.reduceBEq, Nat.reduceEqDiff, hm, hmo, hc, hco, hcv, hcvo, hv, ix1, ix2, hle, htk, d0, write_zero, store_one, w64, uc, sp, tk, rep_len, ul]
  · have e : x.2.last = z := by unfold Sec.last; rw [hz]; rfl
    rw [e] at ul w64 uc sp tk ⊢
    rw [h1] at hv
    generalize x.2.vers.length = n at *
    have hc2o := fun B => cells_old (x := B) hc2
    have d0 : decide ((n : Int) > 0) = true := decide_eq_true (by omega)
    have e1 : IntKind.i64.wrap ((n : Int) - 1) = ((n - 1 : Nat) : Int) := by rw [wrap64 (by omega) (by omega)]; omega
    have ix := idx_nat b 64 n n (n - 1) false .i64 (by omega) (by omega)
    simp -implicitDefEqProofs (maxSteps := 5000000) only [go_sem, Nat.reduceShiftRight, Nat.reduceAnd, Nat.reduceBNe, Int.reduceEq, Nat.reduceAdd, Nat.reduceSub, Nat.reduceMul, Nat.reduceLeDiff, reduceIte, reduceCtorEq, Nat.reduceBEq, Nat.reduceEqDiff, hm, hmo, hcv, hcvo, hv, ix1, hc2, hc2o, hle2, htk2, d0, e1, ix, write_zero, store_one, w64, uc, sp, tk, rep_len, ul]
set_option maxHeartbeats 2000000 in
theorem refWriteC {i : Nat} {x : AV × Sec} (hi : L[i]? = some x) {z : List Int} (hz : B64 z) (hcc : c + 1 ≤ 1000000000) : ∃ H' w, RD H' p s v (c + 1) (L.set i (w, ⟨x.2.there, x.2.vers ++ [z]⟩)) ∧ (∃ b, slb w = some b ∧ H.length ≤ b) ∧ Fr H H' (fun b => b = v) ∧
    (envL prog).call 34 [.ptr p 0, .int .i64 (i : Int), .agg (u8s z)] H = some (.tup [], H') := by
  have hm := m.ptr
  obtain ⟨⟨cs, hc, hle, htk⟩, ⟨cv, hcv, hv⟩, hlt, hsz⟩ := m.row hi
  obtain ⟨gv, ok, cap⟩ := m.vs.at hi
  obtain ⟨w, H3, y, H4, a1, h3, a2, h4, g, ⟨b0, hb0, hb1⟩, yc, ya⟩ := dup_app gv ok cap hcc hz
  have h34 : Adds H H4 := Adds.trans ⟨_, rfl⟩ h4
  obtain ⟨mt, wr⟩ := m.setV (y := (y, ⟨x.2.there, x.2.vers ++ [z]⟩)) h34 hi rfl g (ok.more hz) (Nat.le_succ _) hcc (by simp; omega) (fun b hb => by rw [hb0] at hb; injection hb with hb; subst hb; exact hb1) yc
  have f : Fr H (H4.set v (.rw ((L.set i (y, (⟨x.2.there, x.2.vers ++ [z]⟩ : Sec))).map (·.1)))) (fun b => b = v) := (Fr.adds h34 _).trans (Fr.set _ _ (F := fun b => b = v) rfl) (fun _ _ h => h)
  refine ⟨_, y, mt, ⟨b0, hb0, hb1⟩, f, ?_⟩
  have tr : trim H (some (.tup [], H4.set v (.rw ((L.set i (y, (⟨x.2.there, x.2.vers ++ [z]⟩ : Sec))).map (·.1))))) = some (.tup [], H4.set v (.rw ((L.set i (y, (⟨x.2.there, x.2.vers ++ [z]⟩ : Sec))).map (·.1)))) := by
    refine trim_dirty v _ _ y m.bv mt.bv ?_ ?_ (m.v_under)
    · show y ∈ (L.set i _).map (·.1)
      exact List.mem_map.2 ⟨_, List.mem_of_getElem? (List.getElem?_set_self hlt), rfl⟩
    · cases y with
      | sl b o q l c e => injection hb0 with hb0; subst hb0; simp only [AV.under, decide_eq_false_iff_not]; omega
      | _ => cases hb0
  generalize hK : H4.set v (.rw ((L.set i (y, (⟨x.2.there, x.2.vers ++ [z]⟩ : Sec))).map (·.1))) = K at *
  have l64 := hz.1
  have w64 : (u8s z).length = 64 := by rw [u8s_len]; exact l64
  have sp := splice_u8 (.int .u8 0) l64 (by omega)
  have tk := u8s_take l64
  have ix1 := idx_nat v 1 L.length L.length i true .i64 (by omega) hlt
  rw [Nat.mul_one] at ix1
  have hmo := fun B => cells_old (x := B) hm
  have hcvo := fun B => cells_old (x := B) hcv
  have hbx : cellsOf (H ++ [ABlk.rw (u8s z), .rw [], .rw (u8s z)]) H.length = some (u8s z) := by unfold cellsOf; simp
  have k3 := h3.cells hbx
  have k4 := h4.cells hbx
  have p3 := (Adds.trans ⟨_, rfl⟩ h3 : Adds H H3).cells hm
  have p4 := h34.cells hm
  have s0 : (0 : Nat) ≤ (u8s z).length := Nat.zero_le _
  rw [c34]
  unfold b34
  simp -implicitDefEqProofs (maxSteps := 5000000) only [go_sem, Nat.reduceShiftRight, Nat.reduceAnd, Nat.reduceBNe, Int.reduceEq, Nat.reduceAdd, Nat.reduceSub, Nat.reduceMul, Nat.reduceLeDiff, reduceIte, reduceCtorEq, Nat.reduceBEq, Nat.reduceEqDiff, hm, hmo, hcvo, hv, ix1, w64, sp, tk, a1, a2, k3, k4, p3, p4, store_one, ya, wr, tr, rep_len]
end
end Go.Proofs.Ythjkfincekckhaa.G04

