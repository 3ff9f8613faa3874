/- What the functions that RigPlays reaches answer, for every argument. No condition but those in each statement. -/
import Derived.Test.YthjkfincekckhaaR4
set_option linter.unusedSimpArgs false
set_option linter.unusedVariables false
set_option linter.unusedSectionVars false
set_option maxRecDepth 10000
namespace Go.Proofs.Ythjkfincekckhaa.G04
open Go Go.Proofs.Ythjkfincekckhaa.Eng
theorem fpD_set {q d : Nat} {L : List (AV × Sec)} {i : Nat} {y : AV × Sec} {b : Nat} (h : fpD q d (L.set i y) b) : fpD q d L b ∨ slb y.1 = some b := by
  rcases h with rfl | rfl | h
  · exact .inl (.inl rfl)
  · exact .inl (.inr (.inl rfl))
  · rcases fpV_set h with h | h
    · exact .inr h
    · exact .inl (.inr (.inr h))
theorem rig_same (r : RgS) : ({ r with a := r.a } : RgS) = r := rfl
section
variable {H : AHeap} {p p0 d0 p1 d1 c : Nat} {L0 L1 : List (AV × Sec)} {r : RgS} (m : RG H p p0 d0 p1 d1 c L0 L1 r)
include m
/-- A write's turn of one of the disks. -/
theorem rigTurnW {dev : Int} {n : Nat} {z : List Int} (hdev : dev = 0 ∨ dev = 1) (hn : n < (r.dk dev).length) (hz : B64 z) (hc : c + 1 ≤ 1000000000) : ∃ q H' L0' L1', (envL prog).call 31 [.ptr q 0, .int .i64 (n : Int), .agg (u8s z)] H = some (.int .i64 0, H') ∧ (envL prog).call 28 [.ptr p 0, .int .i64 dev] H = some (.ptr q 0, H) ∧ RG H' p p0 d0 p1 d1 (c + 1) L0' L1' (r.put dev ((r.dk dev).modify n fun s => ⟨s.there, s.vers ++ [z]⟩)) ∧ Fr H H' (fpR p p0 d0 p1 d1 L0 L1) ∧ (∀ b, fpR p p0 d0 p1 d1 L0' L1' b → fpR p p0 d0 p1 d1 L0 L1 b ∨ H.length ≤ b) ∧
    ∀ G w, (G = p ∨ True) → ∀ K : AHeap, Fr K H (· = p) → (∀ b, fpR p p0 d0 p1 d1 L0 L1 b → b < K.length) → K.length ≤ H.length → RG K p p0 d0 p1 d1 c L0 L1 w → ∀ v : AV, trim K (some (v, H')) = some (v, H') := by
  rcases hdev with rfl | rfl
  · have hdk : r.dk 0 = r.a := rfl
    rw [hdk] at hn ⊢
    obtain ⟨x, hx, hx2⟩ := get_sec m.e0 hn
    obtain ⟨H', v, k, ⟨b0, hb0, hb1⟩, f, e⟩ := diskWriteC m.k0 hx hz hc
    have fp : ∀ b, (b = d0 ∨ slb x.1 = some b) → fpD p0 d0 L0 b := fun b h => by
      rcases h with rfl | h
      · exact .inr (.inl rfl)
      · exact .inr (.inr ⟨x, List.mem_of_getElem? hx, h⟩)
    have t := m.turn0 k f fp (Nat.le_succ _) hc (fun b hb => by
      rcases fpD_set hb with h | h
      · exact .inl h
      · rw [hb0] at h; injection h with h; subst h; exact .inr hb1)
    rw [modify_set hx v (fun s => ⟨s.there, s.vers ++ [z]⟩), m.e0] at t
    refine ⟨p0, H', _, _, e, rigDisk0 m, t, f.mono fun b _ hb => .inr (.inl (fp b hb)), fun b hb => ?_, fun _ w _ K fk hk hl mk v' => ?_⟩
    · rcases hb with rfl | hb | hb
      · exact .inl (.inl rfl)
      · rcases fpD_set hb with h | h
        · exact .inl (.inr (.inl h))
        · rw [hb0] at h; injection h with h; subst h; exact .inr hb1
      · exact .inl (.inr (.inr hb))
    · exact mk.k0.dirty t.k0 (List.mem_of_getElem? (List.getElem?_set_self (List.getElem?_eq_some_iff.1 hx).1)) hb0 (by omega) v'
  · have hdk : r.dk 1 = r.b := rfl
    rw [hdk] at hn ⊢
    obtain ⟨x, hx, hx2⟩ := get_sec m.e1 hn
    obtain ⟨H', v, k, ⟨b0, hb0, hb1⟩, f, e⟩ := diskWriteC m.k1 hx hz hc
    have fp : ∀ b, (b = d1 ∨ slb x.1 = some b) → fpD p1 d1 L1 b := fun b h => by
      rcases h with rfl | h
      · exact .inr (.inl rfl)
      · exact .inr (.inr ⟨x, List.mem_of_getElem? hx, h⟩)
    have t := m.turn1 k f fp (Nat.le_succ _) hc (fun b hb => by
      rcases fpD_set hb with h | h
      · exact .inl h
      · rw [hb0] at h; injection h with h; subst h; exact .inr hb1)
    rw [modify_set hx v (fun s => ⟨s.there, s.vers ++ [z]⟩), m.e1] at t
    refine ⟨p1, H', _, _, e, rigDisk1 m, t, f.mono fun b _ hb => .inr (.inr (fp b hb)), fun b hb => ?_, fun _ w _ K fk hk hl mk v' => ?_⟩
    · rcases hb with rfl | hb | hb
      · exact .inl (.inl rfl)
      · exact .inl (.inr (.inl hb))
      · rcases fpD_set hb with h | h
        · exact .inl (.inr (.inr h))
        · rw [hb0] at h; injection h with h; subst h; exact .inr hb1
    · exact mk.k1.dirty t.k1 (List.mem_of_getElem? (List.getElem?_set_self (List.getElem?_eq_some_iff.1 hx).1)) hb0 (by omega) v'
set_option maxHeartbeats 4000000 in
theorem rigWriteC (dev i : Int) {z : List Int} (hz : B64 z) (hc : c + 1 ≤ 1000000000) : ∃ H' L0' L1', RG H' p p0 d0 p1 d1 (c + 1) L0' L1' (r.write dev i z).1 ∧ Fr H H' (fpR p p0 d0 p1 d1 L0 L1) ∧ (∀ b, fpR p p0 d0 p1 d1 L0' L1' b → fpR p p0 d0 p1 d1 L0 L1 b ∨ H.length ≤ b) ∧
    (envL prog).call 12 [.ptr p 0, .int .i64 dev, .int .i64 i, .agg (u8s z)] H = some (.int .i64 (r.write dev i z).2, H') := by
  have l64 := hz.1
  have w64 : (u8s z).length = 64 := by rw [u8s_len]; exact l64
  have tk := u8s_take l64
  have hp := lt_of_at m.blk
  have m1 := m.adds [.rw (u8s z)]
  have rd := rigDev m1 dev
  have dl := diskLenN
  have nothing (e : r.write dev i z = (r, 1)) (hcall : (envL prog).call 12 [.ptr p 0, .int .i64 dev, .int .i64 i, .agg (u8s z)] H = some (.int .i64 1, H)) : ∃ H' L0' L1', RG H' p p0 d0 p1 d1 (c + 1) L0' L1' (r.write dev i z).1 ∧ Fr H H' (fpR p p0 d0 p1 d1 L0 L1) ∧ (∀ b, fpR p p0 d0 p1 d1 L0' L1' b → fpR p p0 d0 p1 d1 L0 L1 b ∨ H.length ≤ b) ∧
      (envL prog).call 12 [.ptr p 0, .int .i64 dev, .int .i64 i, .agg (u8s z)] H = some (.int .i64 (r.write dev i z).2, H') := by
    rw [e]; exact ⟨H, L0, L1, m.up (Nat.le_succ _) hc, Fr.refl _ _, fun b hb => .inl hb, hcall⟩
  by_cases hi : i < 0
  · have dd1 := decide_eq_true hi
    refine nothing (by unfold RgS.write; rw [if_neg (by omega)]) ?_
    rw [c12]
    unfold b12
    rcases rd with ⟨q, d, L, e, k, hl, _⟩ | ⟨e, hl, _⟩
    · simp -implicitDefEqProofs (maxSteps := 5000000) only [go_sem, Nat.reduceShiftRight, Nat.reduceAnd, Nat.reduceBNe, Int.reduceEq, Nat.reduceAdd, Nat.reduceSub, Nat.reduceMul, Nat.reduceLeDiff, reduceIte, reduceCtorEq, Nat.reduceBEq, Nat.reduceEqDiff, e, dd1]
    · simp -implicitDefEqProofs (maxSteps := 5000000) only [go_sem, Nat.reduceShiftRight, Nat.reduceAnd, Nat.reduceBNe, Int.reduceEq, Nat.reduceAdd, Nat.reduceSub, Nat.reduceMul, Nat.reduceLeDiff, reduceIte, reduceCtorEq, Nat.reduceBEq, Nat.reduceEqDiff, e, dd1]
  have dd1 := decide_eq_false hi
  rcases rd with ⟨q, d, L, e, k, hl, hdev⟩ | ⟨e, hl, _⟩
  · have c1 := diskLenC k
    have hll : (r.dk dev).length = L.length := by rw [← hl, List.length_map]
    by_cases hx : i < L.length
    · obtain ⟨n, rfl⟩ : ∃ n : Nat, i = n := ⟨i.toNat, by omega⟩
      have hn : n < L.length := by omega
      have d2 : decide ((n : Int) ≥ (L.length : Int)) = false := decide_eq_false (by omega)
      obtain ⟨mp, cp⟩ := rigPassC m1
      have e1 : (H ++ [ABlk.rw (u8s z)]).set p (.rw (rgCells p0 p1 r.pass.1)) = H.set p (.rw (rgCells p0 p1 r.pass.1)) ++ [.rw (u8s z)] := set_app _ hp
      rw [e1] at mp cp
      have mH := m.set r.pass.1 (by unfold RgS.pass; split <;> rfl) (by unfold RgS.pass; split <;> rfl)
      by_cases hq : r.pass.2 = 0
      · have hpa : r.pass.1.dk dev = r.dk dev := by
          have : r.pass.1.a = r.a ∧ r.pass.1.b = r.b := by unfold RgS.pass; split <;> exact ⟨rfl, rfl⟩
          unfold RgS.dk; rw [this.1, this.2]
        obtain ⟨q2, H', L0', L1', ew, ed, mt, ft, fn, dirty⟩ := rigTurnW mp hdev (n := n) (by rw [hpa]; omega) hz hc
        have eq2 : q2 = q := by
          have := (rigDev mp dev)
          have hdk := rigDev mp dev
          rcases hdev with rfl | rfl
          · have a1 := rigDisk0 m1
            have a2 := rigDisk0 mp
            rw [e] at a1; rw [ed] at a2
            simp only [Option.some.injEq, Prod.mk.injEq, AV.ptr.injEq, and_true] at a1 a2
            rw [a1, a2]
          · have a1 := rigDisk1 m1
            have a2 := rigDisk1 mp
            rw [e] at a1; rw [ed] at a2
            simp only [Option.some.injEq, Prod.mk.injEq, AV.ptr.injEq, and_true] at a1 a2
            rw [a1, a2]
        subst eq2
        have er : r.write dev (n : Int) z = (r.pass.1.put dev ((r.pass.1.dk dev).modify n fun s => ⟨s.there, s.vers ++ [z]⟩), 0) := by
          unfold RgS.write; rw [if_pos (by omega), if_pos hq, hpa]; simp
        rw [er]
        have f0 : Fr H (H.set p (.rw (rgCells p0 p1 r.pass.1)) ++ [.rw (u8s z)]) (fpR p p0 d0 p1 d1 L0 L1) :=
          (Fr.set H (.rw (rgCells p0 p1 r.pass.1)) (F := fpR p p0 d0 p1 d1 L0 L1) (.inl rfl)).trans (Fr.adds ⟨_, rfl⟩ (fun _ => False)) (fun _ _ h => h.elim)
        have tr := dirty 0 r (.inr trivial) H (by
          refine ⟨by simp, fun b hb hn => ?_⟩
          rw [List.getElem?_append_left (by simpa using hb), at_set_ne _ _ _ _ hn]) (fun b hb => m.lt hb) (by simp) m
        refine ⟨H', L0', L1', mt, f0.trans ft (fun b _ h => h), fun b hb => ?_, ?_⟩
        · rcases fn b hb with h | h
          · exact .inl h
          · have hl9 : (H.set p (.rw (rgCells p0 p1 r.pass.1)) ++ [ABlk.rw (u8s z)]).length = H.length + 1 := by simp
            exact .inr (by omega)
        · have hq2 : (r.pass.2 != 0) = false := by simp [hq]
          rw [hq] at cp
          have n0 : ((0 : Int) != 0) = false := rfl
          have hbx : cellsOf (H.set p (.rw (rgCells p0 p1 r.pass.1)) ++ [ABlk.rw (u8s z)]) H.length = some (u8s z) := by
            unfold cellsOf
            rw [List.getElem?_append_right (by simp)]; simp
          rw [c12]
          unfold b12
          simp -implicitDefEqProofs (maxSteps := 5000000) only [go_sem, Nat.reduceShiftRight, Nat.reduceAnd, Nat.reduceBNe, Int.reduceEq, Nat.reduceAdd, Nat.reduceSub, Nat.reduceMul, Nat.reduceLeDiff, reduceIte, reduceCtorEq, Nat.reduceBEq, Nat.reduceEqDiff, e, c1, dd1, d2, cp, n0, hbx, w64, tk, ew, tr]
      · have er : r.write dev (n : Int) z = r.pass := by unfold RgS.write; rw [if_pos (by omega), if_neg hq]
        rw [er]
        have hq2 : (r.pass.2 != 0) = true := by simp [hq]
        have hl2 : (H.set p (.rw (rgCells p0 p1 r.pass.1))).length = H.length := by simp
        have tr : trim H (some (.int .i64 r.pass.2, H.set p (.rw (rgCells p0 p1 r.pass.1)) ++ [ABlk.rw (u8s z)])) = some (.int .i64 r.pass.2, H.set p (.rw (rgCells p0 p1 r.pass.1))) := by
          rw [trim_take (by rw [List.length_append, hl2]; omega) rfl (fun b k' hb hk => ?_)]
          · rw [← hl2, List.take_left]
          · rw [List.getElem?_append_left (by omega)] at hk
            by_cases eb : b = p
            · subst eb
              rw [at_set _ _ _ hp] at hk
              injection hk with hk; subst hk
              refine .inr fun a ha => ?_
              have h0 := lt_of_cells m.k0.ptr
              have h1 := lt_of_cells m.k1.ptr
              simp only [ABlk.vals, rgCells, List.mem_cons, List.not_mem_nil, or_false] at ha
              rcases ha with rfl | rfl | rfl | rfl | rfl <;> simp [AV.under, h0, h1]
            · rw [at_set_ne _ _ _ _ eb] at hk; exact .inl hk
        refine ⟨_, L0, L1, mH.up (Nat.le_succ _) hc, Fr.set _ _ (.inl rfl), fun b hb => .inl hb, ?_⟩
        rw [c12]
        unfold b12
        simp -implicitDefEqProofs (maxSteps := 5000000) only [go_sem, Nat.reduceShiftRight, Nat.reduceAnd, Nat.reduceBNe, Int.reduceEq, Nat.reduceAdd, Nat.reduceSub, Nat.reduceMul, Nat.reduceLeDiff, reduceIte, reduceCtorEq, Nat.reduceBEq, Nat.reduceEqDiff, e, c1, dd1, d2, cp, hq2, tr]
    · have d2 : decide (i ≥ (L.length : Int)) = true := decide_eq_true (by omega)
      refine nothing (by unfold RgS.write; rw [if_neg (by omega)]) ?_
      rw [c12]
      unfold b12
      simp -implicitDefEqProofs (maxSteps := 5000000) only [go_sem, Nat.reduceShiftRight, Nat.reduceAnd, Nat.reduceBNe, Int.reduceEq, Nat.reduceAdd, Nat.reduceSub, Nat.reduceMul, Nat.reduceLeDiff, reduceIte, reduceCtorEq, Nat.reduceBEq, Nat.reduceEqDiff, e, c1, dd1, d2]
  · have d2 : decide (i ≥ 0) = true := decide_eq_true (by omega)
    refine nothing (by unfold RgS.write; rw [if_neg (by rw [hl]; simp)]) ?_
    rw [c12]
    unfold b12
    simp -implicitDefEqProofs (maxSteps := 5000000) only [go_sem, Nat.reduceShiftRight, Nat.reduceAnd, Nat.reduceBNe, Int.reduceEq, Nat.reduceAdd, Nat.reduceSub, Nat.reduceMul, Nat.reduceLeDiff, reduceIte, reduceCtorEq, Nat.reduceBEq, Nat.reduceEqDiff, e, dl, dd1, d2]
end
end Go.Proofs.Ythjkfincekckhaa.G04

