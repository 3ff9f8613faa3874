/- What the functions that RigPlays reaches answer, for every argument. No condition but those in each statement. -/
import Derived.Test.YthjkfincekckhaaN
import Derived.Test.YthjkfincekckhaaE6
set_option linter.unusedSimpArgs false
set_option linter.unusedVariables false
set_option linter.unusedSectionVars false
set_option maxRecDepth 10000
namespace Go.Proofs.Ythjkfincekckhaa.G04
open Go Go.Proofs.Ythjkfincekckhaa.Eng
noncomputable abbrev LQB (l : Env → CT) := (envL prog).loop (runC (envL prog) (l (envL prog)))
noncomputable abbrev tyB : TyD := ty 64 true 64 (rep 64 (.int .u8 0))
theorem growB {n : Nat} (h1 : 1 ≤ n) (hn : n ≤ 2000000000) (H : AHeap) : (envL prog).call 51 [.nilSl, .int .i64 (n : Int)] H = some (.sl H.length 0 64 0 n false, H ++ [.rw (List.replicate n (tyB).zero).flatten]) := by
  have w0 : IntKind.i64.wrap (0 - 0) = 0 := by decide
  have w1 : IntKind.i64.wrap ((n : Int) - 0) = (n : Int) := by rw [wrap64 (by omega) (by omega)]; omega
  have d1 : decide ((n : Int) < 0) = false := decide_eq_false (by omega)
  have d2 : decide ((n : Int) > 0) = true := decide_eq_true (by omega)
  have ha := appN_nil (d := tyB) (H := H) (n := n) (k := 64) (by omega) rfl (by decide) h1 (by unfold roomy; show n * 64 ≤ _; omega)
  have sl0 : sliceS 64 .nilSl none (some (.int .i64 0)) none = some .nilSl := by simp [sliceS, asI]
  have sl1 : sliceS 64 (.sl H.length 0 64 n n false) none (some (.int .i64 0)) none = some (.sl H.length 0 64 0 n false) := by simp [sliceS, asI]
  unfold tyB at ha
  rw [c51]
  unfold b51
  have hcap : capSl .nilSl = some (.int .i64 0) := rfl
  simp -implicitDefEqProofs (maxSteps := 5000000) only [go_sem, Nat.reduceShiftRight, Nat.reduceAnd, Nat.reduceBNe, Int.reduceEq, Nat.reduceAdd, Nat.reduceSub, Nat.reduceMul, Nat.reduceLeDiff, reduceIte, reduceCtorEq, Nat.reduceBEq, Nat.reduceEqDiff, hcap, w0, w1, d1, d2, ha, sl0, sl1]
  exact trim_keep (by simp [AV.under])
theorem grow0B (H : AHeap) : (envL prog).call 51 [.nilSl, .int .i64 0] H = some (.nilSl, H) := by
  have w0 : IntKind.i64.wrap (0 - 0) = 0 := by decide
  have d1 : decide ((0 : Int) < 0) = false := rfl
  have d2 : decide ((0 : Int) > 0) = false := rfl
  rw [c51]
  unfold b51
  have hcap : capSl .nilSl = some (.int .i64 0) := rfl
  simp -implicitDefEqProofs (maxSteps := 5000000) only [go_sem, Nat.reduceShiftRight, Nat.reduceAnd, Nat.reduceBNe, Int.reduceEq, Nat.reduceAdd, Nat.reduceSub, Nat.reduceMul, Nat.reduceLeDiff, reduceIte, reduceCtorEq, Nat.reduceBEq, Nat.reduceEqDiff, hcap, w0, d1, d2]
/-- Lists one behind the other: of each the slice, how many, its cells. -/
def totB (Xs : List (AV × Nat × List AV)) : Nat := (Xs.map fun x => x.2.1).sum
def catB (Xs : List (AV × Nat × List AV)) : List AV := (Xs.map fun x => x.2.2).flatten
section
variable {H : AHeap} {a : Nat} {Xs : List (AV × Nat × List AV)} (ha : cellsOf H a = some (Xs.map fun x => x.1)) (hs : ∀ x ∈ Xs, Src 64 H x.1 x.2.1 x.2.2) (ht : totB Xs ≤ 2000000000) (hX : Xs.length ≤ 1000)
include ha hs ht hX
set_option maxHeartbeats 2000000 in
theorem sumLB (x0 x1 x2 x4 x6 x7 x8 x23 x24 x25 x26 x27 x28 x29 x30 x31 x32 x33 x34 x35 : AV) : ∀ (k i : Nat) (j5 j12 j13 j14 j15 j16 j17 j18 j19 j20 j21 j22 : AV), i + k = Xs.length →
    Outs (LQB l48x0 [x0, x1, x2, .int .i64 (totB (Xs.take i) : Int), x4, j5, x6, x7, x8, .sl a 0 1 Xs.length Xs.length true, .int .i64 (Xs.length : Int), .int .i64 (i : Int), j12, j13, j14, j15, j16, j17, j18, j19, j20, j21, j22, x23, x24, x25, x26, x27, x28, x29, x30, x31, x32, x33, x34, x35] H) fun e t H' => e = .exit 0 ∧ H' = H ∧ ∃ k : Nat → AV, t = [x0, x1, x2, .int .i64 (totB Xs : Int), x4, (k 5), x6, x7, x8, .sl a 0 1 Xs.length Xs.length true, .int .i64 (Xs.length : Int), (k 11), (k 12), (k 13), (k 14), (k 15), (k 16), (k 17), (k 18), (k 19), (k 20), (k 21), (k 22), x23, x24, x25, x26, x27, x28, x29, x30, x31, x32, x33, x34, x35] := by
  intro k
  obtain ⟨L, hL⟩ : ∃ L, L = LQB l48x0 := ⟨_, rfl⟩
  have lo := loop_open hL
  rw [← hL]
  induction k with
  | zero =>
    intro i j5 j12 j13 j14 j15 j16 j17 j18 j19 j20 j21 j22 hi
    obtain rfl : i = Xs.length := by omega
    have hd : decide ((Xs.length : Int) < (Xs.length : Int)) = false := by simp
    rw [List.take_length, lo]
    unfold l48x0
    simp -implicitDefEqProofs (maxSteps := 5000000) only [go_sem, Nat.reduceShiftRight, Nat.reduceAnd, Nat.reduceBNe, Int.reduceEq, Nat.reduceAdd, Nat.reduceSub, Nat.reduceMul, Nat.reduceLeDiff, reduceIte, reduceCtorEq, Nat.reduceBEq, Nat.reduceEqDiff, hd, seqR_exit', outs_normal]
    exact exF rfl
  | succ k ih =>
    intro i j5 j12 j13 j14 j15 j16 j17 j18 j19 j20 j21 j22 hi
    have hlt : i < Xs.length := by omega
    have hx := List.getElem?_eq_getElem hlt
    have hv := get_map (fun x : AV × Nat × List AV => x.1) hx
    have sx := hs _ (List.getElem_mem hlt)
    generalize Xs[i] = x at *
    have hd : decide ((i : Int) < (Xs.length : Int)) = true := decide_eq_true (by omega)
    have et : totB (Xs.take (i + 1)) = totB (Xs.take i) + x.2.1 := by unfold totB; rw [List.take_add_one, hx]; simp
    have le : totB (Xs.take (i + 1)) ≤ totB Xs := by
      unfold totB
      rw [← List.take_append_drop (i + 1) Xs, List.map_append, List.sum_append, List.take_append_drop]
      exact Nat.le_add_right _ _
    have e2 : IntKind.i64.wrap ((i : Int) + 1) = ((i + 1 : Nat) : Int) := by
      skip
      rw [wrap64 (by omega) (by omega)]; omega
    have e3 : IntKind.i64.wrap ((totB (Xs.take i) : Int) + (x.2.1 : Int)) = (totB (Xs.take (i + 1)) : Int) := by rw [wrap64 (by omega) (by omega)]; omega
    have d3 : decide ((totB (Xs.take (i + 1)) : Int) < 0) = false := decide_eq_false (by omega)
    have ix := idx_nat a 1 Xs.length Xs.length i true .i64 (by omega) hlt
    rw [Nat.mul_one] at ix
    have hl := sx.len
    rw [lo]
    unfold l48x0
    simp -implicitDefEqProofs (maxSteps := 5000000) only [go_sem, Nat.reduceShiftRight, Nat.reduceAnd, Nat.reduceBNe, Int.reduceEq, Nat.reduceAdd, Nat.reduceSub, Nat.reduceMul, Nat.reduceLeDiff, reduceIte, reduceCtorEq, Nat.reduceBEq, Nat.reduceEqDiff, hd, ix, ha, hv, hl, e2, e3, d3]
    exact ih (i + 1) _ _ _ _ _ _ _ _ _ _ _ _ (by omega)
/-- One behind the other, into the room that was made. -/
def OutB (H : AHeap) (Xs : List (AV × Nat × List AV)) (i : Nat) (l : AV) (H' : AHeap) : Prop :=
  (totB Xs = 0 ∧ l = .nilSl ∧ H' = H) ∨ (totB Xs ≠ 0 ∧ l = .sl H.length 0 64 (totB (Xs.take i)) (totB Xs) false ∧ ∃ Z : List AV, Z.length + totB (Xs.take i) * 64 = totB Xs * 64 ∧ H' = H ++ [.rw (catB (Xs.take i) ++ Z)])
theorem catlenB : ∀ i, (catB (Xs.take i)).length = totB (Xs.take i) * 64 := by
  intro i
  have : ∀ Ys : List (AV × Nat × List AV), (∀ x ∈ Ys, x.2.2.length = x.2.1 * 64) → (catB Ys).length = totB Ys * 64 := by
    intro Ys
    induction Ys with
    | nil => intro _; rfl
    | cons x Ys ih =>
      intro h
      have e := ih fun y hy => h y (by simp [hy])
      unfold catB totB at e ⊢
      rw [List.map_cons, List.map_cons, List.flatten_cons, List.sum_cons, List.length_append, e, h x (by simp), Nat.add_mul]
  exact this _ fun x hx => (hs x (List.mem_of_mem_take hx)).clen
set_option maxHeartbeats 2000000 in
theorem catLB (x0 x1 x2 x3 x4 x5 x7 x9 x10 x11 x12 x13 x14 x15 x16 x17 x18 x19 x20 x21 x22 x23 x24 x35 : AV) : ∀ (k i : Nat) (l : AV) (H1 : AHeap) (j8 j28 j29 j30 j31 j32 j33 j34 : AV), OutB H Xs i l H1 → i + k = Xs.length →
    Outs (LQB l48x1 [x0, x1, x2, x3, x4, x5, l, x7, j8, x9, x10, x11, x12, x13, x14, x15, x16, x17, x18, x19, x20, x21, x22, x23, x24, .sl a 0 1 Xs.length Xs.length true, .int .i64 (Xs.length : Int), .int .i64 (i : Int), j28, j29, j30, j31, j32, j33, j34, x35] H1) fun e t H' => e = .exit 2 ∧ ∃ l', OutB H Xs Xs.length l' H' ∧ ∃ k : Nat → AV, t = [x0, x1, x2, x3, x4, x5, l', x7, (k 8), x9, x10, x11, x12, x13, x14, x15, x16, x17, x18, x19, x20, x21, x22, x23, x24, .sl a 0 1 Xs.length Xs.length true, .int .i64 (Xs.length : Int), (k 27), (k 28), (k 29), (k 30), (k 31), (k 32), (k 33), (k 34), x35] := by
  intro k
  obtain ⟨L, hL⟩ : ∃ L, L = LQB l48x1 := ⟨_, rfl⟩
  have lo := loop_open hL
  rw [← hL]
  induction k with
  | zero =>
    intro i l H1 j8 j28 j29 j30 j31 j32 j33 j34 ho hi
    obtain rfl : i = Xs.length := by omega
    have hd : decide ((Xs.length : Int) < (Xs.length : Int)) = false := by simp
    rw [lo]
    unfold l48x1
    simp -implicitDefEqProofs (maxSteps := 5000000) only [go_sem, Nat.reduceShiftRight, Nat.reduceAnd, Nat.reduceBNe, Int.reduceEq, Nat.reduceAdd, Nat.reduceSub, Nat.reduceMul, Nat.reduceLeDiff, reduceIte, reduceCtorEq, Nat.reduceBEq, Nat.reduceEqDiff, hd, seqR_exit', outs_normal]
    exact ⟨l, ho, exF rfl⟩
  | succ k ih =>
    intro i l H1 j8 j28 j29 j30 j31 j32 j33 j34 ho hi
    have hlt : i < Xs.length := by omega
    have cl := catlenB ha hs ht hX
    have hx := List.getElem?_eq_getElem hlt
    have hv := get_map (fun x : AV × Nat × List AV => x.1) hx
    have sx := hs _ (List.getElem_mem hlt)
    generalize Xs[i] = x at *
    have hd : decide ((i : Int) < (Xs.length : Int)) = true := decide_eq_true (by omega)
    have et : totB (Xs.take (i + 1)) = totB (Xs.take i) + x.2.1 := by unfold totB; rw [List.take_add_one, hx]; simp
    have ec : catB (Xs.take (i + 1)) = catB (Xs.take i) ++ x.2.2 := by unfold catB; rw [List.take_add_one, hx]; simp
    have le : totB (Xs.take (i + 1)) ≤ totB Xs := by
      unfold totB
      rw [← List.take_append_drop (i + 1) Xs, List.map_append, List.sum_append, List.take_append_drop]
      exact Nat.le_add_right _ _
    have e2 : IntKind.i64.wrap ((i : Int) + 1) = ((i + 1 : Nat) : Int) := by rw [wrap64 (by omega) (by omega)]; omega
    have ix := idx_nat a 1 Xs.length Xs.length i true .i64 (by omega) hlt
    rw [Nat.mul_one] at ix
    obtain ⟨l2, H2, ho2, ea⟩ : ∃ l2 H2, OutB H Xs (i + 1) l2 H2 ∧ app tyB l x.1 H1 = some (l2, H2) := by
      rcases ho with ⟨h0, rfl, rfl⟩ | ⟨h0, rfl, Z, hZ, rfl⟩
      · have : x.2.1 = 0 := by omega
        rw [this] at sx
        exact ⟨_, _, .inl ⟨h0, rfl, rfl⟩, app_nil0 rfl sx⟩
      · refine ⟨_, _, .inr ⟨h0, rfl, Z.drop x.2.2.length, ?_, rfl⟩, ?_⟩
        · rw [List.length_drop, sx.clen, et, Nat.add_mul]
          rw [et] at le
          have := Nat.mul_le_mul_right 64 le
          rw [Nat.add_mul] at this
          omega
        · have := app_in (k := 64) (by omega) (d := tyB) rfl (H := H ++ [.rw (catB (Xs.take i) ++ Z)]) (b := H.length) (m := totB (Xs.take i)) (n := totB Xs) (A := catB (Xs.take i)) (Z := Z) (by simp) (cl i) (sx.adds _) (by
            rw [sx.clen]
            rw [et] at le
            have := Nat.mul_le_mul_right 64 le
            rw [Nat.add_mul] at this
            omega) (by omega)
          rw [this, et, ec]
          simp
    have hm : ∀ G, cellsOf (H ++ G) a = some (Xs.map fun x => x.1) := fun G => cells_old ha
    have hm1 : cellsOf H1 a = some (Xs.map fun x => x.1) := by
      rcases ho with ⟨_, _, rfl⟩ | ⟨_, _, Z, _, rfl⟩
      · exact ha
      · exact hm _
    unfold tyB at ea
    rw [lo]
    unfold l48x1
    simp -implicitDefEqProofs (maxSteps := 5000000) only [go_sem, Nat.reduceShiftRight, Nat.reduceAnd, Nat.reduceBNe, Int.reduceEq, Nat.reduceAdd, Nat.reduceSub, Nat.reduceMul, Nat.reduceLeDiff, reduceIte, reduceCtorEq, Nat.reduceBEq, Nat.reduceEqDiff, hd, ix, hm1, hv, e2, ea]
    exact ih (i + 1) l2 H2 _ _ _ _ _ _ _ _ ho2 (by omega)
set_option maxHeartbeats 2000000 in
theorem concatB : ∃ l H', ((totB Xs = 0 ∧ l = .nilSl ∧ H' = H) ∨ (totB Xs ≠ 0 ∧ l = .sl H.length 0 64 (totB Xs) (totB Xs) false ∧ H' = H ++ [.rw (catB Xs)])) ∧ (envL prog).call 48 [.sl a 0 1 Xs.length Xs.length true] H = some (l, H') := by
  have l0 := sumLB ha hs ht hX (k := Xs.length) (i := 0)
  have cl := catlenB ha hs ht hX
  rw [show ((0 : Nat) : Int) = 0 from rfl, List.take_zero, show totB [] = 0 from rfl, show ((0 : Nat) : Int) = 0 from rfl] at l0
  have l1 := catLB ha hs ht hX (k := Xs.length) (i := 0)
  rw [show ((0 : Nat) : Int) = 0 from rfl] at l1
  obtain ⟨g, H1, ho, hg⟩ : ∃ g H1, OutB H Xs 0 g H1 ∧ (envL prog).call 51 [.nilSl, .int .i64 (totB Xs : Int)] H = some (g, H1) := by
    by_cases h0 : totB Xs = 0
    · refine ⟨_, _, .inl ⟨h0, rfl, rfl⟩, ?_⟩
      rw [h0]; exact grow0B H
    · refine ⟨_, _, .inr ⟨h0, rfl, (List.replicate (totB Xs) (tyB).zero).flatten, ?_, rfl⟩, ?_⟩
      · rw [rep_zero_len (k := 64) (by rfl), List.take_zero, show totB [] = 0 from rfl, Nat.zero_mul, Nat.add_zero]
      · rw [List.take_zero, show totB [] = 0 from rfl, show catB [] = [] from rfl, List.nil_append]
        exact growB (by omega) ht H
  have o : Outs (runC (envL prog) (b48 (envL prog)) ([.sl a 0 1 Xs.length Xs.length true] ++ List.replicate (36 - [AV.sl a 0 1 Xs.length Xs.length true].length) .undef) H) fun e' t H' => ∃ l, OutB H Xs Xs.length l H' ∧ fin [.tmp 2] (some (e', t, H')) = some (l, H') := by
    unfold b48
    generalize hQ : (fun (e' : Ex) (t : T) (H' : AHeap) => ∃ l, OutB H Xs Xs.length l H' ∧ fin [.tmp 2] (some (e', t, H')) = some (l, H')) = Q
    simp -implicitDefEqProofs (maxSteps := 5000000) only [go_sem, Nat.reduceShiftRight, Nat.reduceAnd, Nat.reduceBNe, Int.reduceEq, Nat.reduceAdd, Nat.reduceSub, Nat.reduceMul, Nat.reduceLeDiff, reduceIte, reduceCtorEq, Nat.reduceBEq, Nat.reduceEqDiff, runC_loop]
    unfold LQB at l0 l1
    generalize (envL prog).loop (runC (envL prog) (l48x0 (envL prog))) = L0 at l0 ⊢
    refine outs_ctx (fun r => seqR (blockR 0 r) _) (l0 _ _ _ _ _ _ _ _ _ _ _ _ _ _ _ _ _ _ _ _ _ _ _ _ _ _ _ _ _ _ _ _ (by omega)) ?_
    rintro e t H' ⟨rfl, rfl, k, rfl⟩
    simp -implicitDefEqProofs (maxSteps := 5000000) only [go_sem, Nat.reduceShiftRight, Nat.reduceAnd, Nat.reduceBNe, Int.reduceEq, Nat.reduceAdd, Nat.reduceSub, Nat.reduceMul, Nat.reduceLeDiff, reduceIte, reduceCtorEq, Nat.reduceBEq, Nat.reduceEqDiff, runC_loop, hg]
    generalize (envL prog).loop (runC (envL prog) (l48x1 (envL prog))) = L1 at l1 ⊢
    refine outs_ctx (fun r => seqR (blockR 2 r) _) (l1 _ _ _ _ _ _ _ _ _ _ _ _ _ _ _ _ _ _ _ _ _ _ _ _ _ _ _ _ _ _ _ _ _ _ ho (by omega)) ?_
    rintro e t H' ⟨rfl, l, ho, k, rfl⟩
    simp -implicitDefEqProofs (maxSteps := 5000000) only [go_sem, Nat.reduceShiftRight, Nat.reduceAnd, Nat.reduceBNe, Int.reduceEq, Nat.reduceAdd, Nat.reduceSub, Nat.reduceMul, Nat.reduceLeDiff, reduceIte, reduceCtorEq, Nat.reduceBEq, Nat.reduceEqDiff, outs_normal]
    subst hQ
    refine ⟨l, ho, ?_⟩
    simp -implicitDefEqProofs (maxSteps := 5000000) only [go_sem, Nat.reduceShiftRight, Nat.reduceAnd, Nat.reduceBNe, Int.reduceEq, Nat.reduceAdd, Nat.reduceSub, Nat.reduceMul, Nat.reduceLeDiff, reduceIte, reduceCtorEq, Nat.reduceBEq, Nat.reduceEqDiff]
  obtain ⟨e', t, H', hr, l, ho, hf⟩ := o
  rw [c48, hr, hf]
  rcases ho with ⟨h0, rfl, rfl⟩ | ⟨h0, rfl, Z, hZ, rfl⟩
  · exact ⟨_, _, .inl ⟨h0, rfl, rfl⟩, trim_same rfl⟩
  · rw [List.take_length] at hZ ⊢
    obtain rfl : Z = [] := List.eq_nil_of_length_eq_zero (by omega)
    rw [List.append_nil]
    exact ⟨_, _, .inr ⟨h0, rfl, rfl⟩, trim_keep (by simp [AV.under])⟩
end
end Go.Proofs.Ythjkfincekckhaa.G04

