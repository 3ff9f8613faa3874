/- What the functions that WaysPlays reaches answer, for every argument. No condition but those in each statement. -/
import Derived.Test.YtodoakeifdiidaaW5
import Derived.Test.YtodoakeifdiidaaE5
set_option linter.unusedSimpArgs false
set_option linter.unusedVariables false
set_option maxRecDepth 10000
namespace Go.Proofs.Ytodoakeifdiidaa.G13
open Go Go.Proofs.Ytodoakeifdiidaa.Eng
theorem modC (a n : Int) (ha : -9000000000000000000 ≤ a ∧ a ≤ 9223372036854775807 ∨ IntKind.i64.has a) (h1 : 1 ≤ n) (h2 : n ≤ 1000000) (H : AHeap) : (envL prog).call 10 [.int .i64 a, .int .i64 n] H = some (.int .i64 (a % n), H) := by
  have hd : decide (n < 1) = false := decide_eq_false (by omega)
  have r1 := int_rem .none .i64 a n (by omega)
  have r2 := int_rem .none .i64 (a.tmod n + n) n (by omega)
  have b1 := Int.tmod_lt_of_pos a (show 0 < n by omega)
  have b2 : -n < a.tmod n := by have := Int.lt_tmod_of_pos a (show 0 < n by omega); omega
  have w : IntKind.i64.wrap (a.tmod n + n) = a.tmod n + n := wrap64 (by omega) (by omega)
  have e : (a.tmod n + n).tmod n = a % n := by
    rw [Int.tmod_eq_emod_of_nonneg (by omega), Int.add_emod_right]
    by_cases h : 0 ≤ a
    · rw [Int.tmod_eq_emod_of_nonneg h, Int.emod_emod_of_dvd _ (Int.dvd_refl n)]
    · rw [Int.tmod_def, Int.sub_mul_emod_self_left]
  rw [c10]
  unfold b10
  simp -implicitDefEqProofs (maxSteps := 5000000) only [go_sem, Nat.reduceShiftRight, Nat.reduceAnd, Nat.reduceBNe, Int.reduceEq, Nat.reduceAdd, Nat.reduceSub, Nat.reduceMul, Nat.reduceLeDiff, reduceIte, reduceCtorEq, Nat.reduceBEq, Nat.reduceEqDiff, go_sem, hd, r1, r2, w, e]

def zslot : Slot := ⟨0, false, false⟩
theorem rep_slots (n : Nat) : (List.replicate n [AV.int .i64 0, .bool false, .bool false]).flatten = slotCells (List.replicate n zslot) := by
  unfold slotCells; rw [List.map_replicate]; rfl
theorem rep_hands (n : Nat) : (List.replicate n [AV.int .i64 0]).flatten = hcells (List.replicate n 0) := by
  unfold hcells; rw [List.map_replicate]
  induction n with
  | zero => rfl
  | succ n ih => rw [List.replicate_succ, List.flatten_cons, ih]; rfl
def fresh (n i : Nat) : List Slot := List.replicate i none' ++ List.replicate (n - i) zslot
theorem fresh_step {n i : Nat} (h : i < n) : (fresh n i).set i { sl (fresh n i) i with b := -1 } = fresh n (i + 1) := by
  have hs : sl (fresh n i) i = zslot := by
    unfold sl fresh
    rw [List.getElem?_append_right (by simp), List.length_replicate, Nat.sub_self, List.getElem?_replicate, if_pos (by omega)]; rfl
  rw [hs]
  unfold fresh
  rw [List.set_append_right _ _ (by simp), List.length_replicate, Nat.sub_self, show n - i = (n - (i + 1)) + 1 by omega, List.replicate_succ, List.set_cons_zero, List.replicate_succ', List.append_assoc]
  rfl
theorem fresh_len {n i : Nat} (h : i ≤ n) : (fresh n i).length = n := by unfold fresh; simp; omega

set_option maxHeartbeats 4000000 in
theorem newL (h : AHeap) (sets ways n : Nat) (hn : n ≤ 1000) (hc : List AV) (x0 x1 x2 x3 x4 x5 x8 x9 x10 x11 x12 x13 x14 x15 x16 x17 x18 x19 x20 x21 x22 x23 x24 x25 x26 x27 x28 x29 x30 x31 x32 x33 x34 x35 x48 : AV) : ∀ (k i : Nat) (j7 j38 j39 j40 j41 j42 j43 j44 j45 j46 j47 : AV), i + k = n →
    Outs (LQ l8x0 [x0, x1, x2, x3, x4, x5, .ptr (h.length + 2) 0, j7, x8, x9, x10, x11, x12, x13, x14, x15, x16, x17, x18, x19, x20, x21, x22, x23, x24, x25, x26, x27, x28, x29, x30, x31, x32, x33, x34, x35, .int .i64 (n : Int), .int .i64 (i : Int), j38, j39, j40, j41, j42, j43, j44, j45, j46, j47, x48] (h ++ [.rw (slotCells (fresh n i)), .rw hc, .rw [.int .i64 (sets : Int), .int .i64 (ways : Int), .sl h.length 0 3 n n true, .sl (h.length + 1) 0 1 sets sets true]]))
      fun e t H' => H' = h ++ [.rw (slotCells (List.replicate n none')), .rw hc, .rw [.int .i64 (sets : Int), .int .i64 (ways : Int), .sl h.length 0 3 n n true, .sl (h.length + 1) 0 1 sets sets true]] ∧ e = .exit 0 ∧ ∃ k7 k37 k38 k39 k40 k41 k42 k43 k44 k45 k46 k47 : AV, t = [x0, x1, x2, x3, x4, x5, .ptr (h.length + 2) 0, k7, x8, x9, x10, x11, x12, x13, x14, x15, x16, x17, x18, x19, x20, x21, x22, x23, x24, x25, x26, x27, x28, x29, x30, x31, x32, x33, x34, x35, .int .i64 (n : Int), k37, k38, k39, k40, k41, k42, k43, k44, k45, k46, k47, x48] := by
  intro k
  obtain ⟨L, hL⟩ : ∃ L, L = LQ l8x0 := ⟨_, rfl⟩
  have lo := loop_open hL
  rw [← hL]
  induction k with
  | zero =>
    intro i j7 j38 j39 j40 j41 j42 j43 j44 j45 j46 j47 hi
    obtain rfl : i = n := by omega
    have hd : decide ((i : Int) < (i : Int)) = false := by simp
    have hf : fresh i i = List.replicate i none' := by unfold fresh; simp
    rw [lo, hf]
    unfold l8x0
    simp -implicitDefEqProofs (maxSteps := 5000000) only [go_sem, Nat.reduceShiftRight, Nat.reduceAnd, Nat.reduceBNe, Int.reduceEq, Nat.reduceAdd, Nat.reduceSub, Nat.reduceMul, Nat.reduceLeDiff, reduceIte, reduceCtorEq, Nat.reduceBEq, Nat.reduceEqDiff, go_sem, hd, seqR_exit', outs_normal]
    exact ⟨_, _, _, _, _, _, _, _, _, _, _, _, rfl⟩
  | succ k ih =>
    intro i j7 j38 j39 j40 j41 j42 j43 j44 j45 j46 j47 hi
    have hd : decide ((i : Int) < (n : Int)) = true := decide_eq_true (by omega)
    have e2 : IntKind.i64.wrap ((i : Int) + 1) = ((i + 1 : Nat) : Int) := by rw [wrap64 (by omega) (by omega)]; omega
    have ix := idx_nat h.length 3 n n i true .i64 (by omega) (by omega)
    have ih := fun j7 j38 j39 j40 j41 j42 j43 j44 j45 j46 j47 => ih (i + 1) j7 j38 j39 j40 j41 j42 j43 j44 j45 j46 j47 (by omega)
    have wr := put_b (H := h ++ [.rw (slotCells (fresh n i)), .rw hc, .rw [.int .i64 (sets : Int), .int .i64 (ways : Int), .sl h.length 0 3 n n true, .sl (h.length + 1) 0 1 sets sets true]]) (bs := h.length) (S := fresh n i) (by simp) (i := i) (by rw [fresh_len (by omega)]; omega) (-1)
    rw [fresh_step (by omega)] at wr
    unfold updS at wr
    rw [set_zero, List.set_cons_zero] at wr
    rw [lo]
    unfold l8x0
    simp -implicitDefEqProofs (maxSteps := 5000000) only [go_sem, Nat.reduceShiftRight, Nat.reduceAnd, Nat.reduceBNe, Int.reduceEq, Nat.reduceAdd, Nat.reduceSub, Nat.reduceMul, Nat.reduceLeDiff, reduceIte, reduceCtorEq, Nat.reduceBEq, Nat.reduceEqDiff, go_sem, store_one, hd, e2, ix, wr]
    exact ih ..

theorem fresh_pm (h : AHeap) (sets ways : Nat) (s1 : 1 ≤ sets) (s8 : sets ≤ 8) (w1 : 1 ≤ ways) (w4 : ways ≤ 4) :
    PM (h ++ [.rw (slotCells (List.replicate (sets * ways) none')), .rw (hcells (List.replicate sets 0)), .rw [.int .i64 (sets : Int), .int .i64 (ways : Int), .sl h.length 0 3 (sets * ways) (sets * ways) true, .sl (h.length + 1) 0 1 sets sets true]]) (h.length + 2) h.length (h.length + 1) true sets ways (List.replicate (sets * ways) none') (List.replicate sets 0) :=
  ⟨by unfold cellsOf; rw [List.length_replicate]; simp, by simp, by simp, by omega, by omega, by omega, by simp, by simp, s1, s8, w1, w4, fun x hx => by rw [(List.mem_replicate.1 hx).2]; omega, fun x hx => by rw [(List.mem_replicate.1 hx).2]; decide⟩
def mayNew (sets ways : Int) : Bool := decide (1 ≤ sets ∧ sets ≤ 8 ∧ 1 ≤ ways ∧ ways ≤ 4)
set_option maxHeartbeats 4000000 in
theorem newBad (sets ways : Int) (hb : ¬ (1 ≤ sets ∧ sets ≤ 8 ∧ 1 ≤ ways ∧ ways ≤ 4)) (h : AHeap) : (envL prog).call 8 [.int .i64 sets, .int .i64 ways] h = some (.tup [.nilPtr, .int .i64 1], h) := by
  rw [c8]
  unfold b8
  by_cases h1 : sets < 1
  · have d1 := decide_eq_true h1
    simp -implicitDefEqProofs (maxSteps := 5000000) only [go_sem, Nat.reduceShiftRight, Nat.reduceAnd, Nat.reduceBNe, Int.reduceEq, Nat.reduceAdd, Nat.reduceSub, Nat.reduceMul, Nat.reduceLeDiff, reduceIte, reduceCtorEq, Nat.reduceBEq, Nat.reduceEqDiff, go_sem, d1]
  have d1 := decide_eq_false h1
  by_cases h2 : sets > 8
  · have d2 := decide_eq_true h2
    simp -implicitDefEqProofs (maxSteps := 5000000) only [go_sem, Nat.reduceShiftRight, Nat.reduceAnd, Nat.reduceBNe, Int.reduceEq, Nat.reduceAdd, Nat.reduceSub, Nat.reduceMul, Nat.reduceLeDiff, reduceIte, reduceCtorEq, Nat.reduceBEq, Nat.reduceEqDiff, go_sem, d1, d2]
  have d2 := decide_eq_false h2
  by_cases h3 : ways < 1
  · have d3 := decide_eq_true h3
    simp -implicitDefEqProofs (maxSteps := 5000000) only [go_sem, Nat.reduceShiftRight, Nat.reduceAnd, Nat.reduceBNe, Int.reduceEq, Nat.reduceAdd, Nat.reduceSub, Nat.reduceMul, Nat.reduceLeDiff, reduceIte, reduceCtorEq, Nat.reduceBEq, Nat.reduceEqDiff, go_sem, d1, d2, d3]
  have d3 := decide_eq_false h3
  by_cases h4 : ways > 4
  · have d4 := decide_eq_true h4
    simp -implicitDefEqProofs (maxSteps := 5000000) only [go_sem, Nat.reduceShiftRight, Nat.reduceAnd, Nat.reduceBNe, Int.reduceEq, Nat.reduceAdd, Nat.reduceSub, Nat.reduceMul, Nat.reduceLeDiff, reduceIte, reduceCtorEq, Nat.reduceBEq, Nat.reduceEqDiff, go_sem, d1, d2, d3, d4]
  exact absurd ⟨by omega, by omega, by omega, by omega⟩ hb
set_option maxHeartbeats 4000000 in
theorem newC (sets ways : Nat) (s1 : 1 ≤ sets) (s8 : sets ≤ 8) (w1 : 1 ≤ ways) (w4 : ways ≤ 4) (h : AHeap) : ∃ H', PM H' (h.length + 2) h.length (h.length + 1) true sets ways (List.replicate (sets * ways) none') (List.replicate sets 0) ∧ Adds h H' ∧ (envL prog).call 8 [.int .i64 (sets : Int), .int .i64 (ways : Int)] h = some (.tup [.ptr (h.length + 2) 0, .int .i64 0], H') := by
  have hcap : sets * ways ≤ 8 * 4 := Nat.mul_le_mul s8 w4
  have d1 : decide ((sets : Int) < 1) = false := decide_eq_false (by omega)
  have d2 : decide ((sets : Int) > 8) = false := decide_eq_false (by omega)
  have d3 : decide ((ways : Int) < 1) = false := decide_eq_false (by omega)
  have d4 : decide ((ways : Int) > 4) = false := decide_eq_false (by omega)
  have em : IntKind.i64.wrap ((sets : Int) * (ways : Int)) = ((sets * ways : Nat) : Int) := by rw [← Int.natCast_mul, wrap64 (by omega) (by omega)]
  have mk1 := fun h => make_rows 3 16 (sets * ways) true [.int .i64 0, .bool false, .bool false] (by omega) (by omega) (by unfold roomy; omega) h
  have mk2 := fun h => make_rows 1 8 sets false [.int .i64 0] (by omega) (by omega) (by unfold roomy; omega) h
  rw [rep_slots] at mk1
  rw [rep_hands] at mk2
  have nl := newL h sets ways (sets * ways) (by omega) (hcells (List.replicate sets 0)) (k := sets * ways) (i := 0)
  rw [show fresh (sets * ways) 0 = List.replicate (sets * ways) zslot by unfold fresh; simp, show ((0 : Nat) : Int) = 0 from rfl] at nl
  refine ⟨_, fresh_pm h sets ways s1 s8 w1 w4, ⟨_, rfl⟩, ?_⟩
  rw [c8]
  unfold b8
  refine eq_outs ?_ (trim_keep ?_)
  · generalize hQ : (fun (e' : Ex) (t : T) (h1 : AHeap) => fin [.tmp 4, .tmp 5] (some (e', t, h1)) = some (AV.tup [.ptr (h.length + 2) 0, .int .i64 0], _)) = Q
    simp -implicitDefEqProofs (maxSteps := 5000000) only [go_sem, Nat.reduceShiftRight, Nat.reduceAnd, Nat.reduceBNe, Int.reduceEq, Nat.reduceAdd, Nat.reduceSub, Nat.reduceMul, Nat.reduceLeDiff, reduceIte, reduceCtorEq, Nat.reduceBEq, Nat.reduceEqDiff, go_sem, wrap64, runC_loop, runC_range, callF_fn, callV_fn, callV_yld, yield_eq, yieldBody, yieldRaw, roundMid, roundEnd, rangeEnd, Bool.not_not, put_cons, put_nil, trim_same, at_zero, at_add, set_zero, set_add, store_one, write_zero, write_add, write_head, write_succ, splice_one, splice_more, List.drop_nil, List.take_nil, cell_int, cell_bool, fillS, splice_one, idxA, Ex.isNormal, List.set_nil, List.length_set, List.all_cons, List.all_nil, Bool.and_self, and_self, true_and, and_true, List.getElem?_nil, Int.reduceLT, Int.reduceLE, Int.reduceToNat, Int.toNat_zero, Int.toNat_one, Int.reduceAdd, Int.reduceSub, Int.reduceMul, Int.reduceNeg, Int.reduceBEq, Int.reduceBNe, Int.reduceGE, Int.reduceGT, Nat.reduceLT, trim_keep, under_fn, under_ptr, under_sl, Nat.lt_irrefl, not_lt_add, trim_tail, keepOk, ABlk.vals, Int.cast_ofNat_Int, decide_true, decide_false, List.all_cons, List.all_nil, Nat.zero_mul, Nat.mul_one, Nat.one_mul, runC_loop, d1, d2, d3, d4, em, mk1, mk2]
    refine outs_ctx (fun r => seqR (blockR 0 r) _) (nl _ _ _ _ _ _ _ _ _ _ _ _ _ _ _ _ _ _ _ _ _ _ _ _ _ _ _ _ _ _ _ _ _ _ _ _ _ _ _ _ _ _ _ _ _ _ (by omega)) ?_
    rintro e t H' ⟨rfl, rfl, k7, k37, k38, k39, k40, k41, k42, k43, k44, k45, k46, k47, rfl⟩
    simp -implicitDefEqProofs (maxSteps := 5000000) only [go_sem, Nat.reduceShiftRight, Nat.reduceAnd, Nat.reduceBNe, Int.reduceEq, Nat.reduceAdd, Nat.reduceSub, Nat.reduceMul, Nat.reduceLeDiff, reduceIte, reduceCtorEq, Nat.reduceBEq, Nat.reduceEqDiff, go_sem, outs_normal]
    subst hQ
    simp -implicitDefEqProofs (maxSteps := 5000000) only [go_sem, Nat.reduceShiftRight, Nat.reduceAnd, Nat.reduceBNe, Int.reduceEq, Nat.reduceAdd, Nat.reduceSub, Nat.reduceMul, Nat.reduceLeDiff, reduceIte, reduceCtorEq, Nat.reduceBEq, Nat.reduceEqDiff, go_sem]
  · simp [AV.under, underAll]
end Go.Proofs.Ytodoakeifdiidaa.G13

