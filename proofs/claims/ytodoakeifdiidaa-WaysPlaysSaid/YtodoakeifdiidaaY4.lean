/- What the functions that WaysPlays reaches answer, for every argument. No condition but those in each statement. -/
import Derived.Test.YtodoakeifdiidaaY3
set_option linter.unusedSimpArgs false
set_option linter.unusedVariables false
set_option maxRecDepth 10000
namespace Go.Proofs.Ytodoakeifdiidaa.G13
open Go Go.Proofs.Ytodoakeifdiidaa.Eng
def nrows (i : Nat) : List (List AV) := List.replicate i (slotR none')
theorem nrows3 (i : Nat) : ∀ r ∈ nrows i, r.length = 3 := fun r hr => by rw [(List.mem_replicate.1 hr).2]; rfl
theorem nrows_cells (i : Nat) : (nrows i).flatten = slotCells (List.replicate i none') := by unfold nrows slotCells; rw [List.map_replicate]
def refCells (h : AHeap) (sets ways : Nat) (l : AV) : List AV := [.int .i64 (sets : Int), .int .i64 (ways : Int), l, .sl h.length 0 1 sets sets true]
set_option maxHeartbeats 4000000 in
theorem newRL (h : AHeap) (sets ways n : Nat) (hn : n ≤ 1000) (em : IntKind.i64.wrap ((sets : Int) * (ways : Int)) = (n : Int)) (hc : List AV) (x2 x3 x4 x5 x8 x9 x10 x11 x12 x13 x14 x15 x16 x17 x18 x19 x20 x21 x22 x23 x24 x25 x26 x27 x45 : AV) : ∀ (k i : Nat) (l : AV) (G : AHeap) (j28 j29 j30 j31 j32 j33 j34 j35 j36 j37 j38 j39 j40 j41 j42 j43 j44 : AV), GR 3 (h ++ (.rw hc :: .rw (refCells h sets ways l) :: G)) (h.length + 2) l (nrows i) → i + k = n →
    Outs (LQ l19x0 [.int .i64 (sets : Int), .int .i64 (ways : Int), x2, x3, x4, x5, .ptr (h.length + 1) 0, .int .i64 (i : Int), x8, x9, x10, x11, x12, x13, x14, x15, x16, x17, x18, x19, x20, x21, x22, x23, x24, x25, x26, x27, j28, j29, j30, j31, j32, j33, j34, j35, j36, j37, j38, j39, j40, j41, j42, j43, j44, x45] (h ++ (.rw hc :: .rw (refCells h sets ways l) :: G)))
      fun e t H' => e = .exit 0 ∧ (∃ l G, H' = h ++ (.rw hc :: .rw (refCells h sets ways l) :: G) ∧ GR 3 H' (h.length + 2) l (nrows n)) ∧ ∃ k : Nat → AV, t = [.int .i64 (sets : Int), .int .i64 (ways : Int), x2, x3, x4, x5, .ptr (h.length + 1) 0, (k 7), x8, x9, x10, x11, x12, x13, x14, x15, x16, x17, x18, x19, x20, x21, x22, x23, x24, x25, x26, x27, (k 28), (k 29), (k 30), (k 31), (k 32), (k 33), (k 34), (k 35), (k 36), (k 37), (k 38), (k 39), (k 40), (k 41), (k 42), (k 43), (k 44), x45] := by
  intro k
  obtain ⟨L, hL⟩ : ∃ L, L = LQ l19x0 := ⟨_, rfl⟩
  have lo := loop_open hL
  rw [← hL]
  induction k with
  | zero =>
    intro i l G j28 j29 j30 j31 j32 j33 j34 j35 j36 j37 j38 j39 j40 j41 j42 j43 j44 g hi
    obtain rfl : i = n := by omega
    have hd : decide ((i : Int) < (i : Int)) = false := by simp
    rw [lo]
    unfold l19x0
    simp -implicitDefEqProofs (maxSteps := 5000000) only [go_sem, Nat.reduceShiftRight, Nat.reduceAnd, Nat.reduceBNe, Int.reduceEq, Nat.reduceAdd, Nat.reduceSub, Nat.reduceMul, Nat.reduceLeDiff, reduceIte, reduceCtorEq, Nat.reduceBEq, Nat.reduceEqDiff, go_sem, em, hd, seqR_exit', outs_normal]
    exact ⟨⟨l, G, rfl, g⟩, exF rfl⟩
  | succ k ih =>
    intro i l G j28 j29 j30 j31 j32 j33 j34 j35 j36 j37 j38 j39 j40 j41 j42 j43 j44 g hi
    have hd : decide ((i : Int) < (n : Int)) = true := decide_eq_true (by omega)
    have e2 : IntKind.i64.wrap ((i : Int) + 1) = ((i + 1 : Nat) : Int) := by rw [wrap64 (by omega) (by omega)]; omega
    have hca := g.cells
    obtain ⟨l2, H2, ⟨G2, A2⟩, g2, ea⟩ := GR.app (k := 3) (by omega) (d := ty 3 true 16 [.int .i64 0, .bool false, .bool false]) rfl (by decide) (P := h ++ [.rw hc, .rw (refCells h sets ways l)]) (H := h ++ (.rw hc :: .rw (refCells h sets ways l) :: (G ++ [.rw (slotR none')]))) ⟨G ++ [.rw (slotR none')], by simp⟩ (l := l) (rows := nrows i)
      (by have := g.mono [.rw (slotR none')]; simpa using this) (nrows3 i) (y := .sl (h.length + (G.length + 2)) 0 3 1 1 true) (r := slotR none') rfl
        (by
          have : (h ++ (.rw hc :: .rw (refCells h sets ways l) :: (G ++ [.rw (slotR none')])))[h.length + (G.length + 2)]? = some (.rw (slotR none')) := by
            rw [List.getElem?_append_right (by omega), show h.length + (G.length + 2) - h.length = G.length + 1 + 1 by omega, List.getElem?_cons_succ, List.getElem?_cons_succ, List.getElem?_append_right (Nat.le_refl _), Nat.sub_self]; rfl
          show (if 3 = 3 then readN _ (h.length + (G.length + 2)) 0 (1 * 3) else none) = _
          unfold readN
          rw [if_pos rfl, cells_rw this]; rfl) rfl (by unfold nrows; rw [List.length_replicate]; unfold roomy; show (_ + 1) * 16 ≤ _; omega)
    have ng : nrows i ++ [slotR none'] = nrows (i + 1) := by unfold nrows; rw [List.replicate_succ']
    rw [ng] at g2
    subst A2
    have hl2 := g2.cells
    have g3 : GR 3 (h ++ (.rw hc :: .rw (refCells h sets ways l2) :: G2)) (h.length + 2) l2 (nrows (i + 1)) := by
      rcases g2 with g2 | ⟨q1, b, q2, q3, q4⟩
      · exact .inl g2
      · simp only [List.length_append, List.length_cons, List.length_nil] at q2
        refine .inr ⟨q1, b, q2, q3, ?_⟩
        rw [List.append_assoc, List.getElem?_append_right (by omega)] at q4
        rw [List.getElem?_append_right (by omega), ← q4]
        obtain ⟨c, hc2⟩ : ∃ c, b - h.length = c + 1 + 1 := ⟨b - h.length - 2, by omega⟩
        rw [hc2]; rfl
    have ih := fun j28 j29 j30 j31 j32 j33 j34 j35 j36 j37 j38 j39 j40 j41 j42 j43 j44 => ih (i + 1) l2 G2 j28 j29 j30 j31 j32 j33 j34 j35 j36 j37 j38 j39 j40 j41 j42 j43 j44 g3 (by omega)
    unfold slotR none' at ea
    unfold refCells at ea ih
    rw [List.append_assoc] at ea
    simp only [List.cons_append, List.nil_append] at ea
    rw [lo]
    unfold l19x0 refCells
    simp -implicitDefEqProofs (maxSteps := 5000000) only [go_sem, Nat.reduceShiftRight, Nat.reduceAnd, Nat.reduceBNe, Int.reduceEq, Nat.reduceAdd, Nat.reduceSub, Nat.reduceMul, Nat.reduceLeDiff, reduceIte, reduceCtorEq, Nat.reduceBEq, Nat.reduceEqDiff, wrap64, runC_loop, runC_range, callF_fn, callV_fn, callV_yld, yield_eq, yieldBody, yieldRaw, roundMid, roundEnd, rangeEnd, Bool.not_not, put_cons, put_nil, trim_same, at_zero, at_add, set_zero, set_add, store_one, write_zero, write_add, write_head, write_succ, splice_one, splice_more, List.drop_nil, List.take_nil, cell_int, cell_bool, fillS, splice_one, idxA, Ex.isNormal, List.set_nil, List.length_set, List.all_cons, List.all_nil, Bool.and_self, and_self, true_and, and_true, List.getElem?_nil, Int.reduceLT, Int.reduceLE, Int.reduceToNat, Int.toNat_zero, Int.toNat_one, Int.reduceAdd, Int.reduceSub, Int.reduceMul, Int.reduceNeg, Int.reduceBEq, Int.reduceBNe, Int.reduceGE, Int.reduceGT, Nat.reduceLT, trim_keep, under_fn, under_ptr, under_sl, Nat.lt_irrefl, not_lt_add, trim_tail, keepOk, ABlk.vals, Int.cast_ofNat_Int, decide_true, decide_false, List.all_cons, List.all_nil, Nat.zero_mul, Nat.mul_one, Nat.one_mul, go_sem, em, hd, e2, ea, hl2]
    exact ih ..
theorem refPM {h : AHeap} {sets ways : Nat} (s1 : 1 ≤ sets) (s8 : sets ≤ 8) (w1 : 1 ≤ ways) (w4 : ways ≤ 4) {l : AV} {G : AHeap} (g : GR 3 (h ++ (.rw (hcells (List.replicate sets 0)) :: .rw (refCells h sets ways l) :: G)) (h.length + 2) l (nrows (sets * ways))) :
    ∃ b, h.length + 2 ≤ b ∧ PM (h ++ (.rw (hcells (List.replicate sets 0)) :: .rw (refCells h sets ways l) :: G)) (h.length + 1) b h.length false sets ways (List.replicate (sets * ways) none') (List.replicate sets 0) := by
  have hpos : 1 * 1 ≤ sets * ways := Nat.mul_le_mul s1 w1
  rcases g with ⟨g, _⟩ | ⟨_, b, q2, rfl, q4⟩
  · have := congrArg List.length g; unfold nrows at this; simp at this; omega
  · rw [nrows_cells] at q4
    refine ⟨b, q2, ⟨?_, q4, by simp, by omega, by omega, by omega, by simp, by simp, s1, s8, w1, w4, fun x hx => by rw [(List.mem_replicate.1 hx).2]; omega, fun x hx => by rw [(List.mem_replicate.1 hx).2]; decide⟩⟩
    unfold cellsOf refCells nrows
    rw [List.length_replicate, List.length_replicate]
    simp
set_option maxHeartbeats 4000000 in
theorem newRBad (sets ways : Int) (hb : ¬ (1 ≤ sets ∧ sets ≤ 8 ∧ 1 ≤ ways ∧ ways ≤ 4)) (h : AHeap) : (envL prog).call 19 [.int .i64 sets, .int .i64 ways] h = some (.tup [.nilPtr, .int .i64 1], h) := by
  rw [c19]
  unfold b19
  by_cases h1 : sets < 1
  · have d1 := decide_eq_true h1
    simp -implicitDefEqProofs (maxSteps := 5000000) only [go_sem, Nat.reduceShiftRight, Nat.reduceAnd, Nat.reduceBNe, Int.reduceEq, Nat.reduceAdd, Nat.reduceSub, Nat.reduceMul, Nat.reduceLeDiff, reduceIte, reduceCtorEq, Nat.reduceBEq, Nat.reduceEqDiff, go_sem, d1]
  have d1 := decide_eq_false h1
  by_cases h2 : sets > 8
  · have d2 := decide_eq_true h2
    simp -implicitDefEqProofs (maxSteps := 5000000) only [go_sem, Nat.reduceShiftRight, Nat.reduceAnd, Nat.reduceBNe, Int.reduceEq, Nat.reduceAdd, Nat.reduceSub, Nat.reduceMul, Nat.reduceLeDiff, reduceIte, reduceCtorEq, Nat.reduceBEq, Nat.reduceEqDiff, go_sem, d1, d2]
  have d2 := decide_eq_false h2
  by_cases h3 : ways < 1
  · have d3 := decide_eq_true h3
    simp -implicitDefEqProofs (maxSteps := 5000000) only [go_sem, Nat.reduceShiftRight, Nat.reduceAnd, Nat.reduceBNe, Int.reduceEq, Nat.reduceAdd, Nat.reduceSub, Nat.reduceMul, Nat.reduceLeDiff, reduceIte, reduceCtorEq, Nat.reduceBEq, Nat.reduceEqDiff, go_sem, d1, d2, d3]
  have d3 := decide_eq_false h3
  by_cases h4 : ways > 4
  · have d4 := decide_eq_true h4
    simp -implicitDefEqProofs (maxSteps := 5000000) only [go_sem, Nat.reduceShiftRight, Nat.reduceAnd, Nat.reduceBNe, Int.reduceEq, Nat.reduceAdd, Nat.reduceSub, Nat.reduceMul, Nat.reduceLeDiff, reduceIte, reduceCtorEq, Nat.reduceBEq, Nat.reduceEqDiff, go_sem, d1, d2, d3, d4]
  exact absurd ⟨by omega, by omega, by omega, by omega⟩ hb
set_option maxHeartbeats 4000000 in
theorem newRC (sets ways : Nat) (s1 : 1 ≤ sets) (s8 : sets ≤ 8) (w1 : 1 ≤ ways) (w4 : ways ≤ 4) (h : AHeap) : ∃ H' b, h.length + 2 ≤ b ∧ PM H' (h.length + 1) b h.length false sets ways (List.replicate (sets * ways) none') (List.replicate sets 0) ∧ Adds h H' ∧ (envL prog).call 19 [.int .i64 (sets : Int), .int .i64 (ways : Int)] h = some (.tup [.ptr (h.length + 1) 0, .int .i64 0], H') := by
  have hcap : sets * ways ≤ 8 * 4 := Nat.mul_le_mul s8 w4
  have d1 : decide ((sets : Int) < 1) = false := decide_eq_false (by omega)
  have d2 : decide ((sets : Int) > 8) = false := decide_eq_false (by omega)
  have d3 : decide ((ways : Int) < 1) = false := decide_eq_false (by omega)
  have d4 : decide ((ways : Int) > 4) = false := decide_eq_false (by omega)
  have em : IntKind.i64.wrap ((sets : Int) * (ways : Int)) = ((sets * ways : Nat) : Int) := by rw [← Int.natCast_mul, wrap64 (by omega) (by omega)]
  have mk2 := fun h => make_rows 1 8 sets false [.int .i64 0] (by omega) (by omega) (by unfold roomy; omega) h
  rw [rep_hands] at mk2
  have nl := newRL h sets ways (sets * ways) (by omega) em (hcells (List.replicate sets 0)) (k := sets * ways) (i := 0) (l := .nilSl) (G := [])
  rw [show ((0 : Nat) : Int) = 0 from rfl] at nl
  have o : Outs (runC (envL prog) (b19 (envL prog)) ([.int .i64 (sets : Int), .int .i64 (ways : Int)] ++ List.replicate (46 - [AV.int .i64 (sets : Int), .int .i64 (ways : Int)].length) .undef) h) fun e' t H' => (∃ l G, H' = h ++ (.rw (hcells (List.replicate sets 0)) :: .rw (refCells h sets ways l) :: G) ∧ GR 3 H' (h.length + 2) l (nrows (sets * ways))) ∧ fin [.tmp 4, .tmp 5] (some (e', t, H')) = some (.tup [.ptr (h.length + 1) 0, .int .i64 0], H') := by
    unfold b19
    generalize hQ : (fun (e' : Ex) (t : T) (H' : AHeap) => (∃ l G, H' = h ++ (.rw (hcells (List.replicate sets 0)) :: .rw (refCells h sets ways l) :: G) ∧ GR 3 H' (h.length + 2) l (nrows (sets * ways))) ∧ fin [.tmp 4, .tmp 5] (some (e', t, H')) = some (AV.tup [.ptr (h.length + 1) 0, .int .i64 0], H')) = Q
    simp -implicitDefEqProofs (maxSteps := 5000000) only [go_sem, Nat.reduceShiftRight, Nat.reduceAnd, Nat.reduceBNe, Int.reduceEq, Nat.reduceAdd, Nat.reduceSub, Nat.reduceMul, Nat.reduceLeDiff, reduceIte, reduceCtorEq, Nat.reduceBEq, Nat.reduceEqDiff, go_sem, wrap64, runC_loop, runC_range, callF_fn, callV_fn, callV_yld, yield_eq, yieldBody, yieldRaw, roundMid, roundEnd, rangeEnd, Bool.not_not, put_cons, put_nil, trim_same, at_zero, at_add, set_zero, set_add, store_one, write_zero, write_add, write_head, write_succ, splice_one, splice_more, List.drop_nil, List.take_nil, cell_int, cell_bool, fillS, splice_one, idxA, Ex.isNormal, List.set_nil, List.length_set, List.all_cons, List.all_nil, Bool.and_self, and_self, true_and, and_true, List.getElem?_nil, Int.reduceLT, Int.reduceLE, Int.reduceToNat, Int.toNat_zero, Int.toNat_one, Int.reduceAdd, Int.reduceSub, Int.reduceMul, Int.reduceNeg, Int.reduceBEq, Int.reduceBNe, Int.reduceGE, Int.reduceGT, Nat.reduceLT, trim_keep, under_fn, under_ptr, under_sl, Nat.lt_irrefl, not_lt_add, trim_tail, keepOk, ABlk.vals, Int.cast_ofNat_Int, decide_true, decide_false, List.all_cons, List.all_nil, Nat.zero_mul, Nat.mul_one, Nat.one_mul, runC_loop, d1, d2, d3, d4, mk2]
    unfold LQ at nl
    generalize (envL prog).loop (runC (envL prog) (l19x0 (envL prog))) = L at nl ⊢
    unfold refCells at nl
    refine outs_ctx (fun r => seqR (blockR 0 r) _) (nl _ _ _ _ _ _ _ _ _ _ _ _ _ _ _ _ _ _ _ _ _ _ _ _ _ _ _ _ _ _ _ _ _ _ _ _ _ _ _ _ _ _ (.inl ⟨rfl, rfl⟩) (by omega)) ?_
    rintro e t H' ⟨rfl, ⟨l, G, rfl, g⟩, k, rfl⟩
    simp -implicitDefEqProofs (maxSteps := 5000000) only [go_sem, Nat.reduceShiftRight, Nat.reduceAnd, Nat.reduceBNe, Int.reduceEq, Nat.reduceAdd, Nat.reduceSub, Nat.reduceMul, Nat.reduceLeDiff, reduceIte, reduceCtorEq, Nat.reduceBEq, Nat.reduceEqDiff, go_sem, outs_normal]
    subst hQ
    refine ⟨⟨l, G, rfl, g⟩, ?_⟩
    simp -implicitDefEqProofs (maxSteps := 5000000) only [go_sem, Nat.reduceShiftRight, Nat.reduceAnd, Nat.reduceBNe, Int.reduceEq, Nat.reduceAdd, Nat.reduceSub, Nat.reduceMul, Nat.reduceLeDiff, reduceIte, reduceCtorEq, Nat.reduceBEq, Nat.reduceEqDiff, go_sem]
  obtain ⟨e', t, H', hr, ⟨l, G, rfl, g⟩, hf⟩ := o
  obtain ⟨b, hb, pm⟩ := refPM s1 s8 w1 w4 g
  refine ⟨_, b, hb, pm, ⟨_, rfl⟩, ?_⟩
  rw [c19, hr, hf]
  exact trim_keep (by simp [AV.under, underAll])
end Go.Proofs.Ytodoakeifdiidaa.G13

