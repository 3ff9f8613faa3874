/- What the functions that WaysPlays reaches answer, for every argument. No condition but those in each statement. -/
import Derived.Test.YtodoakeifdiidaaW9
set_option linter.unusedSimpArgs false
set_option linter.unusedVariables false
set_option maxRecDepth 10000
namespace Go.Proofs.Ytodoakeifdiidaa.G13
open Go Go.Proofs.Ytodoakeifdiidaa.Eng
theorem gr_keep {k : Nat} {H H' : AHeap} {B : Nat} {l : AV} {rows : List (List AV)} {Bs : List Nat} (g : GR k H B l rows) (kk : KeepB H H' Bs) (hb : ∀ b ∈ Bs, b < B) : GR k H' B l rows := by
  rcases g with g | ⟨g1, b, g2, g3, g4⟩
  · exact .inl g
  · exact .inr ⟨g1, b, g2, g3, by rw [kk.2 b (fun h => by have := hb b h; omega), g4]⟩
def dval (s : Slot) : Int := if s.d then s.b else -1
def dlist (S : List Slot) : List Int := S.map dval
def drows (S : List Slot) : List (List AV) := (dlist S).map fun z => [AV.int .i64 z]
theorem drows_snoc {S : List Slot} {i : Nat} (h : i < S.length) : drows (S.take (i + 1)) = drows (S.take i) ++ [[.int .i64 (dval (sl S i))]] := by
  unfold drows dlist sl
  rw [List.take_add_one, List.getElem?_eq_getElem h, List.map_append, List.map_append]; rfl
theorem drows_len (S : List Slot) : (drows S).length = S.length := by unfold drows dlist; simp
theorem drows1 (S : List Slot) : ∀ r ∈ drows S, r.length = 1 := fun r hr => by
  unfold drows at hr
  obtain ⟨z, _, rfl⟩ := List.mem_map.1 hr; rfl
section
variable {H : AHeap} {p bs bh : Nat} {e : Bool} {sets ways : Nat} {S : List Slot} {hs : List Nat} (m : PM H p bs bh e sets ways S hs)
include m
set_option maxHeartbeats 4000000 in
theorem listL (x0 x1 x2 x4 x6 x7 x8 x9 x10 x28 : AV) : ∀ (k i : Nat) (H' : AHeap) (l : AV) (j5 j14 j15 j16 j17 j18 j19 j20 j21 j22 j23 j24 j25 j26 j27 : AV), Adds H H' → GR 1 H' H.length l (drows (S.take i)) → i + k = S.length →
    Outs (LQ l11x0 [x0, x1, x2, l, x4, j5, x6, x7, x8, x9, x10, .sl bs 0 3 S.length S.length e, .int .i64 (S.length : Int), .int .i64 (i : Int), j14, j15, j16, j17, j18, j19, j20, j21, j22, j23, j24, j25, j26, j27, x28] H') fun e' t H2 => e' = .exit 0 ∧ Adds H H2 ∧ ∃ l', GR 1 H2 H.length l' (drows S) ∧ ∃ k : Nat → AV, t = [x0, x1, x2, l', x4, (k 5), x6, x7, x8, x9, x10, .sl bs 0 3 S.length S.length e, .int .i64 (S.length : Int), (k 13), (k 14), (k 15), (k 16), (k 17), (k 18), (k 19), (k 20), (k 21), (k 22), (k 23), (k 24), (k 25), (k 26), (k 27), x28] := by
  intro k
  obtain ⟨L, hL⟩ : ∃ L, L = LQ l11x0 := ⟨_, rfl⟩
  have lo := loop_open hL
  have sm := m.small
  rw [← hL]
  induction k with
  | zero =>
    intro i H' l j5 j14 j15 j16 j17 j18 j19 j20 j21 j22 j23 j24 j25 j26 j27 A g hi
    obtain rfl : i = S.length := by omega
    have hd : decide ((S.length : Int) < (S.length : Int)) = false := by simp
    rw [List.take_length] at g
    rw [lo]
    unfold l11x0
    simp -implicitDefEqProofs (maxSteps := 5000000) only [go_sem, Nat.reduceShiftRight, Nat.reduceAnd, Nat.reduceBNe, Int.reduceEq, Nat.reduceAdd, Nat.reduceSub, Nat.reduceMul, Nat.reduceLeDiff, reduceIte, reduceCtorEq, Nat.reduceBEq, Nat.reduceEqDiff, go_sem, hd, seqR_exit', outs_normal]
    exact ⟨A, l, g, exF rfl⟩
  | succ k ih =>
    intro i H' l j5 j14 j15 j16 j17 j18 j19 j20 j21 j22 j23 j24 j25 j26 j27 A g hi
    have hlt : i < S.length := by omega
    have hd : decide ((i : Int) < (S.length : Int)) = true := decide_eq_true (by omega)
    have e2 : IntKind.i64.wrap ((i : Int) + 1) = ((i + 1 : Nat) : Int) := by rw [wrap64 (by omega) (by omega)]; omega
    have ix := idx_nat bs 3 S.length S.length i e .i64 (by omega) hlt
    have hc := A.cells (cells_rw m.sl)
    have hle : i * 3 + 3 ≤ (slotCells S).length := by rw [slot_len]; omega
    have htk : ((slotCells S).drop (i * 3)).take 3 = slotR (sl S i) := rows_take (rows3 S) (row_at hlt)
    have ih := fun H2 l2 j5 j14 j15 j16 j17 j18 j19 j20 j21 j22 j23 j24 j25 j26 j27 A2 g2 => ih (i + 1) H2 l2 j5 j14 j15 j16 j17 j18 j19 j20 j21 j22 j23 j24 j25 j26 j27 A2 g2 (by omega)
    have dl := drows_len (S.take i)
    rw [List.length_take] at dl
    generalize hx : sl S i = x at *
    have grow : ∀ z, dval x = z → ∃ l2 H2, Adds H H2 ∧ GR 1 H2 H.length l2 (drows (S.take (i + 1))) ∧ app (ty 1 false 8 [.int .i64 0]) l (.sl (H'.length + 1) 0 1 1 1 true) (H' ++ [.rw [.int .i64 x.b, .bool x.d, .bool x.m], .rw [.int .i64 z]]) = some (l2, H2) := by
      intro z hz
      have := GR.app (k := 1) (by omega) (d := ty 1 false 8 [.int .i64 0]) rfl (by decide) (P := H) (H := H' ++ [.rw [.int .i64 x.b, .bool x.d, .bool x.m], .rw [.int .i64 z]]) (A.trans ⟨_, rfl⟩) (g.mono _) (drows1 _) (y := .sl (H'.length + 1) 0 1 1 1 true) (r := [.int .i64 z]) rfl
        (by unfold srcCells readN cellsOf; simp) rfl (by rw [dl]; unfold roomy; show (_ + 1) * 8 ≤ _; omega)
      rw [drows_snoc hlt, hx, hz]
      exact this
    rw [lo]
    unfold l11x0
    cases hdd : x.d with
    | true =>
      obtain ⟨l2, H2, A2, g2, ea⟩ := grow x.b (by unfold dval; rw [hdd]; rfl)
      rw [hdd] at ea
      simp -implicitDefEqProofs (maxSteps := 5000000) only [go_sem, Nat.reduceShiftRight, Nat.reduceAnd, Nat.reduceBNe, Int.reduceEq, Nat.reduceAdd, Nat.reduceSub, Nat.reduceMul, Nat.reduceLeDiff, reduceIte, reduceCtorEq, Nat.reduceBEq, Nat.reduceEqDiff, wrap64, runC_loop, runC_range, callF_fn, callV_fn, callV_yld, yield_eq, yieldBody, yieldRaw, roundMid, roundEnd, rangeEnd, Bool.not_not, put_cons, put_nil, trim_same, at_zero, at_add, set_zero, set_add, store_one, write_zero, write_add, write_head, write_succ, splice_one, splice_more, List.drop_nil, List.take_nil, cell_int, cell_bool, fillS, splice_one, idxA, Ex.isNormal, List.set_nil, List.length_set, List.all_cons, List.all_nil, Bool.and_self, and_self, true_and, and_true, List.getElem?_nil, Int.reduceLT, Int.reduceLE, Int.reduceToNat, Int.toNat_zero, Int.toNat_one, Int.reduceAdd, Int.reduceSub, Int.reduceMul, Int.reduceNeg, Int.reduceBEq, Int.reduceBNe, Int.reduceGE, Int.reduceGT, Nat.reduceLT, trim_keep, under_fn, under_ptr, under_sl, Nat.lt_irrefl, not_lt_add, trim_tail, keepOk, ABlk.vals, Int.cast_ofNat_Int, decide_true, decide_false, List.all_cons, List.all_nil, Nat.zero_mul, Nat.mul_one, Nat.one_mul, go_sem, hd, e2, ix, hc, hle, htk, slotR, hdd, ea]
      exact ih H2 l2 _ _ _ _ _ _ _ _ _ _ _ _ _ _ _ A2 g2
    | false =>
      obtain ⟨l2, H2, A2, g2, ea⟩ := grow (-1) (by unfold dval; rw [hdd]; rfl)
      rw [hdd] at ea
      simp -implicitDefEqProofs (maxSteps := 5000000) only [go_sem, Nat.reduceShiftRight, Nat.reduceAnd, Nat.reduceBNe, Int.reduceEq, Nat.reduceAdd, Nat.reduceSub, Nat.reduceMul, Nat.reduceLeDiff, reduceIte, reduceCtorEq, Nat.reduceBEq, Nat.reduceEqDiff, wrap64, runC_loop, runC_range, callF_fn, callV_fn, callV_yld, yield_eq, yieldBody, yieldRaw, roundMid, roundEnd, rangeEnd, Bool.not_not, put_cons, put_nil, trim_same, at_zero, at_add, set_zero, set_add, store_one, write_zero, write_add, write_head, write_succ, splice_one, splice_more, List.drop_nil, List.take_nil, cell_int, cell_bool, fillS, splice_one, idxA, Ex.isNormal, List.set_nil, List.length_set, List.all_cons, List.all_nil, Bool.and_self, and_self, true_and, and_true, List.getElem?_nil, Int.reduceLT, Int.reduceLE, Int.reduceToNat, Int.toNat_zero, Int.toNat_one, Int.reduceAdd, Int.reduceSub, Int.reduceMul, Int.reduceNeg, Int.reduceBEq, Int.reduceBNe, Int.reduceGE, Int.reduceGT, Nat.reduceLT, trim_keep, under_fn, under_ptr, under_sl, Nat.lt_irrefl, not_lt_add, trim_tail, keepOk, ABlk.vals, Int.cast_ofNat_Int, decide_true, decide_false, List.all_cons, List.all_nil, Nat.zero_mul, Nat.mul_one, Nat.one_mul, go_sem, hd, e2, ix, hc, hle, htk, slotR, hdd, ea]
      exact ih H2 l2 _ _ _ _ _ _ _ _ _ _ _ _ _ _ _ A2 g2
set_option maxHeartbeats 4000000 in
theorem listC : ∃ l H', Adds H H' ∧ GR 1 H' H.length l (drows S) ∧ (envL prog).call 11 [.ptr p 0] H = some (l, H') := by
  have hm := m.map
  have sl0 := listL m (k := S.length) (i := 0) (H' := H) (l := .nilSl)
  rw [show ((0 : Nat) : Int) = 0 from rfl] at sl0
  have h1 : 1 ≤ S.length := by rw [m.len]; exact Nat.mul_le_mul m.s1 m.w1
  have o : Outs (runC (envL prog) (b11 (envL prog)) ([.ptr p 0] ++ List.replicate (29 - [AV.ptr p 0].length) .undef) H) fun e' t H' => ∃ l, Adds H H' ∧ GR 1 H' H.length l (drows S) ∧ fin [.tmp 2] (some (e', t, H')) = some (l, H') := by
    unfold b11
    generalize hQ : (fun (e' : Ex) (t : T) (H' : AHeap) => ∃ l, Adds H H' ∧ GR 1 H' H.length l (drows S) ∧ fin [.tmp 2] (some (e', t, H')) = some (l, H')) = Q
    simp -implicitDefEqProofs (maxSteps := 5000000) only [go_sem, Nat.reduceShiftRight, Nat.reduceAnd, Nat.reduceBNe, Int.reduceEq, Nat.reduceAdd, Nat.reduceSub, Nat.reduceMul, Nat.reduceLeDiff, reduceIte, reduceCtorEq, Nat.reduceBEq, Nat.reduceEqDiff, go_sem, runC_loop, hm]
    unfold LQ at sl0
    generalize (envL prog).loop (runC (envL prog) (l11x0 (envL prog))) = L at sl0 ⊢
    refine outs_ctx (fun r => seqR (blockR 0 r) _) (sl0 _ _ _ _ _ _ _ _ _ _ _ _ _ _ _ _ _ _ _ _ _ _ _ _ _ (Adds.refl H) (.inl ⟨rfl, rfl⟩) (by omega)) ?_
    rintro e' t H' ⟨rfl, A, l, g, k, rfl⟩
    simp -implicitDefEqProofs (maxSteps := 5000000) only [go_sem, Nat.reduceShiftRight, Nat.reduceAnd, Nat.reduceBNe, Int.reduceEq, Nat.reduceAdd, Nat.reduceSub, Nat.reduceMul, Nat.reduceLeDiff, reduceIte, reduceCtorEq, Nat.reduceBEq, Nat.reduceEqDiff, go_sem, outs_normal]
    subst hQ
    refine ⟨l, A, g, ?_⟩
    simp -implicitDefEqProofs (maxSteps := 5000000) only [go_sem, Nat.reduceShiftRight, Nat.reduceAnd, Nat.reduceBNe, Int.reduceEq, Nat.reduceAdd, Nat.reduceSub, Nat.reduceMul, Nat.reduceLeDiff, reduceIte, reduceCtorEq, Nat.reduceBEq, Nat.reduceEqDiff, go_sem]
  obtain ⟨e', t, H', hr, l, A, g, hf⟩ := o
  refine ⟨l, H', A, g, ?_⟩
  · rw [c11, hr, hf]
    rcases g.under with ⟨h0, _⟩ | hu
    · have := drows_len S; rw [h0] at this; simp at this; omega
    · exact trim_keep hu
end
end Go.Proofs.Ytodoakeifdiidaa.G13

