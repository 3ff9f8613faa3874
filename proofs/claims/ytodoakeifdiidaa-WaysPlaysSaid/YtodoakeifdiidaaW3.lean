/- What the functions that WaysPlays reaches answer, for every argument. No condition but those in each statement. -/
import Derived.Test.YtodoakeifdiidaaW2
set_option linter.unusedSimpArgs false
set_option linter.unusedVariables false
set_option maxRecDepth 10000
namespace Go.Proofs.Ytodoakeifdiidaa.G13
open Go Go.Proofs.Ytodoakeifdiidaa.Eng
/-- Is a number one of a slot? -/
def inS (S : List Slot) (i : Int) : Bool := decide (0 ≤ i) && decide (i < S.length)
def cleanS (S : List Slot) (i : Int) : List Slot := if 0 ≤ i ∧ i < S.length then S.set i.toNat { sl S i.toNat with d := false } else S
def dropS (S : List Slot) (i : Int) : List Slot := if 0 ≤ i ∧ i < S.length then S.set i.toNat none' else S
def touchS (S : List Slot) (i : Int) : List Slot := if 0 ≤ i ∧ i < S.length ∧ (sl S i.toNat).b ≠ -1 then S.set i.toNat { sl S i.toNat with m := true } else S
def putS (sets ways : Nat) (S : List Slot) (i blk : Int) (d : Bool) : List Slot :=
  if 0 ≤ i ∧ i < S.length ∧ 0 ≤ blk ∧ i.toNat / ways = (blk % sets).toNat ∧ (findS sets ways S blk = none ∨ findS sets ways S blk = some i.toNat) then S.set i.toNat ⟨blk, d, true⟩ else S
def blockA (S : List Slot) (i : Int) : AV := if 0 ≤ i ∧ i < S.length ∧ (sl S i.toNat).b ≠ -1 then .tup [.int .i64 (sl S i.toNat).b, .bool (sl S i.toNat).d, .bool true] else .tup [.int .i64 (-1), .bool false, .bool false]
theorem sl_mem {S : List Slot} {i : Nat} (h : i < S.length) : sl S i ∈ S := by
  unfold sl; rw [List.getElem?_eq_getElem h]; exact List.getElem_mem h
theorem set_ok {S : List Slot} (h : ∀ x ∈ S, -1 ≤ x.b) (i : Nat) (y : Slot) (hy : -1 ≤ y.b) : ∀ x ∈ S.set i y, -1 ≤ x.b := fun x hx => by
  rcases List.mem_or_eq_of_mem_set hx with hx | rfl
  · exact h x hx
  · exact hy
theorem wrap_div (n w : Nat) (h : n ≤ 1000) : IntKind.i64.wrap ((n : Int).tdiv (w : Int)) = ((n / w : Nat) : Int) := by
  rw [show (n : Int).tdiv (w : Int) = ((n / w : Nat) : Int) from (Int.ofNat_tdiv _ _).symm]
  have := Nat.div_le_self n w
  generalize n / w = q at *
  exact wrap64 (by omega) (by omega)
theorem split_i (S : List Slot) (i : Int) : (i < 0 ∨ i ≥ S.length) ∨ ∃ n : Nat, i = n ∧ n < S.length := by
  by_cases h : i < 0 ∨ i ≥ S.length
  · exact .inl h
  · exact .inr ⟨i.toNat, by omega, by omega⟩

section
variable {H : AHeap} {p bs bh : Nat} {e : Bool} {sets ways : Nat} {S : List Slot} {hs : List Nat} (m : PM H p bs bh e sets ways S hs)
include m
set_option maxHeartbeats 1000000 in
theorem cleanC (i : Int) : ∃ H', PM H' p bs bh e sets ways (cleanS S i) hs ∧ KeepB H H' [bs, bh] ∧ (envL prog).call 16 [.ptr p 0, .int .i64 i] H = some (.tup [], H') := by
  rw [c16]
  unfold b16
  rcases split_i S i with h | ⟨n, rfl, hn⟩
  · refine ⟨H, by unfold cleanS; rw [if_neg (by omega)]; exact m, KeepB.refl _ _, ?_⟩
    have c := slotN m i h
    simp -implicitDefEqProofs (maxSteps := 5000000) only [go_sem, Nat.reduceShiftRight, Nat.reduceAnd, Nat.reduceBNe, Int.reduceEq, Nat.reduceAdd, Nat.reduceSub, Nat.reduceMul, Nat.reduceLeDiff, reduceIte, reduceCtorEq, Nat.reduceBEq, Nat.reduceEqDiff, go_sem, c]
  · have hok := m.ok _ (sl_mem hn)
    refine ⟨updS H bs (S.set n { sl S n with d := false }), ?_, keepS _ _ _ _, ?_⟩
    · unfold cleanS; rw [if_pos (by omega), Int.toNat_natCast]; exact m.upS (by simp) (set_ok m.ok _ _ hok)
    have c := slotC m n hn
    have w := put_d m.sl hn false
    have t := (keepS H bs bh (S.set n { sl S n with d := false })).trim
    simp -implicitDefEqProofs (maxSteps := 5000000) only [go_sem, Nat.reduceShiftRight, Nat.reduceAnd, Nat.reduceBNe, Int.reduceEq, Nat.reduceAdd, Nat.reduceSub, Nat.reduceMul, Nat.reduceLeDiff, reduceIte, reduceCtorEq, Nat.reduceBEq, Nat.reduceEqDiff, go_sem, store_one, c, w, t]
set_option maxHeartbeats 1000000 in
theorem dropC (i : Int) : ∃ H', PM H' p bs bh e sets ways (dropS S i) hs ∧ KeepB H H' [bs, bh] ∧ (envL prog).call 26 [.ptr p 0, .int .i64 i] H = some (.tup [], H') := by
  rw [c26]
  unfold b26
  rcases split_i S i with h | ⟨n, rfl, hn⟩
  · refine ⟨H, by unfold dropS; rw [if_neg (by omega)]; exact m, KeepB.refl _ _, ?_⟩
    have c := slotN m i h
    simp -implicitDefEqProofs (maxSteps := 5000000) only [go_sem, Nat.reduceShiftRight, Nat.reduceAnd, Nat.reduceBNe, Int.reduceEq, Nat.reduceAdd, Nat.reduceSub, Nat.reduceMul, Nat.reduceLeDiff, reduceIte, reduceCtorEq, Nat.reduceBEq, Nat.reduceEqDiff, go_sem, c]
  · refine ⟨updS H bs (S.set n none'), ?_, keepS _ _ _ _, ?_⟩
    · unfold dropS; rw [if_pos (by omega), Int.toNat_natCast]; exact m.upS (by simp) (set_ok m.ok _ _ (by decide))
    have c := slotC m n hn
    have w : writeN H bs (n * 3) [.int .i64 (-1), .bool false, .bool false] = some (updS H bs (S.set n none')) := put_row m.sl hn none'
    have t := (keepS H bs bh (S.set n none')).trim
    simp -implicitDefEqProofs (maxSteps := 5000000) only [go_sem, Nat.reduceShiftRight, Nat.reduceAnd, Nat.reduceBNe, Int.reduceEq, Nat.reduceAdd, Nat.reduceSub, Nat.reduceMul, Nat.reduceLeDiff, reduceIte, reduceCtorEq, Nat.reduceBEq, Nat.reduceEqDiff, go_sem, wrap64, runC_loop, runC_range, callF_fn, callV_fn, callV_yld, yield_eq, yieldBody, yieldRaw, roundMid, roundEnd, rangeEnd, Bool.not_not, put_cons, put_nil, trim_same, at_zero, at_add, set_zero, set_add, store_one, write_zero, write_add, write_head, write_succ, splice_one, splice_more, List.drop_nil, List.take_nil, cell_int, cell_bool, fillS, splice_one, idxA, Ex.isNormal, List.set_nil, List.length_set, List.all_cons, List.all_nil, Bool.and_self, and_self, true_and, and_true, List.getElem?_nil, Int.reduceLT, Int.reduceLE, Int.reduceToNat, Int.toNat_zero, Int.toNat_one, Int.reduceAdd, Int.reduceSub, Int.reduceMul, Int.reduceNeg, Int.reduceBEq, Int.reduceBNe, Int.reduceGE, Int.reduceGT, Nat.reduceLT, trim_keep, under_fn, under_ptr, under_sl, Nat.lt_irrefl, not_lt_add, trim_tail, keepOk, ABlk.vals, Int.cast_ofNat_Int, decide_true, decide_false, List.all_cons, List.all_nil, Nat.zero_mul, Nat.mul_one, Nat.one_mul, c, w, t]
set_option maxHeartbeats 1000000 in
theorem touchC (i : Int) : ∃ H', PM H' p bs bh e sets ways (touchS S i) hs ∧ KeepB H H' [bs, bh] ∧ (envL prog).call 18 [.ptr p 0, .int .i64 i] H = some (.tup [], H') := by
  rw [c18]
  unfold b18
  rcases split_i S i with h | ⟨n, rfl, hn⟩
  · refine ⟨H, by unfold touchS; rw [if_neg (by omega)]; exact m, KeepB.refl _ _, ?_⟩
    have c := slotN m i h
    simp -implicitDefEqProofs (maxSteps := 5000000) only [go_sem, Nat.reduceShiftRight, Nat.reduceAnd, Nat.reduceBNe, Int.reduceEq, Nat.reduceAdd, Nat.reduceSub, Nat.reduceMul, Nat.reduceLeDiff, reduceIte, reduceCtorEq, Nat.reduceBEq, Nat.reduceEqDiff, go_sem, c]
  · have c := slotC m n hn
    have hc := cells_rw m.sl
    have hg := slot_b hn
    by_cases q : (sl S n).b = -1
    · refine ⟨H, by unfold touchS; rw [if_neg (by rw [Int.toNat_natCast]; exact fun h => h.2.2 q)]; exact m, KeepB.refl _ _, ?_⟩
      have d : ((sl S n).b != -1) = false := by simp [q]
      simp -implicitDefEqProofs (maxSteps := 5000000) only [go_sem, Nat.reduceShiftRight, Nat.reduceAnd, Nat.reduceBNe, Int.reduceEq, Nat.reduceAdd, Nat.reduceSub, Nat.reduceMul, Nat.reduceLeDiff, reduceIte, reduceCtorEq, Nat.reduceBEq, Nat.reduceEqDiff, go_sem, c, hc, hg, d]
    · have hok := m.ok _ (sl_mem hn)
      refine ⟨updS H bs (S.set n { sl S n with m := true }), ?_, keepS _ _ _ _, ?_⟩
      · unfold touchS; rw [if_pos ⟨by omega, by omega, q⟩, Int.toNat_natCast]; exact m.upS (by simp) (set_ok m.ok _ _ hok)
      have d : ((sl S n).b != -1) = true := by simp [q]
      have w := put_m m.sl hn true
      have t := (keepS H bs bh (S.set n { sl S n with m := true })).trim
      simp -implicitDefEqProofs (maxSteps := 5000000) only [go_sem, Nat.reduceShiftRight, Nat.reduceAnd, Nat.reduceBNe, Int.reduceEq, Nat.reduceAdd, Nat.reduceSub, Nat.reduceMul, Nat.reduceLeDiff, reduceIte, reduceCtorEq, Nat.reduceBEq, Nat.reduceEqDiff, go_sem, store_one, c, hc, hg, d, w, t]
set_option maxHeartbeats 1000000 in
theorem blockC (i : Int) : (envL prog).call 17 [.ptr p 0, .int .i64 i] H = some (blockA S i, H) := by
  rw [c17]
  unfold b17 blockA
  rcases split_i S i with h | ⟨n, rfl, hn⟩
  · rw [if_neg (by omega)]
    have c := slotN m i h
    simp -implicitDefEqProofs (maxSteps := 5000000) only [go_sem, Nat.reduceShiftRight, Nat.reduceAnd, Nat.reduceBNe, Int.reduceEq, Nat.reduceAdd, Nat.reduceSub, Nat.reduceMul, Nat.reduceLeDiff, reduceIte, reduceCtorEq, Nat.reduceBEq, Nat.reduceEqDiff, go_sem, c]
  · have c := slotC m n hn
    have hc := cells_rw m.sl
    have hg := slot_b hn
    have hg2 := slot_d hn
    by_cases q : (sl S n).b = -1
    · rw [if_neg (by rw [Int.toNat_natCast]; exact fun h => h.2.2 q)]
      have d : ((sl S n).b == -1) = true := by simp [q]
      simp -implicitDefEqProofs (maxSteps := 5000000) only [go_sem, Nat.reduceShiftRight, Nat.reduceAnd, Nat.reduceBNe, Int.reduceEq, Nat.reduceAdd, Nat.reduceSub, Nat.reduceMul, Nat.reduceLeDiff, reduceIte, reduceCtorEq, Nat.reduceBEq, Nat.reduceEqDiff, go_sem, c, hc, hg, d]
    · rw [if_pos ⟨by omega, by omega, q⟩, Int.toNat_natCast]
      have d : ((sl S n).b == -1) = false := by simp [q]
      simp -implicitDefEqProofs (maxSteps := 5000000) only [go_sem, Nat.reduceShiftRight, Nat.reduceAnd, Nat.reduceBNe, Int.reduceEq, Nat.reduceAdd, Nat.reduceSub, Nat.reduceMul, Nat.reduceLeDiff, reduceIte, reduceCtorEq, Nat.reduceBEq, Nat.reduceEqDiff, go_sem, c, hc, hg, hg2, d]
set_option maxHeartbeats 2000000 in
theorem putC (i blk : Int) (d : Bool) : ∃ H', PM H' p bs bh e sets ways (putS sets ways S i blk d) hs ∧ KeepB H H' [bs, bh] ∧ (envL prog).call 13 [.ptr p 0, .int .i64 i, .int .i64 blk, .bool d] H = some (.tup [], H') := by
  have hm := m.map
  have c2 := setC m blk
  have c3 := findC m blk
  have sm := m.small
  have w1 := m.w1
  rw [c13]
  unfold b13
  rcases split_i S i with h | ⟨n, rfl, hn⟩
  · refine ⟨H, by unfold putS; rw [if_neg (by omega)]; exact m, KeepB.refl _ _, ?_⟩
    have c := slotN m i h
    simp -implicitDefEqProofs (maxSteps := 5000000) only [go_sem, Nat.reduceShiftRight, Nat.reduceAnd, Nat.reduceBNe, Int.reduceEq, Nat.reduceAdd, Nat.reduceSub, Nat.reduceMul, Nat.reduceLeDiff, reduceIte, reduceCtorEq, Nat.reduceBEq, Nat.reduceEqDiff, go_sem, c, c2]
  have c := slotC m n hn
  by_cases hb : blk < 0
  · refine ⟨H, by unfold putS; rw [if_neg (by omega)]; exact m, KeepB.refl _ _, ?_⟩
    rw [if_pos hb, decide_eq_true hb] at c2
    simp -implicitDefEqProofs (maxSteps := 5000000) only [go_sem, Nat.reduceShiftRight, Nat.reduceAnd, Nat.reduceBNe, Int.reduceEq, Nat.reduceAdd, Nat.reduceSub, Nat.reduceMul, Nat.reduceLeDiff, reduceIte, reduceCtorEq, Nat.reduceBEq, Nat.reduceEqDiff, go_sem, c, c2]
  obtain ⟨e1, h1⟩ := m.setOf blk hb
  rw [if_neg hb, decide_eq_false hb, e1] at c2
  have hq := wrap_div n ways (by omega)
  have hr := int_quo .none .i64 (n : Int) (ways : Int) (by omega)
  rw [hq] at hr
  by_cases hs' : n / ways = (blk % sets).toNat
  · have d1 : (((n / ways : Nat) : Int) != (((blk % sets).toNat : Nat) : Int)) = false := by rw [hs']; simp
    generalize hf : findS sets ways S blk = r at c3
    have hput : putS sets ways S (n : Int) blk d = if r = none ∨ r = some n then S.set n ⟨blk, d, true⟩ else S := by
      unfold putS
      rw [Int.toNat_natCast, hf]
      by_cases hx : r = none ∨ r = some n
      · rw [if_pos ⟨by omega, by omega, by omega, hs', hx⟩, if_pos hx]
      · rw [if_neg (fun h => hx h.2.2.2.2), if_neg hx]
    have w : writeN H bs (n * 3) [.int .i64 blk, .bool d, .bool true] = some (updS H bs (S.set n ⟨blk, d, true⟩)) := put_row m.sl hn ⟨blk, d, true⟩
    have t := (keepS H bs bh (S.set n ⟨blk, d, true⟩)).trim
    have up := m.upS (S' := S.set n ⟨blk, d, true⟩) (by simp) (set_ok m.ok _ _ (show (-1 : Int) ≤ blk by omega))
    rw [hput]
    cases r with
    | none =>
      refine ⟨updS H bs (S.set n ⟨blk, d, true⟩), by rw [if_pos (.inl rfl)]; exact up, keepS _ _ _ _, ?_⟩
      simp -implicitDefEqProofs (maxSteps := 5000000) only [go_sem, Nat.reduceShiftRight, Nat.reduceAnd, Nat.reduceBNe, Int.reduceEq, Nat.reduceAdd, Nat.reduceSub, Nat.reduceMul, Nat.reduceLeDiff, reduceIte, reduceCtorEq, Nat.reduceBEq, Nat.reduceEqDiff, go_sem, wrap64, runC_loop, runC_range, callF_fn, callV_fn, callV_yld, yield_eq, yieldBody, yieldRaw, roundMid, roundEnd, rangeEnd, Bool.not_not, put_cons, put_nil, trim_same, at_zero, at_add, set_zero, set_add, store_one, write_zero, write_add, write_head, write_succ, splice_one, splice_more, List.drop_nil, List.take_nil, cell_int, cell_bool, fillS, splice_one, idxA, Ex.isNormal, List.set_nil, List.length_set, List.all_cons, List.all_nil, Bool.and_self, and_self, true_and, and_true, List.getElem?_nil, Int.reduceLT, Int.reduceLE, Int.reduceToNat, Int.toNat_zero, Int.toNat_one, Int.reduceAdd, Int.reduceSub, Int.reduceMul, Int.reduceNeg, Int.reduceBEq, Int.reduceBNe, Int.reduceGE, Int.reduceGT, Nat.reduceLT, trim_keep, under_fn, under_ptr, under_sl, Nat.lt_irrefl, not_lt_add, trim_tail, keepOk, ABlk.vals, Int.cast_ofNat_Int, decide_true, decide_false, List.all_cons, List.all_nil, Nat.zero_mul, Nat.mul_one, Nat.one_mul, hm, c, c2, c3, hr, d1, optA, w, t]
    | some j =>
      by_cases hj : j = n
      · subst hj
        refine ⟨updS H bs (S.set j ⟨blk, d, true⟩), by rw [if_pos (.inr rfl)]; exact up, keepS _ _ _ _, ?_⟩
        have d2 : ((j : Int) != (j : Int)) = false := by simp
        simp -implicitDefEqProofs (maxSteps := 5000000) only [go_sem, Nat.reduceShiftRight, Nat.reduceAnd, Nat.reduceBNe, Int.reduceEq, Nat.reduceAdd, Nat.reduceSub, Nat.reduceMul, Nat.reduceLeDiff, reduceIte, reduceCtorEq, Nat.reduceBEq, Nat.reduceEqDiff, go_sem, wrap64, runC_loop, runC_range, callF_fn, callV_fn, callV_yld, yield_eq, yieldBody, yieldRaw, roundMid, roundEnd, rangeEnd, Bool.not_not, put_cons, put_nil, trim_same, at_zero, at_add, set_zero, set_add, store_one, write_zero, write_add, write_head, write_succ, splice_one, splice_more, List.drop_nil, List.take_nil, cell_int, cell_bool, fillS, splice_one, idxA, Ex.isNormal, List.set_nil, List.length_set, List.all_cons, List.all_nil, Bool.and_self, and_self, true_and, and_true, List.getElem?_nil, Int.reduceLT, Int.reduceLE, Int.reduceToNat, Int.toNat_zero, Int.toNat_one, Int.reduceAdd, Int.reduceSub, Int.reduceMul, Int.reduceNeg, Int.reduceBEq, Int.reduceBNe, Int.reduceGE, Int.reduceGT, Nat.reduceLT, trim_keep, under_fn, under_ptr, under_sl, Nat.lt_irrefl, not_lt_add, trim_tail, keepOk, ABlk.vals, Int.cast_ofNat_Int, decide_true, decide_false, List.all_cons, List.all_nil, Nat.zero_mul, Nat.mul_one, Nat.one_mul, hm, c, c2, c3, hr, d1, d2, optA, w, t]
      · refine ⟨H, by rw [if_neg (by simp [hj])]; exact m, KeepB.refl _ _, ?_⟩
        have d2 : ((j : Int) != (n : Int)) = true := by simp; omega
        simp -implicitDefEqProofs (maxSteps := 5000000) only [go_sem, Nat.reduceShiftRight, Nat.reduceAnd, Nat.reduceBNe, Int.reduceEq, Nat.reduceAdd, Nat.reduceSub, Nat.reduceMul, Nat.reduceLeDiff, reduceIte, reduceCtorEq, Nat.reduceBEq, Nat.reduceEqDiff, go_sem, wrap64, runC_loop, runC_range, callF_fn, callV_fn, callV_yld, yield_eq, yieldBody, yieldRaw, roundMid, roundEnd, rangeEnd, Bool.not_not, put_cons, put_nil, trim_same, at_zero, at_add, set_zero, set_add, store_one, write_zero, write_add, write_head, write_succ, splice_one, splice_more, List.drop_nil, List.take_nil, cell_int, cell_bool, fillS, splice_one, idxA, Ex.isNormal, List.set_nil, List.length_set, List.all_cons, List.all_nil, Bool.and_self, and_self, true_and, and_true, List.getElem?_nil, Int.reduceLT, Int.reduceLE, Int.reduceToNat, Int.toNat_zero, Int.toNat_one, Int.reduceAdd, Int.reduceSub, Int.reduceMul, Int.reduceNeg, Int.reduceBEq, Int.reduceBNe, Int.reduceGE, Int.reduceGT, Nat.reduceLT, trim_keep, under_fn, under_ptr, under_sl, Nat.lt_irrefl, not_lt_add, trim_tail, keepOk, ABlk.vals, Int.cast_ofNat_Int, decide_true, decide_false, List.all_cons, List.all_nil, Nat.zero_mul, Nat.mul_one, Nat.one_mul, hm, c, c2, c3, hr, d1, d2, optA]
  · refine ⟨H, by unfold putS; rw [if_neg (by rw [Int.toNat_natCast]; exact fun h => hs' h.2.2.2.1)]; exact m, KeepB.refl _ _, ?_⟩
    have d1 : (((n / ways : Nat) : Int) != (((blk % sets).toNat : Nat) : Int)) = true := by
      rw [bne_iff_ne]; intro hx; exact hs' (by exact_mod_cast hx)
    simp -implicitDefEqProofs (maxSteps := 5000000) only [go_sem, Nat.reduceShiftRight, Nat.reduceAnd, Nat.reduceBNe, Int.reduceEq, Nat.reduceAdd, Nat.reduceSub, Nat.reduceMul, Nat.reduceLeDiff, reduceIte, reduceCtorEq, Nat.reduceBEq, Nat.reduceEqDiff, go_sem, wrap64, runC_loop, runC_range, callF_fn, callV_fn, callV_yld, yield_eq, yieldBody, yieldRaw, roundMid, roundEnd, rangeEnd, Bool.not_not, put_cons, put_nil, trim_same, at_zero, at_add, set_zero, set_add, store_one, write_zero, write_add, write_head, write_succ, splice_one, splice_more, List.drop_nil, List.take_nil, cell_int, cell_bool, fillS, splice_one, idxA, Ex.isNormal, List.set_nil, List.length_set, List.all_cons, List.all_nil, Bool.and_self, and_self, true_and, and_true, List.getElem?_nil, Int.reduceLT, Int.reduceLE, Int.reduceToNat, Int.toNat_zero, Int.toNat_one, Int.reduceAdd, Int.reduceSub, Int.reduceMul, Int.reduceNeg, Int.reduceBEq, Int.reduceBNe, Int.reduceGE, Int.reduceGT, Nat.reduceLT, trim_keep, under_fn, under_ptr, under_sl, Nat.lt_irrefl, not_lt_add, trim_tail, keepOk, ABlk.vals, Int.cast_ofNat_Int, decide_true, decide_false, List.all_cons, List.all_nil, Nat.zero_mul, Nat.mul_one, Nat.one_mul, hm, c, c2, hr, d1]
end
end Go.Proofs.Ytodoakeifdiidaa.G13

