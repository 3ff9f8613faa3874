/- What the functions that TableTells reaches answer, for every argument. No condition but those in each statement. -/
import Derived.Test.YtekceggcbpeoeaaBY
set_option linter.unusedSimpArgs false
set_option linter.unusedVariables false
set_option linter.unusedSectionVars false
set_option maxRecDepth 10000
namespace Go.Proofs.Ytekceggcbpeoeaa.G10
open Go Go.Proofs.Ytekceggcbpeoeaa.Eng
noncomputable def X4 : Over := X3.with 7 wakeR
theorem x4_ok : X4.Ok prog := with_ok x3_ok (wake_ok goodP x3_ok wakesC.choose_spec)
theorem x4_call (f : Nat) (args : List AV) (h : AHeap) (ew : (f == 7) = false) (em : (f == 10) = false) (e0 : (f == 15) = false) (e1 : (f == 21) = false) (e2 : (f == 25) = false) : (envX prog X4).call f args h = (envL prog).call f args h := by
 unfold X4; rw [x_miss _ _ ew, x3_call _ _ _ em e0 e1 e2]
theorem x4_put {args : List AV} {h : AHeap} {r : AV × AHeap} (e : callBody prog (envX prog X1) 15 args h = some r) : (envX prog X4).call 15 args h = some r := by
 unfold X4; rw [x_miss _ _ (by decide)]; exact x3_put e
theorem x4_merge {args : List AV} {h : AHeap} {r : AV × AHeap} (e : callBody prog (envX prog X2) 10 args h = some r) : (envX prog X4).call 10 args h = some r := by
 unfold X4; rw [x_miss _ _ (by decide)]; exact x3_merge e
theorem x4_wakes (h : AHeap) : (envX prog X4).call 7 [] h = some (.bool true, h) := x_hit rfl
theorem copyP {H : AHeap} {v : AV} {l : List PrS} (g : IsP H v l) (hl : l.length ≤ 1000000) : ∃ v' K, app (ty 2 true 16 [.int .i64 0, .int .i64 0]) (.sl H.length 0 2 0 0 true) v (H ++ [.rw []]) = some (v', K) ∧ Adds H K ∧ Gp K H.length v' l := by
 have hr : (roomy : Nat) = 140737488355328 := rfl
 have g0 : Gp (H ++ [.rw []]) H.length (.sl H.length 0 2 0 0 true) [] := .inr (.inl ⟨rfl, H.length, Nat.le_refl _, rfl, by simp⟩)
 have gi := g.adds (⟨[.rw []], rfl⟩ : Adds H (H ++ [.rw []]))
 obtain ⟨v', K, ea, gk, fr, _, _⟩ := gp_app g0 (by simp) gi.src.1 gi.src.2 (by simp; omega)
 rw [List.nil_append] at gk
 exact ⟨v', K, ea, fr.old ⟨_, rfl⟩ fun x hx h => by (injection h with h; omega), gk⟩
set_option maxHeartbeats 32000000 in
theorem tableTells (va vb : AV) (n0 n1 : Int) (h : AHeap) (da : DatC h (.sl [.int .i64, .int .i64]) va) (db : DatC h (.sl [.int .i64, .int .i64]) vb) : ∃ h', callBody prog (envX prog X4) 3 [va, vb, .agg [.int .i64 n0, .int .i64 n1]] h = some (.bool true, h') := by
 obtain ⟨a, pa, na, _⟩ := pairs_isP da
 obtain ⟨b, pb, nb, _⟩ := pairs_isP db
 rw [d3]
 refine of_outs ?_
 unfold b3
 generalize hQ : (fun (e : Ex) (t : T) (h1 : AHeap) => fin [.tmp 6] (some (e, t, h1)) = some (AV.bool true, h1)) = Q
 have wa := pa.len
 have wb := pb.len
 obtain ⟨h0, e0⟩ : ∃ h0, h0 = h ++ [ABlk.rw [.int .i64 n0, .int .i64 n1]] := ⟨_, rfl⟩
 have a0 : Adds h h0 := ⟨_, e0⟩
 have c0 : cellsOf h0 h.length = some [.int .i64 n0, .int .i64 n1] := by rw [e0]; unfold cellsOf; simp
 have e0 := e0.symm
 by_cases h1 : (a.length : Int) > 80
 ·have d1 := decide_eq_true h1
  simp -implicitDefEqProofs (maxSteps := 5000000) only [go_sem, Nat.reduceShiftRight, Nat.reduceAnd, Nat.reduceBNe, Int.reduceEq, Nat.reduceAdd, Nat.reduceSub, Nat.reduceMul, Nat.reduceLeDiff, reduceIte, reduceCtorEq, Nat.reduceBEq, Nat.reduceEqDiff, wrap64, runC_loop, runC_range, callF_fn, callV_fn, callV_yld, yield_eq, yieldBody, yieldRaw, roundMid, roundEnd, rangeEnd, Bool.not_not, put_cons, put_nil, trim_same, at_zero, at_add, set_zero, set_add, store_one, write_zero, write_add, write_head, write_succ, splice_one, splice_more, List.drop_nil, List.take_nil, cell_int, cell_bool, fillS, splice_one, idxA, Ex.isNormal, List.set_nil, List.length_set, List.all_cons, List.all_nil, Bool.and_self, and_self, true_and, and_true, List.getElem?_nil, Int.reduceLT, Int.reduceLE, Int.reduceToNat, Int.toNat_zero, Int.toNat_one, Int.reduceAdd, Int.reduceSub, Int.reduceMul, Int.reduceNeg, Int.reduceBEq, Int.reduceBNe, Int.reduceGE, Int.reduceGT, Nat.reduceLT, trim_keep, under_fn, under_ptr, under_sl, Nat.lt_irrefl, not_lt_add, trim_tail, keepOk, ABlk.vals, Int.cast_ofNat_Int, decide_true, decide_false, List.all_cons, List.all_nil, Nat.zero_mul, Nat.mul_one, Nat.one_mul, e0, wa, d1, x4_wakes, outs_normal]
  subst hQ
  simp -implicitDefEqProofs (maxSteps := 5000000) only [go_sem, Nat.reduceShiftRight, Nat.reduceAnd, Nat.reduceBNe, Int.reduceEq, Nat.reduceAdd, Nat.reduceSub, Nat.reduceMul, Nat.reduceLeDiff, reduceIte, reduceCtorEq, Nat.reduceBEq, Nat.reduceEqDiff]
 have d1 := decide_eq_false h1
 by_cases h2 : (b.length : Int) > 80
 ·have d2 := decide_eq_true h2
  simp -implicitDefEqProofs (maxSteps := 5000000) only [go_sem, Nat.reduceShiftRight, Nat.reduceAnd, Nat.reduceBNe, Int.reduceEq, Nat.reduceAdd, Nat.reduceSub, Nat.reduceMul, Nat.reduceLeDiff, reduceIte, reduceCtorEq, Nat.reduceBEq, Nat.reduceEqDiff, wrap64, runC_loop, runC_range, callF_fn, callV_fn, callV_yld, yield_eq, yieldBody, yieldRaw, roundMid, roundEnd, rangeEnd, Bool.not_not, put_cons, put_nil, trim_same, at_zero, at_add, set_zero, set_add, store_one, write_zero, write_add, write_head, write_succ, splice_one, splice_more, List.drop_nil, List.take_nil, cell_int, cell_bool, fillS, splice_one, idxA, Ex.isNormal, List.set_nil, List.length_set, List.all_cons, List.all_nil, Bool.and_self, and_self, true_and, and_true, List.getElem?_nil, Int.reduceLT, Int.reduceLE, Int.reduceToNat, Int.toNat_zero, Int.toNat_one, Int.reduceAdd, Int.reduceSub, Int.reduceMul, Int.reduceNeg, Int.reduceBEq, Int.reduceBNe, Int.reduceGE, Int.reduceGT, Nat.reduceLT, trim_keep, under_fn, under_ptr, under_sl, Nat.lt_irrefl, not_lt_add, trim_tail, keepOk, ABlk.vals, Int.cast_ofNat_Int, decide_true, decide_false, List.all_cons, List.all_nil, Nat.zero_mul, Nat.mul_one, Nat.one_mul, e0, wa, wb, d1, d2, x4_wakes, outs_normal]
  subst hQ
  simp -implicitDefEqProofs (maxSteps := 5000000) only [go_sem, Nat.reduceShiftRight, Nat.reduceAnd, Nat.reduceBNe, Int.reduceEq, Nat.reduceAdd, Nat.reduceSub, Nat.reduceMul, Nat.reduceLeDiff, reduceIte, reduceCtorEq, Nat.reduceBEq, Nat.reduceEqDiff]
 have d2 := decide_eq_false h2
 have pa0 := pa.adds a0
 have pb0 := pb.adds a0
 obtain ⟨x, K1, ea1, A1, gx⟩ := copyP pa0 (by omega)
 obtain ⟨y, K2, ea2, A2, gy⟩ := copyP (pb0.adds A1) (by omega)
 have px2 := gx.isP.adds A2
 have A02 := A1.trans A2
 have pa2 := pa0.adds A02
 have pb2 := pb0.adds A02
 have c2 := A02.cells c0
 have ef := findC px2 (by omega) n0
 have er := rfindC pa2 (by omega) n0
 obtain ⟨m4, m5, K3, em, A3, g4, g5⟩ := mergeC px2 (by omega) gy.isP (by omega)
 have em := x4_merge em
 have A03 := A02.trans A3
 obtain ⟨w4, w5, K4, ew, A4, u4, u5⟩ := rmergeC (pa0.adds A03) (by omega) (pb0.adds A03) (by omega)
 have A04 := A03.trans A4
 have q4 := u4.isP.cell
 have q5 := u5.cell
 obtain ⟨K5, hK5⟩ : ∃ K5, K5 = K4 ++ [ABlk.rw [w4, w5]] := ⟨_, rfl⟩
 have A5 : Adds K4 K5 := ⟨_, hK5⟩
 have A05 := A04.trans A5
 have c5 := A05.cells c0
 have k5 : cellsOf K5 K4.length = some [w4, w5] := by rw [hK5]; unfold cellsOf; simp
 have hK5 := hK5.symm
 have A25 : Adds K2 K5 := (A3.trans A4).trans A5
 have px5 := px2.adds A25
 have pa5 := pa0.adds A05
 have eg := goodC px5 (by omega) n0 n1
 have eh := rgoodC pa5 (by omega) n0 n1
 obtain ⟨p1, K6, ep, A6, g6⟩ := putC px5 (by omega) n0 n1
 have ep := x4_put ep
 obtain ⟨p2, K7, eq, A7, g7⟩ := rputC (pa5.adds A6) (by omega) n0 n1
 have A57 := A6.trans A7
 have c6 := A6.cells c5
 have c7 := A57.cells c5
 have k6 := A6.cells k5
 have k7 := A57.cells k5
 have tl := tput_len a n0 n1
 have e1 := pairsC (g6.isP.adds A7) g7.isP (by omega)
 have tm : (tmerge a b a []).1.length ≤ 1000000 := by
  have key : ∀ (b k : List PrS) (f : List Int), (tmerge a b k f).1.length ≤ k.length + b.length := by
   intro b
   induction b with
   | nil => intro k f; simp [tmerge]
   | cons p b ih =>
    intro k f
    unfold tmerge
    split
    ·have := ih k (f ++ [p.2]); simp only [List.length_cons]; omega
    ·have := ih (tput k p.1 p.2) f; have := tput_len k p.1 p.2; simp only [List.length_cons]; omega
  have := key b a []
  omega
 have tf : (tmerge a b a []).2.length ≤ 1000000 := by
  have key : ∀ (b k : List PrS) (f : List Int), (tmerge a b k f).2.length ≤ f.length + b.length := by
   intro b
   induction b with
   | nil => intro k f; simp [tmerge]
   | cons p b ih =>
    intro k f
    unfold tmerge
    split
    ·have := ih k (f ++ [p.2]); simp only [List.length_append, List.length_cons, List.length_nil] at *; omega
    ·have := ih (tput k p.1 p.2) f; simp only [List.length_cons]; omega
  have := key b a []
  simp at this; omega
 have A37 : Adds K3 K7 := (A4.trans A5).trans A57
 have A47 : Adds K4 K7 := A5.trans A57
 have e2 := pairsC (g4.isP.adds A37) (u4.isP.adds A47) tm
 have e3 := intsC ((FS.isI g5).adds A37) ((FS.isI u5).adds A47) tf
 have e4 := pairsC (px5.adds A57) (pa5.adds A57) (by omega)
 have e5 := pairsC (gy.isP.adds (A25.trans A57)) (pb0.adds (A05.trans A57)) (by omega)
 rw [decide_eq_true rfl] at e1 e2 e3 e4 e5
 obtain ⟨bg, hbg⟩ : ∃ bg, tgood a n0 n1 = bg := ⟨_, rfl⟩
 rw [hbg] at eg eh
 have bb : (bg == bg) = true := by simp
 have nb2 : ∀ q : Bool, (q != q) = false := fun q => by cases q <;> rfl
 have nn : ∀ q : Int, (q != q) = false := fun q => by simp
 rcases idxS_rng a n0 with hi | ⟨hi1, hi2⟩
 ·rw [hi] at ef er
  rw [if_neg (by omega), show decide ((0 : Int) ≤ -1) = false from rfl] at ef
  have dg : decide ((-1 : Int) ≥ 0) = false := rfl
  simp -implicitDefEqProofs (maxSteps := 5000000) only [go_sem, Nat.reduceShiftRight, Nat.reduceAnd, Nat.reduceBNe, Int.reduceEq, Nat.reduceAdd, Nat.reduceSub, Nat.reduceMul, Nat.reduceLeDiff, reduceIte, reduceCtorEq, Nat.reduceBEq, Nat.reduceEqDiff, wrap64, runC_loop, runC_range, callF_fn, callV_fn, callV_yld, yield_eq, yieldBody, yieldRaw, roundMid, roundEnd, rangeEnd, Bool.not_not, put_cons, put_nil, trim_same, at_zero, at_add, set_zero, set_add, store_one, write_zero, write_add, write_head, write_succ, splice_one, splice_more, List.drop_nil, List.take_nil, cell_int, cell_bool, fillS, splice_one, idxA, Ex.isNormal, List.set_nil, List.length_set, List.all_cons, List.all_nil, Bool.and_self, and_self, true_and, and_true, List.getElem?_nil, Int.reduceLT, Int.reduceLE, Int.reduceToNat, Int.toNat_zero, Int.toNat_one, Int.reduceAdd, Int.reduceSub, Int.reduceMul, Int.reduceNeg, Int.reduceBEq, Int.reduceBNe, Int.reduceGE, Int.reduceGT, Nat.reduceLT, trim_keep, under_fn, under_ptr, under_sl, Nat.lt_irrefl, not_lt_add, trim_tail, keepOk, ABlk.vals, Int.cast_ofNat_Int, decide_true, decide_false, List.all_cons, List.all_nil, Nat.zero_mul, Nat.mul_one, Nat.one_mul, idx_arr, x4_call, e0, wa, wb, d1, d2, ea1, ea2, c2, ef, er, dg, nb2, nn, em, ew, q4.1, q4.2, q5.1, q5.2, hK5, c5, eg, eh, bb, ep, c6, eq, c7, k5, k6, k7, e1, e2, e3, e4, e5, x4_wakes, outs_normal]
  subst hQ
  simp -implicitDefEqProofs (maxSteps := 5000000) only [go_sem, Nat.reduceShiftRight, Nat.reduceAnd, Nat.reduceBNe, Int.reduceEq, Nat.reduceAdd, Nat.reduceSub, Nat.reduceMul, Nat.reduceLeDiff, reduceIte, reduceCtorEq, Nat.reduceBEq, Nat.reduceEqDiff]
 ·obtain ⟨i, hi⟩ : ∃ i : Nat, idxS a n0 = i := ⟨(idxS a n0).toNat, by omega⟩
  have il : i < a.length := by omega
  have hx := List.getElem?_eq_getElem il
  rw [hi] at ef er
  rw [if_pos (by omega), Int.toNat_natCast, hx, decide_eq_true (show (0 : Int) ≤ (i : Int) by omega)] at ef
  obtain ⟨bx, cs, _, ix, hc, _, r2, _, _⟩ := pa2.idx hx
  have dg : decide ((i : Int) ≥ 0) = true := decide_eq_true (by omega)
  simp only [Option.getD_some] at ef
  simp -implicitDefEqProofs (maxSteps := 5000000) only [go_sem, Nat.reduceShiftRight, Nat.reduceAnd, Nat.reduceBNe, Int.reduceEq, Nat.reduceAdd, Nat.reduceSub, Nat.reduceMul, Nat.reduceLeDiff, reduceIte, reduceCtorEq, Nat.reduceBEq, Nat.reduceEqDiff, wrap64, runC_loop, runC_range, callF_fn, callV_fn, callV_yld, yield_eq, yieldBody, yieldRaw, roundMid, roundEnd, rangeEnd, Bool.not_not, put_cons, put_nil, trim_same, at_zero, at_add, set_zero, set_add, store_one, write_zero, write_add, write_head, write_succ, splice_one, splice_more, List.drop_nil, List.take_nil, cell_int, cell_bool, fillS, splice_one, idxA, Ex.isNormal, List.set_nil, List.length_set, List.all_cons, List.all_nil, Bool.and_self, and_self, true_and, and_true, List.getElem?_nil, Int.reduceLT, Int.reduceLE, Int.reduceToNat, Int.toNat_zero, Int.toNat_one, Int.reduceAdd, Int.reduceSub, Int.reduceMul, Int.reduceNeg, Int.reduceBEq, Int.reduceBNe, Int.reduceGE, Int.reduceGT, Nat.reduceLT, trim_keep, under_fn, under_ptr, under_sl, Nat.lt_irrefl, not_lt_add, trim_tail, keepOk, ABlk.vals, Int.cast_ofNat_Int, decide_true, decide_false, List.all_cons, List.all_nil, Nat.zero_mul, Nat.mul_one, Nat.one_mul, idx_arr, x4_call, e0, wa, wb, d1, d2, ea1, ea2, c2, ef, er, dg, nb2, nn, ix, hc, r2, em, ew, q4.1, q4.2, q5.1, q5.2, hK5, c5, eg, eh, bb, ep, c6, eq, c7, k5, k6, k7, e1, e2, e3, e4, e5, x4_wakes, outs_normal]
  subst hQ
  simp -implicitDefEqProofs (maxSteps := 5000000) only [go_sem, Nat.reduceShiftRight, Nat.reduceAnd, Nat.reduceBNe, Int.reduceEq, Nat.reduceAdd, Nat.reduceSub, Nat.reduceMul, Nat.reduceLeDiff, reduceIte, reduceCtorEq, Nat.reduceBEq, Nat.reduceEqDiff]
end Go.Proofs.Ytekceggcbpeoeaa.G10
