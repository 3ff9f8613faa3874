/- What the functions that ChainTells reaches answer, for every argument. No condition but those in each statement. -/
import Derived.Test.YthhodjcgcgkaaaaGRB
set_option linter.unusedSimpArgs false
set_option linter.unusedVariables false
set_option linter.unusedSectionVars false
set_option maxRecDepth 10000
section
namespace Go.Proofs.Ythhodjcgcgkaaaa.G11
open Go Go.Proofs.Ythhodjcgcgkaaaa.Eng
section
variable {H : AHeap} {v : AV} {L : List SnS} (g : IsC H v L) (fi : Fits L) {bl : Int} (hbl : bl ≤ 9223372036854775807) (ar : Int)
include g fi hbl
set_option maxHeartbeats 4000000 in
theorem gooRange (h8 : L.length ≤ 8) {T : T} (ht : T.length = 61) (t3 : getT T 3 = .ptr H.length 0) (t4 : getT T 4 = .ptr (H.length + 1) 0) (t5 : getT T 5 = .ptr (H.length + 2) 0) (t6 : getT T 6 = .ptr (H.length + 3) 0) (t7 : getT T 7 = .ptr (H.length + 4) 0) (tf : getT T 16 = .fn 52 [.ptr (H.length + 6) 0, .ptr (H.length + 5) 0]) :
  Outs (runC (envL prog) (.range (X 16) [17, 18] kaq14x0 kbq14x0) T (H ++ [ABlk.rw [v], .rw [.int .i64 bl], .rw [.int .i64 ar], .rw [.bool false], .rw [.nilSl], .rw [v], .rw [.int .i64 0]])) fun e t K => t = T ∧ ((e = .normal ∧ cgoodF bl ar L none [] = true) ∨ (e = .ret ∧ cgoodF bl ar L none [] = false)) ∧ ∃ w ats, GooY H v bl ar ats .exhausted e T w K := by
 obtain ⟨G, hG⟩ : ∃ G, G = H ++ [ABlk.rw [v], .rw [.int .i64 bl], .rw [.int .i64 ar], .rw [.bool false], .rw [.nilSl], .rw [v], .rw [.int .i64 0]] := ⟨_, rfl⟩
 obtain ⟨K0, hK0⟩ : ∃ K0, K0 = G ++ [GooL .ready .normal T] := ⟨_, rfl⟩
 have lG : G.length = H.length + 7 := by rw [hG]; simp
 have y0 : GooY H v bl ar [] .ready .normal T .nilSl K0 := ⟨fun z hz => by rw [hK0, hG, List.getElem?_append_left (by simp; omega), List.getElem?_append_left hz], by rw [hK0, List.length_append, lG]; simp, by rw [hK0, hG]; simp, by rw [hK0, hG]; simp, by rw [hK0, hG]; simp, by rw [hK0, hG]; simp, by rw [hK0, hG]; simp, by rw [hK0, hG]; simp, by rw [hK0, ← lG]; simp, .inl ⟨rfl, rfl⟩⟩
 have ib0 : K0[H.length + 6]? = some (.rw [.int .i64 ((0 : Nat) : Int)]) := by rw [hK0, hG]; simp
 rw [← hG]
 have cf : ∀ K, callF (envL prog) (X 16 T) [.yld G.length] K = (envL prog).call 52 [.yld (H.length + 7), .ptr (H.length + 6) 0, .ptr (H.length + 5) 0] K := fun K => by
  rw [lG, X_ap, tf]; rfl
 have hP : ∀ i K, GooP H v L bl ar (cgoodF bl ar L none []) T i K → K[H.length + 6]? = some (.rw [.int .i64 (i : Int)]) ∧ cellsOf K (H.length + 5) = some [v] ∧ Adds H K := fun i K y => by
  obtain ⟨⟨w, ats, y, _⟩, ib⟩ := y
  exact ⟨ib, cells_rw y.lb, Adds.of_get (by have := y.len; omega) y.old⟩
 obtain ⟨K1, ec, h1⟩ := fromAll g (v := v) (L := L) (p := H.length + 6) (q := H.length + 5) (y := H.length + 7) (P := GooP H v L bl ar (cgoodF bl ar L none []) T) (Q := fun K => cgoodF bl ar L none [] = false ∧ ∃ w ats, GooY H v bl ar ats .done .ret T w K) fi.1 hP (fun i K s vc vt y hx hbs hip => gooRound g fi h8 hbl ar ht t3 t4 t5 t6 t7 y hx hbs hip) (i := 0) (K := K0) ⟨⟨_, _, y0, rfl, by simp⟩, ib0⟩
 have l0 : K0.length = H.length + 8 := by rw [hK0, List.length_append, lG]; rfl
 obtain ⟨K4, et, h4⟩ := trim_two K0 (.tup []) K1
 rw [et] at ec
 have hK1 : ∀ k, K0[H.length + 4]? = some k → ∀ a ∈ k.vals, ∀ x, slb a = some x → x < K0.length := fun k hk a ha x hx => by
  rw [y0.wb] at hk; injection hk with hk; subst hk
  rw [List.mem_singleton.1 ha] at hx; cases hx
 have fin : ∀ {e : Ex} {st : LoopState} {w : AV} {ats : List Int}, GooY H v bl ar ats st e T w K1 → st ≠ .busy → runC (envL prog) (.range (X 16) [17, 18] kaq14x0 kbq14x0) T G = some (e, T, K4.set (H.length + 7) (GooL .exhausted e T)) ∧ GooY H v bl ar ats .exhausted e T w (K4.set (H.length + 7) (GooL .exhausted e T)) := by
  intro e st w ats y hs
  have hl := y.len
  have a4 := fun {z} (hz : z < K0.length) => two_at h4 hz
  have l4 := two_len h4 (by omega)
  have f4 : FS K4 (H.length + 8) w ats := two_gr h4 y.fs (by omega) y.wb (by simp) hK1
  have := range_all (E := envL prog) (f := X 16) (ps := [17, 18]) (ka := kaq14x0) (kb := kbq14x0) (t := T) (h := G) (K := K4) (e := e) (st := st) (v := .tup []) (by rw [cf]; rw [hK0] at ec; exact ec) (by rw [lG, a4 (by omega)]; exact y.lp) hs
  rw [lG] at this
  exact ⟨this, y.step (fun b hb _ _ h7 => by rw [at_set_ne _ _ _ _ h7, a4 (by omega)]) (by rw [List.length_set]; omega) (by rw [at_set_ne _ _ _ _ (by omega), a4 (by omega)]; exact y.wb) (at_set _ _ _ (by omega)) (f4.frT (Fr.set _ _ (F := fun z => z = H.length + 7) rfl) fun z hz h => by have := (FS.out y.fs z hz).1; omega)⟩
 rcases h1 with ⟨j, hj, _, _, ⟨w, ats, y, inv, _⟩, _⟩ | ⟨ha, w, ats, y⟩
 ·obtain ⟨e1, e2⟩ := fin y (by decide)
  rw [e1]
  exact ⟨_, _, _, rfl, rfl, .inl ⟨rfl, by rw [inv, List.drop_eq_nil_of_le hj]; rfl⟩, w, ats, e2⟩
 ·obtain ⟨e1, e2⟩ := fin y (by decide)
  rw [e1]
  exact ⟨_, _, _, rfl, rfl, .inr ⟨rfl, ha⟩, w, ats, e2⟩
theorem cgoodC : (envL prog).call 14 [v, .int .i64 bl, .int .i64 ar] H = some (.bool (cgood L bl ar), H) := by
 have hr := fun h8 T => gooRange g fi hbl ar h8 (T := T)
 have ef := fromC (g.adds (⟨[ABlk.rw [v], .rw [.int .i64 bl], .rw [.int .i64 ar], .rw [.bool false], .rw [.nilSl]], rfl⟩ : Adds H _)) 0
 have hc := g.cell
 have wl := g.len
 have key : Outs (runC (envL prog) (b14 (envL prog)) ([v, .int .i64 bl, .int .i64 ar] ++ List.replicate (61 - [v, AV.int .i64 bl, .int .i64 ar].length) .undef) H) fun e' t K => Adds H K ∧ fin [.cell 6 1 false] (some (e', t, K)) = some (.bool (cgood L bl ar), K) := by
  unfold b14
  generalize hQ : (fun (e' : Ex) (t : T) (K : AHeap) => Adds H K ∧ fin [.cell 6 1 false] (some (e', t, K)) = some (AV.bool (cgood L bl ar), K)) = Q
  by_cases h8 : (L.length : Int) > 8
  ·have d8 := decide_eq_true h8
   have hs : cgood L bl ar = false := by unfold cgood; rw [decide_eq_false (by omega)]; rfl
   simp -implicitDefEqProofs (maxSteps := 5000000) only [go_sem, Nat.reduceShiftRight, Nat.reduceAnd, Nat.reduceBNe, Int.reduceEq, Nat.reduceAdd, Nat.reduceSub, Nat.reduceMul, Nat.reduceLeDiff, reduceIte, reduceCtorEq, Nat.reduceBEq, Nat.reduceEqDiff, wrap64, runC_loop, runC_range, callF_fn, callV_fn, callV_yld, yield_eq, yieldBody, yieldRaw, roundMid, roundEnd, rangeEnd, Bool.not_not, put_cons, put_nil, trim_same, at_zero, at_add, set_zero, set_add, store_one, write_zero, write_add, write_head, write_succ, splice_one, splice_more, List.drop_nil, List.take_nil, cell_int, cell_bool, fillS, splice_one, idxA, Ex.isNormal, List.set_nil, List.length_set, List.all_cons, List.all_nil, Bool.and_self, and_self, true_and, and_true, List.getElem?_nil, Int.reduceLT, Int.reduceLE, Int.reduceToNat, Int.toNat_zero, Int.toNat_one, Int.reduceAdd, Int.reduceSub, Int.reduceMul, Int.reduceNeg, Int.reduceBEq, Int.reduceBNe, Int.reduceGE, Int.reduceGT, Nat.reduceLT, trim_keep, under_fn, under_ptr, under_sl, Nat.lt_irrefl, not_lt_add, trim_tail, keepOk, ABlk.vals, Int.cast_ofNat_Int, decide_true, decide_false, List.all_cons, List.all_nil, Nat.zero_mul, Nat.mul_one, Nat.one_mul, hc.1, wl, d8, outs_normal]
   subst hQ
   rw [hs]
   refine ⟨⟨_, rfl⟩, ?_⟩
   simp -implicitDefEqProofs (maxSteps := 5000000) only [go_sem, Nat.reduceShiftRight, Nat.reduceAnd, Nat.reduceBNe, Int.reduceEq, Nat.reduceAdd, Nat.reduceSub, Nat.reduceMul, Nat.reduceLeDiff, reduceIte, reduceCtorEq, Nat.reduceBEq, Nat.reduceEqDiff, wrap64, runC_loop, runC_range, callF_fn, callV_fn, callV_yld, yield_eq, yieldBody, yieldRaw, roundMid, roundEnd, rangeEnd, Bool.not_not, put_cons, put_nil, trim_same, at_zero, at_add, set_zero, set_add, store_one, write_zero, write_add, write_head, write_succ, splice_one, splice_more, List.drop_nil, List.take_nil, cell_int, cell_bool, fillS, splice_one, idxA, Ex.isNormal, List.set_nil, List.length_set, List.all_cons, List.all_nil, Bool.and_self, and_self, true_and, and_true, List.getElem?_nil, Int.reduceLT, Int.reduceLE, Int.reduceToNat, Int.toNat_zero, Int.toNat_one, Int.reduceAdd, Int.reduceSub, Int.reduceMul, Int.reduceNeg, Int.reduceBEq, Int.reduceBNe, Int.reduceGE, Int.reduceGT, Nat.reduceLT, trim_keep, under_fn, under_ptr, under_sl, Nat.lt_irrefl, not_lt_add, trim_tail, keepOk, ABlk.vals, Int.cast_ofNat_Int, decide_true, decide_false, List.all_cons, List.all_nil, Nat.zero_mul, Nat.mul_one, Nat.one_mul]
  have d8 := decide_eq_false h8
  have hs : cgood L bl ar = cgoodF bl ar L none [] := by unfold cgood; rw [decide_eq_true (by omega)]; rfl
  simp -implicitDefEqProofs (maxSteps := 5000000) only [go_sem, Nat.reduceShiftRight, Nat.reduceAnd, Nat.reduceBNe, Int.reduceEq, Nat.reduceAdd, Nat.reduceSub, Nat.reduceMul, Nat.reduceLeDiff, reduceIte, reduceCtorEq, Nat.reduceBEq, Nat.reduceEqDiff, wrap64, runC_loop, callF_fn, callV_fn, callV_yld, Bool.not_not, put_cons, put_nil, trim_same, at_zero, at_add, set_zero, set_add, store_one, write_zero, write_add, write_head, write_succ, splice_one, splice_more, List.drop_nil, List.take_nil, cell_int, cell_bool, fillS, splice_one, idxA, Ex.isNormal, List.set_nil, List.length_set, List.all_cons, List.all_nil, Bool.and_self, and_self, true_and, and_true, List.getElem?_nil, Int.reduceLT, Int.reduceLE, Int.reduceToNat, Int.toNat_zero, Int.toNat_one, Int.reduceAdd, Int.reduceSub, Int.reduceMul, Int.reduceNeg, Int.reduceBEq, Int.reduceBNe, Int.reduceGE, Int.reduceGT, Nat.reduceLT, trim_keep, under_fn, under_ptr, under_sl, Nat.lt_irrefl, not_lt_add, trim_tail, keepOk, ABlk.vals, Int.cast_ofNat_Int, decide_true, decide_false, List.all_cons, List.all_nil, Nat.zero_mul, Nat.mul_one, Nat.one_mul, hc.1, wl, d8, ef]
  refine outs_ctx (fun r => seqR (blockR 0 r) _) (hr (by omega) _ rfl rfl rfl rfl rfl rfl rfl) ?_
  rintro e t K ⟨rfl, h, w, ats, y⟩
  have aK : Adds H K := Adds.of_get (by have := y.len; omega) y.old
  have hl := y.len
  rcases h with ⟨rfl, ha⟩ | ⟨rfl, ha⟩
  ·have wr := write_one (y := .bool true) y.rb rfl
   obtain ⟨Kd, hKd⟩ : ∃ Kd, Kd = K.set (H.length + 3) (ABlk.rw [.bool true]) := ⟨_, rfl⟩
   rw [← hKd] at wr
   have d1 := cells_rw (show Kd[H.length + 3]? = some (.rw [.bool true]) by rw [hKd]; exact at_set _ _ _ (by omega))
   have aD : Adds H Kd := Adds.of_get (by rw [hKd, List.length_set]; omega) fun z hz => by rw [hKd, at_set_ne _ _ _ _ (by omega)]; exact y.old z hz
   simp -implicitDefEqProofs (maxSteps := 5000000) only [go_sem, Nat.reduceShiftRight, Nat.reduceAnd, Nat.reduceBNe, Int.reduceEq, Nat.reduceAdd, Nat.reduceSub, Nat.reduceMul, Nat.reduceLeDiff, reduceIte, reduceCtorEq, Nat.reduceBEq, Nat.reduceEqDiff, wrap64, runC_loop, runC_range, callF_fn, callV_fn, callV_yld, yield_eq, yieldBody, yieldRaw, roundMid, roundEnd, rangeEnd, Bool.not_not, put_cons, put_nil, trim_same, at_zero, at_add, set_zero, set_add, store_one, write_zero, write_add, write_head, write_succ, splice_one, splice_more, List.drop_nil, List.take_nil, cell_int, cell_bool, fillS, splice_one, idxA, Ex.isNormal, List.set_nil, List.length_set, List.all_cons, List.all_nil, Bool.and_self, and_self, true_and, and_true, List.getElem?_nil, Int.reduceLT, Int.reduceLE, Int.reduceToNat, Int.toNat_zero, Int.toNat_one, Int.reduceAdd, Int.reduceSub, Int.reduceMul, Int.reduceNeg, Int.reduceBEq, Int.reduceBNe, Int.reduceGE, Int.reduceGT, Nat.reduceLT, trim_keep, under_fn, under_ptr, under_sl, Nat.lt_irrefl, not_lt_add, trim_tail, keepOk, ABlk.vals, Int.cast_ofNat_Int, decide_true, decide_false, List.all_cons, List.all_nil, Nat.zero_mul, Nat.mul_one, Nat.one_mul, wr, outs_normal]
   subst hQ
   rw [hs, ha]
   refine ⟨aD, ?_⟩
   simp -implicitDefEqProofs (maxSteps := 5000000) only [go_sem, Nat.reduceShiftRight, Nat.reduceAnd, Nat.reduceBNe, Int.reduceEq, Nat.reduceAdd, Nat.reduceSub, Nat.reduceMul, Nat.reduceLeDiff, reduceIte, reduceCtorEq, Nat.reduceBEq, Nat.reduceEqDiff, wrap64, runC_loop, runC_range, callF_fn, callV_fn, callV_yld, yield_eq, yieldBody, yieldRaw, roundMid, roundEnd, rangeEnd, Bool.not_not, put_cons, put_nil, trim_same, at_zero, at_add, set_zero, set_add, store_one, write_zero, write_add, write_head, write_succ, splice_one, splice_more, List.drop_nil, List.take_nil, cell_int, cell_bool, fillS, splice_one, idxA, Ex.isNormal, List.set_nil, List.length_set, List.all_cons, List.all_nil, Bool.and_self, and_self, true_and, and_true, List.getElem?_nil, Int.reduceLT, Int.reduceLE, Int.reduceToNat, Int.toNat_zero, Int.toNat_one, Int.reduceAdd, Int.reduceSub, Int.reduceMul, Int.reduceNeg, Int.reduceBEq, Int.reduceBNe, Int.reduceGE, Int.reduceGT, Nat.reduceLT, trim_keep, under_fn, under_ptr, under_sl, Nat.lt_irrefl, not_lt_add, trim_tail, keepOk, ABlk.vals, Int.cast_ofNat_Int, decide_true, decide_false, List.all_cons, List.all_nil, Nat.zero_mul, Nat.mul_one, Nat.one_mul, d1]
  ·have d1 := cells_rw y.rb
   simp -implicitDefEqProofs (maxSteps := 5000000) only [go_sem, Nat.reduceShiftRight, Nat.reduceAnd, Nat.reduceBNe, Int.reduceEq, Nat.reduceAdd, Nat.reduceSub, Nat.reduceMul, Nat.reduceLeDiff, reduceIte, reduceCtorEq, Nat.reduceBEq, Nat.reduceEqDiff, wrap64, runC_loop, runC_range, callF_fn, callV_fn, callV_yld, yield_eq, yieldBody, yieldRaw, roundMid, roundEnd, rangeEnd, Bool.not_not, put_cons, put_nil, trim_same, at_zero, at_add, set_zero, set_add, store_one, write_zero, write_add, write_head, write_succ, splice_one, splice_more, List.drop_nil, List.take_nil, cell_int, cell_bool, fillS, splice_one, idxA, Ex.isNormal, List.set_nil, List.length_set, List.all_cons, List.all_nil, Bool.and_self, and_self, true_and, and_true, List.getElem?_nil, Int.reduceLT, Int.reduceLE, Int.reduceToNat, Int.toNat_zero, Int.toNat_one, Int.reduceAdd, Int.reduceSub, Int.reduceMul, Int.reduceNeg, Int.reduceBEq, Int.reduceBNe, Int.reduceGE, Int.reduceGT, Nat.reduceLT, trim_keep, under_fn, under_ptr, under_sl, Nat.lt_irrefl, not_lt_add, trim_tail, keepOk, ABlk.vals, Int.cast_ofNat_Int, decide_true, decide_false, List.all_cons, List.all_nil, Nat.zero_mul, Nat.mul_one, Nat.one_mul, outs_normal]
   subst hQ
   rw [hs, ha]
   refine ⟨aK, ?_⟩
   simp -implicitDefEqProofs (maxSteps := 5000000) only [go_sem, Nat.reduceShiftRight, Nat.reduceAnd, Nat.reduceBNe, Int.reduceEq, Nat.reduceAdd, Nat.reduceSub, Nat.reduceMul, Nat.reduceLeDiff, reduceIte, reduceCtorEq, Nat.reduceBEq, Nat.reduceEqDiff, wrap64, runC_loop, runC_range, callF_fn, callV_fn, callV_yld, yield_eq, yieldBody, yieldRaw, roundMid, roundEnd, rangeEnd, Bool.not_not, put_cons, put_nil, trim_same, at_zero, at_add, set_zero, set_add, store_one, write_zero, write_add, write_head, write_succ, splice_one, splice_more, List.drop_nil, List.take_nil, cell_int, cell_bool, fillS, splice_one, idxA, Ex.isNormal, List.set_nil, List.length_set, List.all_cons, List.all_nil, Bool.and_self, and_self, true_and, and_true, List.getElem?_nil, Int.reduceLT, Int.reduceLE, Int.reduceToNat, Int.toNat_zero, Int.toNat_one, Int.reduceAdd, Int.reduceSub, Int.reduceMul, Int.reduceNeg, Int.reduceBEq, Int.reduceBNe, Int.reduceGE, Int.reduceGT, Nat.reduceLT, trim_keep, under_fn, under_ptr, under_sl, Nat.lt_irrefl, not_lt_add, trim_tail, keepOk, ABlk.vals, Int.cast_ofNat_Int, decide_true, decide_false, List.all_cons, List.all_nil, Nat.zero_mul, Nat.mul_one, Nat.one_mul, d1]
 obtain ⟨e', t, K, hr, aK, hf⟩ := key
 rw [c14, hr, hf]; exact aK.trimS rfl
end
end Go.Proofs.Ythhodjcgcgkaaaa.G11
end
section
namespace Go.Proofs.Ythhodjcgcgkaaaa.G11
open Go Go.Proofs.Ythhodjcgcgkaaaa.Eng
section
variable {H : AHeap} {v : AV} {L : List SnS} (g : IsC H v L) (fi : Fits L)
include g fi
theorem closS (n : Int) (q : Nat) (s : SnS) (vc vt : AV) (bc : BS H vc s.ch) (pt : IsP H vt s.tb) (hq : cellsOf H q = some [.int .i64 n]) : (envL prog).call 40 [.agg [.int .i64 s.id, vc, vt], .ptr q 0] H = some (.bool (s.id == n), H) := by
 have c1 : ∀ X, cellsOf (H ++ X) q = some [.int .i64 n] := fun X => cells_old hq
 have cc := bc.cell
 have ct := pt.cell
 rw [c40]
 unfold b40
 simp -implicitDefEqProofs (maxSteps := 5000000) only [go_sem, Nat.reduceShiftRight, Nat.reduceAnd, Nat.reduceBNe, Int.reduceEq, Nat.reduceAdd, Nat.reduceSub, Nat.reduceMul, Nat.reduceLeDiff, reduceIte, reduceCtorEq, Nat.reduceBEq, Nat.reduceEqDiff, wrap64, runC_loop, runC_range, callF_fn, callV_fn, callV_yld, yield_eq, yieldBody, yieldRaw, roundMid, roundEnd, rangeEnd, Bool.not_not, put_cons, put_nil, trim_same, at_zero, at_add, set_zero, set_add, store_one, write_zero, write_add, write_head, write_succ, splice_one, splice_more, List.drop_nil, List.take_nil, cell_int, cell_bool, fillS, splice_one, idxA, Ex.isNormal, List.set_nil, List.length_set, List.all_cons, List.all_nil, Bool.and_self, and_self, true_and, and_true, List.getElem?_nil, Int.reduceLT, Int.reduceLE, Int.reduceToNat, Int.toNat_zero, Int.toNat_one, Int.reduceAdd, Int.reduceSub, Int.reduceMul, Int.reduceNeg, Int.reduceBEq, Int.reduceBNe, Int.reduceGE, Int.reduceGT, Nat.reduceLT, trim_keep, under_fn, under_ptr, under_sl, Nat.lt_irrefl, not_lt_add, trim_tail, keepOk, ABlk.vals, Int.cast_ofNat_Int, decide_true, decide_false, List.all_cons, List.all_nil, Nat.zero_mul, Nat.mul_one, Nat.one_mul, cellsA_agg, cc.2, ct.2, c1]
set_option maxHeartbeats 4000000 in
theorem cidL (n : Int) {q : Nat} (hq : cellsOf H q = some [.int .i64 n]) (x2 x3 x6 : AV) : ∀ (k i : Nat) (j5 j9 j10 j11 j12 j13 j14 j15 j16 j17 j18 : AV), i + k = L.length →
  Outs (LP1 l39x0 [v, .fn 40 [.ptr q 0], x2, x3, .int .i64 0, j5, x6, .int .i64 (L.length : Int), .int .i64 (i : Int), j9, j10, j11, j12, j13, j14, j15, j16, j17, j18] H) fun e t K => K = H ∧ ∃ fv : Nat → AV, t = [v, .fn 40 [.ptr q 0], x2, x3, (fv 4), (fv 5), x6, .int .i64 (L.length : Int), (fv 8), (fv 9), (fv 10), (fv 11), (fv 12), (fv 13), (fv 14), (fv 15), (fv 16), (fv 17), (fv 18)] ∧ ((e = .exit 0 ∧ cidF n i (L.drop i) = -1) ∨ (e = .ret ∧ fv 4 = .int .i64 (cidF n i (L.drop i)))) := by
 intro k
 obtain ⟨L0, hL0⟩ : ∃ L, L = LP1 l39x0 := ⟨_, rfl⟩
 have lo := loop_open hL0
 have fl := fi.1
 rw [← hL0]
 induction k with
 | zero =>
  intro i j5 j9 j10 j11 j12 j13 j14 j15 j16 j17 j18 hi
  obtain rfl : i = L.length := by omega
  have hd : decide ((L.length : Int) < (L.length : Int)) = false := by simp
  rw [List.drop_length, lo]
  unfold l39x0
  simp -implicitDefEqProofs (maxSteps := 5000000) only [go_sem, Nat.reduceShiftRight, Nat.reduceAnd, Nat.reduceBNe, Int.reduceEq, Nat.reduceAdd, Nat.reduceSub, Nat.reduceMul, Nat.reduceLeDiff, reduceIte, reduceCtorEq, Nat.reduceBEq, Nat.reduceEqDiff, hd, seqR_exit', outs_normal]
  exact exF2 rfl (.inl rfl)
 | succ k ih =>
  intro i j5 j9 j10 j11 j12 j13 j14 j15 j16 j17 j18 hi
  have hlt : i < L.length := by omega
  have hd : decide ((i : Int) < (L.length : Int)) = true := decide_eq_true (by omega)
  have e2 : IntKind.i64.wrap ((i : Int) + 1) = ((i + 1 : Nat) : Int) := by rw [wrap64 (by omega) (by omega)]; omega
  have hx := List.getElem?_eq_getElem hlt
  rw [List.drop_eq_getElem_cons hlt]
  generalize L[i] = s at *
  obtain ⟨bb, cs, vc, vt, sb, ix, hc, h1, h2, h3, ht, hle, hbs, hip⟩ := g.idx hx
  have ec := closS g fi n q s vc vt hbs hip hq
  rw [lo]
  unfold l39x0
  by_cases h : s.id = n
  ·have hb : (s.id == n) = true := by simp [h]
   rw [cidF, if_pos h]
   simp -implicitDefEqProofs (maxSteps := 5000000) only [go_sem, Nat.reduceShiftRight, Nat.reduceAnd, Nat.reduceBNe, Int.reduceEq, Nat.reduceAdd, Nat.reduceSub, Nat.reduceMul, Nat.reduceLeDiff, reduceIte, reduceCtorEq, Nat.reduceBEq, Nat.reduceEqDiff, wrap64, runC_loop, runC_range, callF_fn, callV_fn, callV_yld, yield_eq, yieldBody, yieldRaw, roundMid, roundEnd, rangeEnd, Bool.not_not, put_cons, put_nil, trim_same, at_zero, at_add, set_zero, set_add, store_one, write_zero, write_add, write_head, write_succ, splice_one, splice_more, List.drop_nil, List.take_nil, cell_int, cell_bool, fillS, splice_one, idxA, Ex.isNormal, List.set_nil, List.length_set, List.all_cons, List.all_nil, Bool.and_self, and_self, true_and, and_true, List.getElem?_nil, Int.reduceLT, Int.reduceLE, Int.reduceToNat, Int.toNat_zero, Int.toNat_one, Int.reduceAdd, Int.reduceSub, Int.reduceMul, Int.reduceNeg, Int.reduceBEq, Int.reduceBNe, Int.reduceGE, Int.reduceGT, Nat.reduceLT, trim_keep, under_fn, under_ptr, under_sl, Nat.lt_irrefl, not_lt_add, trim_tail, keepOk, ABlk.vals, Int.cast_ofNat_Int, decide_true, decide_false, List.all_cons, List.all_nil, Nat.zero_mul, Nat.mul_one, Nat.one_mul, hd, ix, hc, ht, hle, ec, hb, seqR_ret, outs_normal]
   exact exF2 rfl (.inr rfl)
  ·have hb : (s.id == n) = false := by simp [h]
   rw [cidF, if_neg h]
   simp -implicitDefEqProofs (maxSteps := 5000000) only [go_sem, Nat.reduceShiftRight, Nat.reduceAnd, Nat.reduceBNe, Int.reduceEq, Nat.reduceAdd, Nat.reduceSub, Nat.reduceMul, Nat.reduceLeDiff, reduceIte, reduceCtorEq, Nat.reduceBEq, Nat.reduceEqDiff, wrap64, runC_loop, runC_range, callF_fn, callV_fn, callV_yld, yield_eq, yieldBody, yieldRaw, roundMid, roundEnd, rangeEnd, Bool.not_not, put_cons, put_nil, trim_same, at_zero, at_add, set_zero, set_add, store_one, write_zero, write_add, write_head, write_succ, splice_one, splice_more, List.drop_nil, List.take_nil, cell_int, cell_bool, fillS, splice_one, idxA, Ex.isNormal, List.set_nil, List.length_set, List.all_cons, List.all_nil, Bool.and_self, and_self, true_and, and_true, List.getElem?_nil, Int.reduceLT, Int.reduceLE, Int.reduceToNat, Int.toNat_zero, Int.toNat_one, Int.reduceAdd, Int.reduceSub, Int.reduceMul, Int.reduceNeg, Int.reduceBEq, Int.reduceBNe, Int.reduceGE, Int.reduceGT, Nat.reduceLT, trim_keep, under_fn, under_ptr, under_sl, Nat.lt_irrefl, not_lt_add, trim_tail, keepOk, ABlk.vals, Int.cast_ofNat_Int, decide_true, decide_false, List.all_cons, List.all_nil, Nat.zero_mul, Nat.mul_one, Nat.one_mul, hd, ix, hc, ht, hle, ec, hb, e2]
   exact ih (i + 1) _ _ _ _ _ _ _ _ _ _ _ (by omega)
theorem cidFC (n : Int) {q : Nat} (hq : cellsOf H q = some [.int .i64 n]) : (envL prog).call 39 [v, .fn 40 [.ptr q 0]] H = some (.int .i64 (cidF n 0 L), H) := by
 have l0 := cidL g fi n hq (k := L.length) (i := 0)
 rw [show ((0 : Nat) : Int) = 0 from rfl, List.drop_zero] at l0
 have wl := g.len
 have key : Outs (runC (envL prog) (b39 (envL prog)) ([v, .fn 40 [.ptr q 0]] ++ List.replicate (19 - [v, AV.fn 40 [.ptr q 0]].length) .undef) H) fun e' t K => K = H ∧ fin [.tmp 4] (some (e', t, K)) = some (.int .i64 (cidF n 0 L), K) := by
  unfold b39
  generalize hQ : (fun (e' : Ex) (t : T) (K : AHeap) => K = H ∧ fin [.tmp 4] (some (e', t, K)) = some (AV.int .i64 (cidF n 0 L), K)) = Q
  simp -implicitDefEqProofs (maxSteps := 5000000) only [go_sem, Nat.reduceShiftRight, Nat.reduceAnd, Nat.reduceBNe, Int.reduceEq, Nat.reduceAdd, Nat.reduceSub, Nat.reduceMul, Nat.reduceLeDiff, reduceIte, reduceCtorEq, Nat.reduceBEq, Nat.reduceEqDiff, wrap64, runC_loop, runC_range, callF_fn, callV_fn, callV_yld, yield_eq, yieldBody, yieldRaw, roundMid, roundEnd, rangeEnd, Bool.not_not, put_cons, put_nil, trim_same, at_zero, at_add, set_zero, set_add, store_one, write_zero, write_add, write_head, write_succ, splice_one, splice_more, List.drop_nil, List.take_nil, cell_int, cell_bool, fillS, splice_one, idxA, Ex.isNormal, List.set_nil, List.length_set, List.all_cons, List.all_nil, Bool.and_self, and_self, true_and, and_true, List.getElem?_nil, Int.reduceLT, Int.reduceLE, Int.reduceToNat, Int.toNat_zero, Int.toNat_one, Int.reduceAdd, Int.reduceSub, Int.reduceMul, Int.reduceNeg, Int.reduceBEq, Int.reduceBNe, Int.reduceGE, Int.reduceGT, Nat.reduceLT, trim_keep, under_fn, under_ptr, under_sl, Nat.lt_irrefl, not_lt_add, trim_tail, keepOk, ABlk.vals, Int.cast_ofNat_Int, decide_true, decide_false, List.all_cons, List.all_nil, Nat.zero_mul, Nat.mul_one, Nat.one_mul, runC_loop, wl]
  unfold LP1 at l0
  generalize (envL prog).loop (runC (envL prog) (l39x0 (envL prog))) = L0 at l0 ⊢
  refine outs_ctx (fun r => seqR (blockR 0 r) _) (l0 _ _ _ _ _ _ _ _ _ _ _ _ _ _ (by omega)) ?_
  rintro e t K ⟨rfl, fv, rfl, ⟨rfl, ho⟩ | ⟨rfl, f4⟩⟩
  ·simp -implicitDefEqProofs (maxSteps := 5000000) only [go_sem, Nat.reduceShiftRight, Nat.reduceAnd, Nat.reduceBNe, Int.reduceEq, Nat.reduceAdd, Nat.reduceSub, Nat.reduceMul, Nat.reduceLeDiff, reduceIte, reduceCtorEq, Nat.reduceBEq, Nat.reduceEqDiff, outs_normal]
   subst hQ
   rw [ho]
   refine ⟨rfl, ?_⟩
   simp -implicitDefEqProofs (maxSteps := 5000000) only [go_sem, Nat.reduceShiftRight, Nat.reduceAnd, Nat.reduceBNe, Int.reduceEq, Nat.reduceAdd, Nat.reduceSub, Nat.reduceMul, Nat.reduceLeDiff, reduceIte, reduceCtorEq, Nat.reduceBEq, Nat.reduceEqDiff]
  ·simp -implicitDefEqProofs (maxSteps := 5000000) only [go_sem, Nat.reduceShiftRight, Nat.reduceAnd, Nat.reduceBNe, Int.reduceEq, Nat.reduceAdd, Nat.reduceSub, Nat.reduceMul, Nat.reduceLeDiff, reduceIte, reduceCtorEq, Nat.reduceBEq, Nat.reduceEqDiff, outs_normal]
   subst hQ
   refine ⟨rfl, ?_⟩
   simp -implicitDefEqProofs (maxSteps := 5000000) only [go_sem, Nat.reduceShiftRight, Nat.reduceAnd, Nat.reduceBNe, Int.reduceEq, Nat.reduceAdd, Nat.reduceSub, Nat.reduceMul, Nat.reduceLeDiff, reduceIte, reduceCtorEq, Nat.reduceBEq, Nat.reduceEqDiff, f4]
 obtain ⟨e', t, K, hr, rfl, hf⟩ := key
 rw [c39, hr, hf]; exact trim_same rfl
theorem cindexC (n : Int) : (envL prog).call 16 [v, .int .i64 n] H = some (.int .i64 (cidF n 0 L), H) := by
 have ec := cidFC (g.adds (⟨[.rw [.int .i64 n]], rfl⟩ : Adds H (H ++ [.rw [.int .i64 n]]))) fi n (q := H.length) (by unfold cellsOf; simp)
 rw [c16]
 unfold b16
 simp -implicitDefEqProofs (maxSteps := 5000000) only [go_sem, Nat.reduceShiftRight, Nat.reduceAnd, Nat.reduceBNe, Int.reduceEq, Nat.reduceAdd, Nat.reduceSub, Nat.reduceMul, Nat.reduceLeDiff, reduceIte, reduceCtorEq, Nat.reduceBEq, Nat.reduceEqDiff, wrap64, runC_loop, runC_range, callF_fn, callV_fn, callV_yld, yield_eq, yieldBody, yieldRaw, roundMid, roundEnd, rangeEnd, Bool.not_not, put_cons, put_nil, trim_same, at_zero, at_add, set_zero, set_add, store_one, write_zero, write_add, write_head, write_succ, splice_one, splice_more, List.drop_nil, List.take_nil, cell_int, cell_bool, fillS, splice_one, idxA, Ex.isNormal, List.set_nil, List.length_set, List.all_cons, List.all_nil, Bool.and_self, and_self, true_and, and_true, List.getElem?_nil, Int.reduceLT, Int.reduceLE, Int.reduceToNat, Int.toNat_zero, Int.toNat_one, Int.reduceAdd, Int.reduceSub, Int.reduceMul, Int.reduceNeg, Int.reduceBEq, Int.reduceBNe, Int.reduceGE, Int.reduceGT, Nat.reduceLT, trim_keep, under_fn, under_ptr, under_sl, Nat.lt_irrefl, not_lt_add, trim_tail, keepOk, ABlk.vals, Int.cast_ofNat_Int, decide_true, decide_false, List.all_cons, List.all_nil, Nat.zero_mul, Nat.mul_one, Nat.one_mul, ec]
set_option maxHeartbeats 4000000 in
theorem rcidL (n : Int) (x2 x3 : AV) : ∀ (k i : Nat) (j6 j7 j8 j9 j10 j11 j12 j13 j14 j15 j16 j17 j18 j19 : AV), i + k = L.length →
  Outs (LP1 l17x0 [v, .int .i64 n, x2, x3, .int .i64 0, .int .i64 (i : Int), j6, j7, j8, j9, j10, j11, j12, j13, j14, j15, j16, j17, j18, j19] H) fun e t K => K = H ∧ ∃ fv : Nat → AV, t = [v, .int .i64 n, x2, x3, (fv 4), (fv 5), (fv 6), (fv 7), (fv 8), (fv 9), (fv 10), (fv 11), (fv 12), (fv 13), (fv 14), (fv 15), (fv 16), (fv 17), (fv 18), (fv 19)] ∧ ((e = .exit 0 ∧ cidF n i (L.drop i) = -1) ∨ (e = .ret ∧ fv 4 = .int .i64 (cidF n i (L.drop i)))) := by
 intro k
 obtain ⟨L0, hL0⟩ : ∃ L, L = LP1 l17x0 := ⟨_, rfl⟩
 have lo := loop_open hL0
 have fl := fi.1
 have wl := g.len
 rw [← hL0]
 induction k with
 | zero =>
  intro i j6 j7 j8 j9 j10 j11 j12 j13 j14 j15 j16 j17 j18 j19 hi
  obtain rfl : i = L.length := by omega
  have hd : decide ((L.length : Int) < (L.length : Int)) = false := by simp
  rw [List.drop_length, lo]
  unfold l17x0
  simp -implicitDefEqProofs (maxSteps := 5000000) only [go_sem, Nat.reduceShiftRight, Nat.reduceAnd, Nat.reduceBNe, Int.reduceEq, Nat.reduceAdd, Nat.reduceSub, Nat.reduceMul, Nat.reduceLeDiff, reduceIte, reduceCtorEq, Nat.reduceBEq, Nat.reduceEqDiff, wl, hd, seqR_exit', outs_normal]
  exact exF2 rfl (.inl rfl)
 | succ k ih =>
  intro i j6 j7 j8 j9 j10 j11 j12 j13 j14 j15 j16 j17 j18 j19 hi
  have hlt : i < L.length := by omega
  have hd : decide ((i : Int) < (L.length : Int)) = true := decide_eq_true (by omega)
  have e2 : IntKind.i64.wrap ((i : Int) + 1) = ((i + 1 : Nat) : Int) := by rw [wrap64 (by omega) (by omega)]; omega
  have hx := List.getElem?_eq_getElem hlt
  rw [List.drop_eq_getElem_cons hlt]
  generalize L[i] = s at *
  obtain ⟨bb, cs, vc, vt, sb, ix, hc, h1, h2, h3, ht, hle, hbs, hip⟩ := g.idx hx
  rw [lo]
  unfold l17x0
  by_cases h : s.id = n
  ·have hb : (s.id == n) = true := by simp [h]
   rw [cidF, if_pos h]
   simp -implicitDefEqProofs (maxSteps := 5000000) only [go_sem, Nat.reduceShiftRight, Nat.reduceAnd, Nat.reduceBNe, Int.reduceEq, Nat.reduceAdd, Nat.reduceSub, Nat.reduceMul, Nat.reduceLeDiff, reduceIte, reduceCtorEq, Nat.reduceBEq, Nat.reduceEqDiff, wrap64, runC_loop, runC_range, callF_fn, callV_fn, callV_yld, yield_eq, yieldBody, yieldRaw, roundMid, roundEnd, rangeEnd, Bool.not_not, put_cons, put_nil, trim_same, at_zero, at_add, set_zero, set_add, store_one, write_zero, write_add, write_head, write_succ, splice_one, splice_more, List.drop_nil, List.take_nil, cell_int, cell_bool, fillS, splice_one, idxA, Ex.isNormal, List.set_nil, List.length_set, List.all_cons, List.all_nil, Bool.and_self, and_self, true_and, and_true, List.getElem?_nil, Int.reduceLT, Int.reduceLE, Int.reduceToNat, Int.toNat_zero, Int.toNat_one, Int.reduceAdd, Int.reduceSub, Int.reduceMul, Int.reduceNeg, Int.reduceBEq, Int.reduceBNe, Int.reduceGE, Int.reduceGT, Nat.reduceLT, trim_keep, under_fn, under_ptr, under_sl, Nat.lt_irrefl, not_lt_add, trim_tail, keepOk, ABlk.vals, Int.cast_ofNat_Int, decide_true, decide_false, List.all_cons, List.all_nil, Nat.zero_mul, Nat.mul_one, Nat.one_mul, wl, hd, ix, hc, h1, hb, seqR_ret, outs_normal]
   exact exF2 rfl (.inr rfl)
  ·have hb : (s.id == n) = false := by simp [h]
   rw [cidF, if_neg h]
   simp -implicitDefEqProofs (maxSteps := 5000000) only [go_sem, Nat.reduceShiftRight, Nat.reduceAnd, Nat.reduceBNe, Int.reduceEq, Nat.reduceAdd, Nat.reduceSub, Nat.reduceMul, Nat.reduceLeDiff, reduceIte, reduceCtorEq, Nat.reduceBEq, Nat.reduceEqDiff, wrap64, runC_loop, runC_range, callF_fn, callV_fn, callV_yld, yield_eq, yieldBody, yieldRaw, roundMid, roundEnd, rangeEnd, Bool.not_not, put_cons, put_nil, trim_same, at_zero, at_add, set_zero, set_add, store_one, write_zero, write_add, write_head, write_succ, splice_one, splice_more, List.drop_nil, List.take_nil, cell_int, cell_bool, fillS, splice_one, idxA, Ex.isNormal, List.set_nil, List.length_set, List.all_cons, List.all_nil, Bool.and_self, and_self, true_and, and_true, List.getElem?_nil, Int.reduceLT, Int.reduceLE, Int.reduceToNat, Int.toNat_zero, Int.toNat_one, Int.reduceAdd, Int.reduceSub, Int.reduceMul, Int.reduceNeg, Int.reduceBEq, Int.reduceBNe, Int.reduceGE, Int.reduceGT, Nat.reduceLT, trim_keep, under_fn, under_ptr, under_sl, Nat.lt_irrefl, not_lt_add, trim_tail, keepOk, ABlk.vals, Int.cast_ofNat_Int, decide_true, decide_false, List.all_cons, List.all_nil, Nat.zero_mul, Nat.mul_one, Nat.one_mul, wl, hd, ix, hc, h1, hb, e2]
   exact ih (i + 1) _ _ _ _ _ _ _ _ _ _ _ _ _ _ (by omega)
theorem rcindexC (n : Int) : (envL prog).call 17 [v, .int .i64 n] H = some (.int .i64 (cidF n 0 L), H) := by
 have l0 := rcidL g fi n (k := L.length) (i := 0)
 rw [show ((0 : Nat) : Int) = 0 from rfl, List.drop_zero] at l0
 have key : Outs (runC (envL prog) (b17 (envL prog)) ([v, .int .i64 n] ++ List.replicate (20 - [v, AV.int .i64 n].length) .undef) H) fun e' t K => K = H ∧ fin [.tmp 4] (some (e', t, K)) = some (.int .i64 (cidF n 0 L), K) := by
  unfold b17
  generalize hQ : (fun (e' : Ex) (t : T) (K : AHeap) => K = H ∧ fin [.tmp 4] (some (e', t, K)) = some (AV.int .i64 (cidF n 0 L), K)) = Q
  simp -implicitDefEqProofs (maxSteps := 5000000) only [go_sem, Nat.reduceShiftRight, Nat.reduceAnd, Nat.reduceBNe, Int.reduceEq, Nat.reduceAdd, Nat.reduceSub, Nat.reduceMul, Nat.reduceLeDiff, reduceIte, reduceCtorEq, Nat.reduceBEq, Nat.reduceEqDiff, wrap64, runC_loop, runC_range, callF_fn, callV_fn, callV_yld, yield_eq, yieldBody, yieldRaw, roundMid, roundEnd, rangeEnd, Bool.not_not, put_cons, put_nil, trim_same, at_zero, at_add, set_zero, set_add, store_one, write_zero, write_add, write_head, write_succ, splice_one, splice_more, List.drop_nil, List.take_nil, cell_int, cell_bool, fillS, splice_one, idxA, Ex.isNormal, List.set_nil, List.length_set, List.all_cons, List.all_nil, Bool.and_self, and_self, true_and, and_true, List.getElem?_nil, Int.reduceLT, Int.reduceLE, Int.reduceToNat, Int.toNat_zero, Int.toNat_one, Int.reduceAdd, Int.reduceSub, Int.reduceMul, Int.reduceNeg, Int.reduceBEq, Int.reduceBNe, Int.reduceGE, Int.reduceGT, Nat.reduceLT, trim_keep, under_fn, under_ptr, under_sl, Nat.lt_irrefl, not_lt_add, trim_tail, keepOk, ABlk.vals, Int.cast_ofNat_Int, decide_true, decide_false, List.all_cons, List.all_nil, Nat.zero_mul, Nat.mul_one, Nat.one_mul, runC_loop]
  unfold LP1 at l0
  generalize (envL prog).loop (runC (envL prog) (l17x0 (envL prog))) = L0 at l0 ⊢
  refine outs_ctx (fun r => seqR (blockR 0 r) _) (l0 _ _ _ _ _ _ _ _ _ _ _ _ _ _ _ _ (by omega)) ?_
  rintro e t K ⟨rfl, fv, rfl, ⟨rfl, ho⟩ | ⟨rfl, f4⟩⟩
  ·simp -implicitDefEqProofs (maxSteps := 5000000) only [go_sem, Nat.reduceShiftRight, Nat.reduceAnd, Nat.reduceBNe, Int.reduceEq, Nat.reduceAdd, Nat.reduceSub, Nat.reduceMul, Nat.reduceLeDiff, reduceIte, reduceCtorEq, Nat.reduceBEq, Nat.reduceEqDiff, outs_normal]
   subst hQ
   rw [ho]
   refine ⟨rfl, ?_⟩
   simp -implicitDefEqProofs (maxSteps := 5000000) only [go_sem, Nat.reduceShiftRight, Nat.reduceAnd, Nat.reduceBNe, Int.reduceEq, Nat.reduceAdd, Nat.reduceSub, Nat.reduceMul, Nat.reduceLeDiff, reduceIte, reduceCtorEq, Nat.reduceBEq, Nat.reduceEqDiff]
  ·simp -implicitDefEqProofs (maxSteps := 5000000) only [go_sem, Nat.reduceShiftRight, Nat.reduceAnd, Nat.reduceBNe, Int.reduceEq, Nat.reduceAdd, Nat.reduceSub, Nat.reduceMul, Nat.reduceLeDiff, reduceIte, reduceCtorEq, Nat.reduceBEq, Nat.reduceEqDiff, outs_normal]
   subst hQ
   refine ⟨rfl, ?_⟩
   simp -implicitDefEqProofs (maxSteps := 5000000) only [go_sem, Nat.reduceShiftRight, Nat.reduceAnd, Nat.reduceBNe, Int.reduceEq, Nat.reduceAdd, Nat.reduceSub, Nat.reduceMul, Nat.reduceLeDiff, reduceIte, reduceCtorEq, Nat.reduceBEq, Nat.reduceEqDiff, f4]
 obtain ⟨e', t, K, hr, rfl, hf⟩ := key
 rw [c17, hr, hf]; exact trim_same rfl
end
def fairS (L : List SnS) : Bool := L.all (fun s => decide (s.ch.length ≤ 40) && decide (s.tb.length ≤ 80)) && decide (L.length ≤ 12)
section
variable {H : AHeap} {v : AV} {L : List SnS} (g : IsC H v L) (fb : L.length ≤ 9223372036854775807 ∧ ∀ s ∈ L, s.ch.length ≤ 9223372036854775807 ∧ s.tb.length ≤ 9223372036854775807)
include g fb
set_option maxHeartbeats 4000000 in
theorem fairL (x1 x26 x27 x28 : AV) : ∀ (k i : Nat) (j4 j5 j6 j7 j8 j9 j10 j11 j12 j13 j14 j15 j16 j17 j18 j19 j20 j21 j22 j23 j24 j25 : AV), i + k = L.length →
  Outs (LP1 l9x0 [v, x1, .bool false, .int .i64 (i : Int), j4, j5, j6, j7, j8, j9, j10, j11, j12, j13, j14, j15, j16, j17, j18, j19, j20, j21, j22, j23, j24, j25, x26, x27, x28] H) fun e t K => K = H ∧ ∃ fv : Nat → AV, t = [v, x1, (fv 2), (fv 3), (fv 4), (fv 5), (fv 6), (fv 7), (fv 8), (fv 9), (fv 10), (fv 11), (fv 12), (fv 13), (fv 14), (fv 15), (fv 16), (fv 17), (fv 18), (fv 19), (fv 20), (fv 21), (fv 22), (fv 23), (fv 24), (fv 25), x26, x27, x28] ∧ ((e = .exit 0 ∧ (L.drop i).all (fun s => decide (s.ch.length ≤ 40) && decide (s.tb.length ≤ 80)) = true) ∨ (e = .ret ∧ fv 2 = .bool false ∧ (L.drop i).all (fun s => decide (s.ch.length ≤ 40) && decide (s.tb.length ≤ 80)) = false)) := by
 intro k
 obtain ⟨L0, hL0⟩ : ∃ L, L = LP1 l9x0 := ⟨_, rfl⟩
 have lo := loop_open hL0
 have fl := fb.1
 have wl := g.len
 rw [← hL0]
 induction k with
 | zero =>
  intro i j4 j5 j6 j7 j8 j9 j10 j11 j12 j13 j14 j15 j16 j17 j18 j19 j20 j21 j22 j23 j24 j25 hi
  obtain rfl : i = L.length := by omega
  have hd : decide ((L.length : Int) < (L.length : Int)) = false := by simp
  rw [List.drop_length, lo]
  unfold l9x0
  simp -implicitDefEqProofs (maxSteps := 5000000) only [go_sem, Nat.reduceShiftRight, Nat.reduceAnd, Nat.reduceBNe, Int.reduceEq, Nat.reduceAdd, Nat.reduceSub, Nat.reduceMul, Nat.reduceLeDiff, reduceIte, reduceCtorEq, Nat.reduceBEq, Nat.reduceEqDiff, wl, hd, seqR_exit', outs_normal]
  exact exF2 rfl (.inl rfl)
 | succ k ih =>
  intro i j4 j5 j6 j7 j8 j9 j10 j11 j12 j13 j14 j15 j16 j17 j18 j19 j20 j21 j22 j23 j24 j25 hi
  have hlt : i < L.length := by omega
  have hd : decide ((i : Int) < (L.length : Int)) = true := decide_eq_true (by omega)
  have e2 : IntKind.i64.wrap ((i : Int) + 1) = ((i + 1 : Nat) : Int) := by rw [wrap64 (by omega) (by omega)]; omega
  have hx := List.getElem?_eq_getElem hlt
  have hm := fb.2 _ (List.getElem_mem hlt)
  rw [List.drop_eq_getElem_cons hlt, List.all_cons]
  generalize L[i] = s at *
  obtain ⟨bb, cs, vc, vt, sb, ix, hc, h1, h2, h3, ht, hle, hbs, hip⟩ := g.idx hx
  have w1 := hbs.len
  have w2 := hip.len
  rw [lo]
  unfold l9x0
  by_cases h : (s.ch.length : Int) > 40
  ·have d1 := decide_eq_true h
   rw [decide_eq_false (show ¬ s.ch.length ≤ 40 by omega)]
   simp -implicitDefEqProofs (maxSteps := 5000000) only [go_sem, Nat.reduceShiftRight, Nat.reduceAnd, Nat.reduceBNe, Int.reduceEq, Nat.reduceAdd, Nat.reduceSub, Nat.reduceMul, Nat.reduceLeDiff, reduceIte, reduceCtorEq, Nat.reduceBEq, Nat.reduceEqDiff, wrap64, runC_loop, runC_range, callF_fn, callV_fn, callV_yld, yield_eq, yieldBody, yieldRaw, roundMid, roundEnd, rangeEnd, Bool.not_not, put_cons, put_nil, trim_same, at_zero, at_add, set_zero, set_add, store_one, write_zero, write_add, write_head, write_succ, splice_one, splice_more, List.drop_nil, List.take_nil, cell_int, cell_bool, fillS, splice_one, idxA, Ex.isNormal, List.set_nil, List.length_set, List.all_cons, List.all_nil, Bool.and_self, and_self, true_and, and_true, List.getElem?_nil, Int.reduceLT, Int.reduceLE, Int.reduceToNat, Int.toNat_zero, Int.toNat_one, Int.reduceAdd, Int.reduceSub, Int.reduceMul, Int.reduceNeg, Int.reduceBEq, Int.reduceBNe, Int.reduceGE, Int.reduceGT, Nat.reduceLT, trim_keep, under_fn, under_ptr, under_sl, Nat.lt_irrefl, not_lt_add, trim_tail, keepOk, ABlk.vals, Int.cast_ofNat_Int, decide_true, decide_false, List.all_cons, List.all_nil, Nat.zero_mul, Nat.mul_one, Nat.one_mul, wl, hd, ix, hc, h2, h3, w1, w2, d1, seqR_ret, outs_normal]
   exact exF2 rfl (.inr rfl)
  ·have d1 := decide_eq_false h
   rw [decide_eq_true (show s.ch.length ≤ 40 by omega)]
   by_cases h' : (s.tb.length : Int) > 80
   ·have d2 := decide_eq_true h'
    rw [decide_eq_false (show ¬ s.tb.length ≤ 80 by omega)]
    simp -implicitDefEqProofs (maxSteps := 5000000) only [go_sem, Nat.reduceShiftRight, Nat.reduceAnd, Nat.reduceBNe, Int.reduceEq, Nat.reduceAdd, Nat.reduceSub, Nat.reduceMul, Nat.reduceLeDiff, reduceIte, reduceCtorEq, Nat.reduceBEq, Nat.reduceEqDiff, wrap64, runC_loop, runC_range, callF_fn, callV_fn, callV_yld, yield_eq, yieldBody, yieldRaw, roundMid, roundEnd, rangeEnd, Bool.not_not, put_cons, put_nil, trim_same, at_zero, at_add, set_zero, set_add, store_one, write_zero, write_add, write_head, write_succ, splice_one, splice_more, List.drop_nil, List.take_nil, cell_int, cell_bool, fillS, splice_one, idxA, Ex.isNormal, List.set_nil, List.length_set, List.all_cons, List.all_nil, Bool.and_self, and_self, true_and, and_true, List.getElem?_nil, Int.reduceLT, Int.reduceLE, Int.reduceToNat, Int.toNat_zero, Int.toNat_one, Int.reduceAdd, Int.reduceSub, Int.reduceMul, Int.reduceNeg, Int.reduceBEq, Int.reduceBNe, Int.reduceGE, Int.reduceGT, Nat.reduceLT, trim_keep, under_fn, under_ptr, under_sl, Nat.lt_irrefl, not_lt_add, trim_tail, keepOk, ABlk.vals, Int.cast_ofNat_Int, decide_true, decide_false, List.all_cons, List.all_nil, Nat.zero_mul, Nat.mul_one, Nat.one_mul, wl, hd, ix, hc, h2, h3, w1, w2, d1, d2, seqR_ret, outs_normal]
    exact exF2 rfl (.inr rfl)
   ·have d2 := decide_eq_false h'
    rw [decide_eq_true (show s.tb.length ≤ 80 by omega)]
    simp -implicitDefEqProofs (maxSteps := 5000000) only [go_sem, Nat.reduceShiftRight, Nat.reduceAnd, Nat.reduceBNe, Int.reduceEq, Nat.reduceAdd, Nat.reduceSub, Nat.reduceMul, Nat.reduceLeDiff, reduceIte, reduceCtorEq, Nat.reduceBEq, Nat.reduceEqDiff, wrap64, runC_loop, runC_range, callF_fn, callV_fn, callV_yld, yield_eq, yieldBody, yieldRaw, roundMid, roundEnd, rangeEnd, Bool.not_not, put_cons, put_nil, trim_same, at_zero, at_add, set_zero, set_add, store_one, write_zero, write_add, write_head, write_succ, splice_one, splice_more, List.drop_nil, List.take_nil, cell_int, cell_bool, fillS, splice_one, idxA, Ex.isNormal, List.set_nil, List.length_set, List.all_cons, List.all_nil, Bool.and_self, and_self, true_and, and_true, List.getElem?_nil, Int.reduceLT, Int.reduceLE, Int.reduceToNat, Int.toNat_zero, Int.toNat_one, Int.reduceAdd, Int.reduceSub, Int.reduceMul, Int.reduceNeg, Int.reduceBEq, Int.reduceBNe, Int.reduceGE, Int.reduceGT, Nat.reduceLT, trim_keep, under_fn, under_ptr, under_sl, Nat.lt_irrefl, not_lt_add, trim_tail, keepOk, ABlk.vals, Int.cast_ofNat_Int, decide_true, decide_false, List.all_cons, List.all_nil, Nat.zero_mul, Nat.mul_one, Nat.one_mul, wl, hd, ix, hc, h2, h3, w1, w2, d1, d2, e2]
    exact ih (i + 1) _ _ _ _ _ _ _ _ _ _ _ _ _ _ _ _ _ _ _ _ _ _ (by omega)
theorem fairC : (envL prog).call 9 [v] H = some (.bool (fairS L), H) := by
 have l0 := fairL g fb (k := L.length) (i := 0)
 rw [show ((0 : Nat) : Int) = 0 from rfl, List.drop_zero] at l0
 have wl := g.len
 have hd : decide ((L.length : Int) ≤ 12) = decide (L.length ≤ 12) := by
  by_cases h : L.length ≤ 12
  ·rw [decide_eq_true h, decide_eq_true (by omega)]
  ·rw [decide_eq_false h, decide_eq_false (by omega)]
 have key : Outs (runC (envL prog) (b9 (envL prog)) ([v] ++ List.replicate (29 - [v].length) .undef) H) fun e' t K => K = H ∧ fin [.tmp 2] (some (e', t, K)) = some (.bool (fairS L), K) := by
  unfold b9
  generalize hQ : (fun (e' : Ex) (t : T) (K : AHeap) => K = H ∧ fin [.tmp 2] (some (e', t, K)) = some (AV.bool (fairS L), K)) = Q
  simp -implicitDefEqProofs (maxSteps := 5000000) only [go_sem, Nat.reduceShiftRight, Nat.reduceAnd, Nat.reduceBNe, Int.reduceEq, Nat.reduceAdd, Nat.reduceSub, Nat.reduceMul, Nat.reduceLeDiff, reduceIte, reduceCtorEq, Nat.reduceBEq, Nat.reduceEqDiff, wrap64, runC_loop, runC_range, callF_fn, callV_fn, callV_yld, yield_eq, yieldBody, yieldRaw, roundMid, roundEnd, rangeEnd, Bool.not_not, put_cons, put_nil, trim_same, at_zero, at_add, set_zero, set_add, store_one, write_zero, write_add, write_head, write_succ, splice_one, splice_more, List.drop_nil, List.take_nil, cell_int, cell_bool, fillS, splice_one, idxA, Ex.isNormal, List.set_nil, List.length_set, List.all_cons, List.all_nil, Bool.and_self, and_self, true_and, and_true, List.getElem?_nil, Int.reduceLT, Int.reduceLE, Int.reduceToNat, Int.toNat_zero, Int.toNat_one, Int.reduceAdd, Int.reduceSub, Int.reduceMul, Int.reduceNeg, Int.reduceBEq, Int.reduceBNe, Int.reduceGE, Int.reduceGT, Nat.reduceLT, trim_keep, under_fn, under_ptr, under_sl, Nat.lt_irrefl, not_lt_add, trim_tail, keepOk, ABlk.vals, Int.cast_ofNat_Int, decide_true, decide_false, List.all_cons, List.all_nil, Nat.zero_mul, Nat.mul_one, Nat.one_mul, runC_loop]
  unfold LP1 at l0
  generalize (envL prog).loop (runC (envL prog) (l9x0 (envL prog))) = L0 at l0 ⊢
  refine outs_ctx (fun r => seqR (blockR 0 r) _) (l0 _ _ _ _ _ _ _ _ _ _ _ _ _ _ _ _ _ _ _ _ _ _ _ _ _ _ (by omega)) ?_
  rintro e t K ⟨rfl, fv, rfl, ⟨rfl, ho⟩ | ⟨rfl, f4, ho⟩⟩
  ·simp -implicitDefEqProofs (maxSteps := 5000000) only [go_sem, Nat.reduceShiftRight, Nat.reduceAnd, Nat.reduceBNe, Int.reduceEq, Nat.reduceAdd, Nat.reduceSub, Nat.reduceMul, Nat.reduceLeDiff, reduceIte, reduceCtorEq, Nat.reduceBEq, Nat.reduceEqDiff, wrap64, runC_loop, runC_range, callF_fn, callV_fn, callV_yld, yield_eq, yieldBody, yieldRaw, roundMid, roundEnd, rangeEnd, Bool.not_not, put_cons, put_nil, trim_same, at_zero, at_add, set_zero, set_add, store_one, write_zero, write_add, write_head, write_succ, splice_one, splice_more, List.drop_nil, List.take_nil, cell_int, cell_bool, fillS, splice_one, idxA, Ex.isNormal, List.set_nil, List.length_set, List.all_cons, List.all_nil, Bool.and_self, and_self, true_and, and_true, List.getElem?_nil, Int.reduceLT, Int.reduceLE, Int.reduceToNat, Int.toNat_zero, Int.toNat_one, Int.reduceAdd, Int.reduceSub, Int.reduceMul, Int.reduceNeg, Int.reduceBEq, Int.reduceBNe, Int.reduceGE, Int.reduceGT, Nat.reduceLT, trim_keep, under_fn, under_ptr, under_sl, Nat.lt_irrefl, not_lt_add, trim_tail, keepOk, ABlk.vals, Int.cast_ofNat_Int, decide_true, decide_false, List.all_cons, List.all_nil, Nat.zero_mul, Nat.mul_one, Nat.one_mul, wl, hd, outs_normal]
   subst hQ
   have : fairS L = decide (L.length ≤ 12) := by unfold fairS; rw [ho]; rfl
   rw [this]
   refine ⟨rfl, ?_⟩
   simp -implicitDefEqProofs (maxSteps := 5000000) only [go_sem, Nat.reduceShiftRight, Nat.reduceAnd, Nat.reduceBNe, Int.reduceEq, Nat.reduceAdd, Nat.reduceSub, Nat.reduceMul, Nat.reduceLeDiff, reduceIte, reduceCtorEq, Nat.reduceBEq, Nat.reduceEqDiff]
  ·simp -implicitDefEqProofs (maxSteps := 5000000) only [go_sem, Nat.reduceShiftRight, Nat.reduceAnd, Nat.reduceBNe, Int.reduceEq, Nat.reduceAdd, Nat.reduceSub, Nat.reduceMul, Nat.reduceLeDiff, reduceIte, reduceCtorEq, Nat.reduceBEq, Nat.reduceEqDiff, outs_normal]
   subst hQ
   have : fairS L = false := by unfold fairS; rw [ho]; rfl
   rw [this]
   refine ⟨rfl, ?_⟩
   simp -implicitDefEqProofs (maxSteps := 5000000) only [go_sem, Nat.reduceShiftRight, Nat.reduceAnd, Nat.reduceBNe, Int.reduceEq, Nat.reduceAdd, Nat.reduceSub, Nat.reduceMul, Nat.reduceLeDiff, reduceIte, reduceCtorEq, Nat.reduceBEq, Nat.reduceEqDiff, f4]
 obtain ⟨e', t, K, hr, rfl, hf⟩ := key
 rw [c9, hr, hf]; exact trim_same rfl
end
end Go.Proofs.Ythhodjcgcgkaaaa.G11
end
section
namespace Go.Proofs.Ythhodjcgcgkaaaa.G11
open Go Go.Proofs.Ythhodjcgcgkaaaa.Eng
def rchgF (i j : Int) : List SnS → Nat → List Int → List Int
 | [], _, acc => acc
 | s :: L, k, acc => rchgF i j L (k + 1) (if i ≤ (k : Int) ∧ (k : Int) < j then Bt.orS acc s.ch else acc)
theorem rchgF_end (i j : Int) : ∀ (L : List SnS) (k : Nat) (acc : List Int), j ≤ k → rchgF i j L k acc = acc
 | [], _, _, _ => rfl
 | s :: L, k, acc, h => by rw [rchgF, if_neg (by omega), rchgF_end i j L (k + 1) acc (by omega)]
theorem rchgF_eq (i j : Int) : ∀ (L : List SnS) (k : Nat) (acc : List Int), i ≤ k → rchgF i j L k acc = chgF j L k acc
 | [], _, _, _ => rfl
 | s :: L, k, acc, h => by
  rw [rchgF, chgF]
  by_cases hj : j ≤ (k : Int)
  ·rw [if_pos hj, if_neg (by omega), rchgF_end i j L (k + 1) acc (by omega)]
  ·rw [if_neg hj, if_pos ⟨h, by omega⟩, rchgF_eq i j L (k + 1) _ (by omega), show ((k + 1 : Nat) : Int) = (k : Int) + 1 by omega]
theorem rchgF_skip (i j : Int) : ∀ (L : List SnS) (k n : Nat) (acc : List Int), (k : Int) + n ≤ max i 0 → rchgF i j L k acc = rchgF i j (L.drop n) (k + n) acc
 | L, k, 0, acc, h => by rw [List.drop_zero, Nat.add_zero]
 | [], k, n + 1, acc, h => by simp [rchgF]
 | s :: L, k, n + 1, acc, h => by
  rw [rchgF, if_neg (by omega), rchgF_skip i j L (k + 1) n acc (by omega), List.drop_succ_cons, show k + 1 + n = k + (n + 1) by omega]
theorem rchg_eq (L : List SnS) (i j : Int) : rchgF i j L 0 [] = chgS L i j := by
 obtain ⟨n, hn⟩ : ∃ n : Nat, max i 0 = n := ⟨(max i 0).toNat, by omega⟩
 have hs : chgS L i j = chgF j (L.drop n) n [] := by unfold chgS; rw [hn, Int.toNat_natCast]
 rw [hs, rchgF_skip i j L 0 n [] (by omega), Nat.zero_add, rchgF_eq i j _ n [] (by omega)]
section
variable {H : AHeap} {v : AV} {L : List SnS} (g : IsC H v L) (fi : Fits L)
include g fi
set_option maxHeartbeats 4000000 in
theorem rholL (b : Int) (x1 x3 x4 x5 x9 x39 : AV) : ∀ (k i : Nat) (j8 j10 j11 j12 j13 j14 j15 j16 j17 j18 j19 j20 j21 j22 j23 j24 j25 j26 j27 j28 j29 j30 j31 j32 j33 j34 j35 j36 j37 j38 : AV), L.length - i ≤ k →
  Outs (LP1 l13x0 [v, x1, .int .i64 b, x3, x4, x5, .ptr H.length 0, .int .i64 (i : Int), j8, x9, j10, j11, j12, j13, j14, j15, j16, j17, j18, j19, j20, j21, j22, j23, j24, j25, j26, j27, j28, j29, j30, j31, j32, j33, j34, j35, j36, j37, j38, x39] (H ++ [.rw [.int .i64 0, .bool false]])) fun e t K => ∃ fv : Nat → AV, t = [v, x1, .int .i64 b, x3, x4, x5, .ptr H.length 0, (fv 7), (fv 8), x9, (fv 10), (fv 11), (fv 12), (fv 13), (fv 14), (fv 15), (fv 16), (fv 17), (fv 18), (fv 19), (fv 20), (fv 21), (fv 22), (fv 23), (fv 24), (fv 25), (fv 26), (fv 27), (fv 28), (fv 29), (fv 30), (fv 31), (fv 32), (fv 33), (fv 34), (fv 35), (fv 36), (fv 37), (fv 38), x39] ∧ ((e = .exit 0 ∧ K = H ++ [.rw [.int .i64 0, .bool false]] ∧ holdF b (L.drop i) = (0, false)) ∨ (e = .ret ∧ K = H ++ [.rw [.int .i64 (holdF b (L.drop i)).1, .bool (holdF b (L.drop i)).2]])) := by
 intro k
 obtain ⟨L0, hL0⟩ : ∃ L, L = LP1 l13x0 := ⟨_, rfl⟩
 have lo := loop_open hL0
 have fl := fi.1
 have wl := g.len
 rw [← hL0]
 induction k with
 | zero =>
  intro i j8 j10 j11 j12 j13 j14 j15 j16 j17 j18 j19 j20 j21 j22 j23 j24 j25 j26 j27 j28 j29 j30 j31 j32 j33 j34 j35 j36 j37 j38 hi
  have hd : decide ((i : Int) < (L.length : Int)) = false := decide_eq_false (by omega)
  have d0 : decide ((i : Int) ≥ 0) = true := decide_eq_true (by omega)
  rw [List.drop_eq_nil_of_le (by omega), lo]
  unfold l13x0
  simp -implicitDefEqProofs (maxSteps := 5000000) only [go_sem, Nat.reduceShiftRight, Nat.reduceAnd, Nat.reduceBNe, Int.reduceEq, Nat.reduceAdd, Nat.reduceSub, Nat.reduceMul, Nat.reduceLeDiff, reduceIte, reduceCtorEq, Nat.reduceBEq, Nat.reduceEqDiff, wrap64, runC_loop, runC_range, callF_fn, callV_fn, callV_yld, yield_eq, yieldBody, yieldRaw, roundMid, roundEnd, rangeEnd, Bool.not_not, put_cons, put_nil, trim_same, at_zero, at_add, set_zero, set_add, store_one, write_zero, write_add, write_head, write_succ, splice_one, splice_more, List.drop_nil, List.take_nil, cell_int, cell_bool, fillS, splice_one, idxA, Ex.isNormal, List.set_nil, List.length_set, List.all_cons, List.all_nil, Bool.and_self, and_self, true_and, and_true, List.getElem?_nil, Int.reduceLT, Int.reduceLE, Int.reduceToNat, Int.toNat_zero, Int.toNat_one, Int.reduceAdd, Int.reduceSub, Int.reduceMul, Int.reduceNeg, Int.reduceBEq, Int.reduceBNe, Int.reduceGE, Int.reduceGT, Nat.reduceLT, trim_keep, under_fn, under_ptr, under_sl, Nat.lt_irrefl, not_lt_add, trim_tail, keepOk, ABlk.vals, Int.cast_ofNat_Int, decide_true, decide_false, List.all_cons, List.all_nil, Nat.zero_mul, Nat.mul_one, Nat.one_mul, wl, d0, hd, seqR_exit', outs_normal]
  exact exF2 rfl (.inl rfl)
 | succ k ih =>
  intro i j8 j10 j11 j12 j13 j14 j15 j16 j17 j18 j19 j20 j21 j22 j23 j24 j25 j26 j27 j28 j29 j30 j31 j32 j33 j34 j35 j36 j37 j38 hi
  have d0 : decide ((i : Int) ≥ 0) = true := decide_eq_true (by omega)
  by_cases hlt : i < L.length
  ·have hd : decide ((i : Int) < (L.length : Int)) = true := decide_eq_true (by omega)
   have e2 : IntKind.i64.wrap ((i : Int) + 1) = ((i + 1 : Nat) : Int) := by rw [wrap64 (by omega) (by omega)]; omega
   have hx := List.getElem?_eq_getElem hlt
   have ft := fits_get fi hx
   rw [List.drop_eq_getElem_cons hlt]
   generalize L[i] = s at *
   obtain ⟨K0, hK0⟩ : ∃ K0, K0 = H ++ [ABlk.rw [.int .i64 0, .bool false]] := ⟨_, rfl⟩
   have A : Adds H K0 := ⟨_, hK0⟩
   obtain ⟨bb, cs, vc, vt, sb, ix, hc0, h1, h2, h3, ht, hle, hbs, hip⟩ := g.idx hx
   have hc := A.cells hc0
   have lt := ft.lt
   have ef := rfindC (hip.adds A) (by omega) b
   have b0 : K0[H.length]? = some (.rw [.int .i64 0, .bool false]) := by rw [hK0]; simp
   have key := ih (i + 1)
   rw [← hK0] at key ⊢
   rw [holdF]
   by_cases h : 0 ≤ idxS s.tb b
   ·rw [if_pos h]
    obtain ⟨n, hn⟩ : ∃ n : Nat, idxS s.tb b = n := ⟨(idxS s.tb b).toNat, by omega⟩
    have hnl : n < s.tb.length := by rcases idxS_rng s.tb b with q | ⟨q1, q2⟩ <;> omega
    have hxn := List.getElem?_eq_getElem hnl
    have fe : fnd s.tb b = (s.tb[n]).2 := by unfold fnd; rw [hn, if_pos (by omega), Int.toNat_natCast, hxn]; rfl
    rw [fe]
    rw [hn] at ef
    generalize s.tb[n] = p at *
    obtain ⟨b2, cs2, _, ix2, hc2, _, r2, _, _⟩ := (hip.adds A).idx hxn
    have dg : decide ((n : Int) ≥ 0) = true := decide_eq_true (by omega)
    have wr : writeN K0 H.length 0 [.int .i64 p.2, .bool true] = some (H ++ [ABlk.rw [.int .i64 p.2, .bool true]]) := by
     rw [hK0, write_zero, if_pos ⟨by simp, rfl⟩]; rfl
    rw [lo]
    unfold l13x0
    simp -implicitDefEqProofs (maxSteps := 5000000) only [go_sem, Nat.reduceShiftRight, Nat.reduceAnd, Nat.reduceBNe, Int.reduceEq, Nat.reduceAdd, Nat.reduceSub, Nat.reduceMul, Nat.reduceLeDiff, reduceIte, reduceCtorEq, Nat.reduceBEq, Nat.reduceEqDiff, wrap64, runC_loop, runC_range, callF_fn, callV_fn, callV_yld, yield_eq, yieldBody, yieldRaw, roundMid, roundEnd, rangeEnd, Bool.not_not, put_cons, put_nil, trim_same, at_zero, at_add, set_zero, set_add, store_one, write_zero, write_add, write_head, write_succ, splice_one, splice_more, List.drop_nil, List.take_nil, cell_int, cell_bool, fillS, splice_one, idxA, Ex.isNormal, List.set_nil, List.length_set, List.all_cons, List.all_nil, Bool.and_self, and_self, true_and, and_true, List.getElem?_nil, Int.reduceLT, Int.reduceLE, Int.reduceToNat, Int.toNat_zero, Int.toNat_one, Int.reduceAdd, Int.reduceSub, Int.reduceMul, Int.reduceNeg, Int.reduceBEq, Int.reduceBNe, Int.reduceGE, Int.reduceGT, Nat.reduceLT, trim_keep, under_fn, under_ptr, under_sl, Nat.lt_irrefl, not_lt_add, trim_tail, keepOk, ABlk.vals, Int.cast_ofNat_Int, decide_true, decide_false, List.all_cons, List.all_nil, Nat.zero_mul, Nat.mul_one, Nat.one_mul, wl, d0, hd, ix, hc, h3, ef, dg, ix2, hc2, r2, cellsA_agg, wr, seqR_ret, outs_normal]
    exact exF2 rfl (.inr trivial)
   ·rw [if_neg h]
    have hn : idxS s.tb b = -1 := by rcases idxS_rng s.tb b with q | ⟨q1, q2⟩ <;> omega
    rw [hn] at ef
    have dg : decide ((-1 : Int) ≥ 0) = false := rfl
    rw [lo]
    unfold l13x0
    simp -implicitDefEqProofs (maxSteps := 5000000) only [go_sem, Nat.reduceShiftRight, Nat.reduceAnd, Nat.reduceBNe, Int.reduceEq, Nat.reduceAdd, Nat.reduceSub, Nat.reduceMul, Nat.reduceLeDiff, reduceIte, reduceCtorEq, Nat.reduceBEq, Nat.reduceEqDiff, wrap64, runC_loop, runC_range, callF_fn, callV_fn, callV_yld, yield_eq, yieldBody, yieldRaw, roundMid, roundEnd, rangeEnd, Bool.not_not, put_cons, put_nil, trim_same, at_zero, at_add, set_zero, set_add, store_one, write_zero, write_add, write_head, write_succ, splice_one, splice_more, List.drop_nil, List.take_nil, cell_int, cell_bool, fillS, splice_one, idxA, Ex.isNormal, List.set_nil, List.length_set, List.all_cons, List.all_nil, Bool.and_self, and_self, true_and, and_true, List.getElem?_nil, Int.reduceLT, Int.reduceLE, Int.reduceToNat, Int.toNat_zero, Int.toNat_one, Int.reduceAdd, Int.reduceSub, Int.reduceMul, Int.reduceNeg, Int.reduceBEq, Int.reduceBNe, Int.reduceGE, Int.reduceGT, Nat.reduceLT, trim_keep, under_fn, under_ptr, under_sl, Nat.lt_irrefl, not_lt_add, trim_tail, keepOk, ABlk.vals, Int.cast_ofNat_Int, decide_true, decide_false, List.all_cons, List.all_nil, Nat.zero_mul, Nat.mul_one, Nat.one_mul, wl, d0, hd, ix, hc, h3, ef, dg, e2]
    exact key _ _ _ _ _ _ _ _ _ _ _ _ _ _ _ _ _ _ _ _ _ _ _ _ _ _ _ _ _ _ (by omega)
  ·have hd : decide ((i : Int) < (L.length : Int)) = false := decide_eq_false (by omega)
   rw [List.drop_eq_nil_of_le (by omega), lo]
   unfold l13x0
   simp -implicitDefEqProofs (maxSteps := 5000000) only [go_sem, Nat.reduceShiftRight, Nat.reduceAnd, Nat.reduceBNe, Int.reduceEq, Nat.reduceAdd, Nat.reduceSub, Nat.reduceMul, Nat.reduceLeDiff, reduceIte, reduceCtorEq, Nat.reduceBEq, Nat.reduceEqDiff, wrap64, runC_loop, runC_range, callF_fn, callV_fn, callV_yld, yield_eq, yieldBody, yieldRaw, roundMid, roundEnd, rangeEnd, Bool.not_not, put_cons, put_nil, trim_same, at_zero, at_add, set_zero, set_add, store_one, write_zero, write_add, write_head, write_succ, splice_one, splice_more, List.drop_nil, List.take_nil, cell_int, cell_bool, fillS, splice_one, idxA, Ex.isNormal, List.set_nil, List.length_set, List.all_cons, List.all_nil, Bool.and_self, and_self, true_and, and_true, List.getElem?_nil, Int.reduceLT, Int.reduceLE, Int.reduceToNat, Int.toNat_zero, Int.toNat_one, Int.reduceAdd, Int.reduceSub, Int.reduceMul, Int.reduceNeg, Int.reduceBEq, Int.reduceBNe, Int.reduceGE, Int.reduceGT, Nat.reduceLT, trim_keep, under_fn, under_ptr, under_sl, Nat.lt_irrefl, not_lt_add, trim_tail, keepOk, ABlk.vals, Int.cast_ofNat_Int, decide_true, decide_false, List.all_cons, List.all_nil, Nat.zero_mul, Nat.mul_one, Nat.one_mul, wl, d0, hd, seqR_exit', outs_normal]
   exact exF2 rfl (.inl rfl)
set_option maxHeartbeats 4000000 in
theorem rholderC (i b : Int) : (envL prog).call 13 [v, .int .i64 i, .int .i64 b] H = some (.agg [.int .i64 (holdS L i b).1, .bool (holdS L i b).2], H) := by
 have aK : ∀ X, Adds H (H ++ [ABlk.rw X]) := fun X => ⟨_, rfl⟩
 have key : Outs (runC (envL prog) (b13 (envL prog)) ([v, .int .i64 i, .int .i64 b] ++ List.replicate (40 - [v, AV.int .i64 i, .int .i64 b].length) .undef) H) fun e' t K => Adds H K ∧ fin [.cell 6 2 true] (some (e', t, K)) = some (.agg [.int .i64 (holdS L i b).1, .bool (holdS L i b).2], K) := by
  unfold b13
  generalize hQ : (fun (e' : Ex) (t : T) (K : AHeap) => Adds H K ∧ fin [.cell 6 2 true] (some (e', t, K)) = some (AV.agg [.int .i64 (holdS L i b).1, .bool (holdS L i b).2], K)) = Q
  have wr : writeN (H ++ [ABlk.rw [AV.int .i64 0, .bool false]]) H.length 0 [.int .i64 0, .bool false] = some (H ++ [ABlk.rw [.int .i64 0, .bool false]]) := by
   rw [write_zero, if_pos ⟨by simp, rfl⟩]; rfl
  have cz : ∀ a b, cellsOf (H ++ [ABlk.rw [AV.int .i64 a, .bool b]]) H.length = some [.int .i64 a, .bool b] := fun a b => by unfold cellsOf; simp
  by_cases h0 : i < 0
  ·have hs : holdS L i b = (0, false) := by unfold holdS; rw [if_pos h0]
   have d0 : decide (i ≥ 0) = false := decide_eq_false (by omega)
   unfold l13x0
   simp -implicitDefEqProofs (maxSteps := 5000000) only [go_sem, Nat.reduceShiftRight, Nat.reduceAnd, Nat.reduceBNe, Int.reduceEq, Nat.reduceAdd, Nat.reduceSub, Nat.reduceMul, Nat.reduceLeDiff, reduceIte, reduceCtorEq, Nat.reduceBEq, Nat.reduceEqDiff, wrap64, runC_loop, runC_range, callF_fn, callV_fn, callV_yld, yield_eq, yieldBody, yieldRaw, roundMid, roundEnd, rangeEnd, Bool.not_not, put_cons, put_nil, trim_same, at_zero, at_add, set_zero, set_add, store_one, write_zero, write_add, write_head, write_succ, splice_one, splice_more, List.drop_nil, List.take_nil, cell_int, cell_bool, fillS, splice_one, idxA, Ex.isNormal, List.set_nil, List.length_set, List.all_cons, List.all_nil, Bool.and_self, and_self, true_and, and_true, List.getElem?_nil, Int.reduceLT, Int.reduceLE, Int.reduceToNat, Int.toNat_zero, Int.toNat_one, Int.reduceAdd, Int.reduceSub, Int.reduceMul, Int.reduceNeg, Int.reduceBEq, Int.reduceBNe, Int.reduceGE, Int.reduceGT, Nat.reduceLT, trim_keep, under_fn, under_ptr, under_sl, Nat.lt_irrefl, not_lt_add, trim_tail, keepOk, ABlk.vals, Int.cast_ofNat_Int, decide_true, decide_false, List.all_cons, List.all_nil, Nat.zero_mul, Nat.mul_one, Nat.one_mul, runC_loop, loop_run, d0, seqR_exit', cellsA_agg, wr, outs_normal]
   subst hQ
   rw [hs]
   refine ⟨aK _, ?_⟩
   simp -implicitDefEqProofs (maxSteps := 5000000) only [go_sem, Nat.reduceShiftRight, Nat.reduceAnd, Nat.reduceBNe, Int.reduceEq, Nat.reduceAdd, Nat.reduceSub, Nat.reduceMul, Nat.reduceLeDiff, reduceIte, reduceCtorEq, Nat.reduceBEq, Nat.reduceEqDiff, wrap64, runC_loop, runC_range, callF_fn, callV_fn, callV_yld, yield_eq, yieldBody, yieldRaw, roundMid, roundEnd, rangeEnd, Bool.not_not, put_cons, put_nil, trim_same, at_zero, at_add, set_zero, set_add, store_one, write_zero, write_add, write_head, write_succ, splice_one, splice_more, List.drop_nil, List.take_nil, cell_int, cell_bool, fillS, splice_one, idxA, Ex.isNormal, List.set_nil, List.length_set, List.all_cons, List.all_nil, Bool.and_self, and_self, true_and, and_true, List.getElem?_nil, Int.reduceLT, Int.reduceLE, Int.reduceToNat, Int.toNat_zero, Int.toNat_one, Int.reduceAdd, Int.reduceSub, Int.reduceMul, Int.reduceNeg, Int.reduceBEq, Int.reduceBNe, Int.reduceGE, Int.reduceGT, Nat.reduceLT, trim_keep, under_fn, under_ptr, under_sl, Nat.lt_irrefl, not_lt_add, trim_tail, keepOk, ABlk.vals, Int.cast_ofNat_Int, decide_true, decide_false, List.all_cons, List.all_nil, Nat.zero_mul, Nat.mul_one, Nat.one_mul, cz]
  ·obtain ⟨n, rfl⟩ : ∃ n : Nat, i = n := ⟨i.toNat, by omega⟩
   have hs : holdS L (n : Int) b = holdF b (L.drop n) := by unfold holdS; rw [if_neg (by omega), Int.toNat_natCast]
   have l0 := rholL g fi b (k := L.length - n) (i := n)
   simp -implicitDefEqProofs (maxSteps := 5000000) only [go_sem, Nat.reduceShiftRight, Nat.reduceAnd, Nat.reduceBNe, Int.reduceEq, Nat.reduceAdd, Nat.reduceSub, Nat.reduceMul, Nat.reduceLeDiff, reduceIte, reduceCtorEq, Nat.reduceBEq, Nat.reduceEqDiff, wrap64, runC_loop, runC_range, callF_fn, callV_fn, callV_yld, yield_eq, yieldBody, yieldRaw, roundMid, roundEnd, rangeEnd, Bool.not_not, put_cons, put_nil, trim_same, at_zero, at_add, set_zero, set_add, store_one, write_zero, write_add, write_head, write_succ, splice_one, splice_more, List.drop_nil, List.take_nil, cell_int, cell_bool, fillS, splice_one, idxA, Ex.isNormal, List.set_nil, List.length_set, List.all_cons, List.all_nil, Bool.and_self, and_self, true_and, and_true, List.getElem?_nil, Int.reduceLT, Int.reduceLE, Int.reduceToNat, Int.toNat_zero, Int.toNat_one, Int.reduceAdd, Int.reduceSub, Int.reduceMul, Int.reduceNeg, Int.reduceBEq, Int.reduceBNe, Int.reduceGE, Int.reduceGT, Nat.reduceLT, trim_keep, under_fn, under_ptr, under_sl, Nat.lt_irrefl, not_lt_add, trim_tail, keepOk, ABlk.vals, Int.cast_ofNat_Int, decide_true, decide_false, List.all_cons, List.all_nil, Nat.zero_mul, Nat.mul_one, Nat.one_mul, runC_loop]
   unfold LP1 at l0
   generalize (envL prog).loop (runC (envL prog) (l13x0 (envL prog))) = L0 at l0 ⊢
   refine outs_ctx (fun r => seqR (blockR 0 r) _) (l0 _ _ _ _ _ _ _ _ _ _ _ _ _ _ _ _ _ _ _ _ _ _ _ _ _ _ _ _ _ _ _ _ _ _ _ _ (by omega)) ?_
   rintro e t K ⟨fv, rfl, ⟨rfl, rfl, ho⟩ | ⟨rfl, rfl⟩⟩
   ·simp -implicitDefEqProofs (maxSteps := 5000000) only [go_sem, Nat.reduceShiftRight, Nat.reduceAnd, Nat.reduceBNe, Int.reduceEq, Nat.reduceAdd, Nat.reduceSub, Nat.reduceMul, Nat.reduceLeDiff, reduceIte, reduceCtorEq, Nat.reduceBEq, Nat.reduceEqDiff, wrap64, runC_loop, runC_range, callF_fn, callV_fn, callV_yld, yield_eq, yieldBody, yieldRaw, roundMid, roundEnd, rangeEnd, Bool.not_not, put_cons, put_nil, trim_same, at_zero, at_add, set_zero, set_add, store_one, write_zero, write_add, write_head, write_succ, splice_one, splice_more, List.drop_nil, List.take_nil, cell_int, cell_bool, fillS, splice_one, idxA, Ex.isNormal, List.set_nil, List.length_set, List.all_cons, List.all_nil, Bool.and_self, and_self, true_and, and_true, List.getElem?_nil, Int.reduceLT, Int.reduceLE, Int.reduceToNat, Int.toNat_zero, Int.toNat_one, Int.reduceAdd, Int.reduceSub, Int.reduceMul, Int.reduceNeg, Int.reduceBEq, Int.reduceBNe, Int.reduceGE, Int.reduceGT, Nat.reduceLT, trim_keep, under_fn, under_ptr, under_sl, Nat.lt_irrefl, not_lt_add, trim_tail, keepOk, ABlk.vals, Int.cast_ofNat_Int, decide_true, decide_false, List.all_cons, List.all_nil, Nat.zero_mul, Nat.mul_one, Nat.one_mul, cellsA_agg, wr, outs_normal]
    subst hQ
    rw [hs, ho]
    refine ⟨aK _, ?_⟩
    simp -implicitDefEqProofs (maxSteps := 5000000) only [go_sem, Nat.reduceShiftRight, Nat.reduceAnd, Nat.reduceBNe, Int.reduceEq, Nat.reduceAdd, Nat.reduceSub, Nat.reduceMul, Nat.reduceLeDiff, reduceIte, reduceCtorEq, Nat.reduceBEq, Nat.reduceEqDiff, wrap64, runC_loop, runC_range, callF_fn, callV_fn, callV_yld, yield_eq, yieldBody, yieldRaw, roundMid, roundEnd, rangeEnd, Bool.not_not, put_cons, put_nil, trim_same, at_zero, at_add, set_zero, set_add, store_one, write_zero, write_add, write_head, write_succ, splice_one, splice_more, List.drop_nil, List.take_nil, cell_int, cell_bool, fillS, splice_one, idxA, Ex.isNormal, List.set_nil, List.length_set, List.all_cons, List.all_nil, Bool.and_self, and_self, true_and, and_true, List.getElem?_nil, Int.reduceLT, Int.reduceLE, Int.reduceToNat, Int.toNat_zero, Int.toNat_one, Int.reduceAdd, Int.reduceSub, Int.reduceMul, Int.reduceNeg, Int.reduceBEq, Int.reduceBNe, Int.reduceGE, Int.reduceGT, Nat.reduceLT, trim_keep, under_fn, under_ptr, under_sl, Nat.lt_irrefl, not_lt_add, trim_tail, keepOk, ABlk.vals, Int.cast_ofNat_Int, decide_true, decide_false, List.all_cons, List.all_nil, Nat.zero_mul, Nat.mul_one, Nat.one_mul, cz]
   ·simp -implicitDefEqProofs (maxSteps := 5000000) only [go_sem, Nat.reduceShiftRight, Nat.reduceAnd, Nat.reduceBNe, Int.reduceEq, Nat.reduceAdd, Nat.reduceSub, Nat.reduceMul, Nat.reduceLeDiff, reduceIte, reduceCtorEq, Nat.reduceBEq, Nat.reduceEqDiff, outs_normal]
    subst hQ
    rw [hs]
    refine ⟨aK _, ?_⟩
    simp -implicitDefEqProofs (maxSteps := 5000000) only [go_sem, Nat.reduceShiftRight, Nat.reduceAnd, Nat.reduceBNe, Int.reduceEq, Nat.reduceAdd, Nat.reduceSub, Nat.reduceMul, Nat.reduceLeDiff, reduceIte, reduceCtorEq, Nat.reduceBEq, Nat.reduceEqDiff, wrap64, runC_loop, runC_range, callF_fn, callV_fn, callV_yld, yield_eq, yieldBody, yieldRaw, roundMid, roundEnd, rangeEnd, Bool.not_not, put_cons, put_nil, trim_same, at_zero, at_add, set_zero, set_add, store_one, write_zero, write_add, write_head, write_succ, splice_one, splice_more, List.drop_nil, List.take_nil, cell_int, cell_bool, fillS, splice_one, idxA, Ex.isNormal, List.set_nil, List.length_set, List.all_cons, List.all_nil, Bool.and_self, and_self, true_and, and_true, List.getElem?_nil, Int.reduceLT, Int.reduceLE, Int.reduceToNat, Int.toNat_zero, Int.toNat_one, Int.reduceAdd, Int.reduceSub, Int.reduceMul, Int.reduceNeg, Int.reduceBEq, Int.reduceBNe, Int.reduceGE, Int.reduceGT, Nat.reduceLT, trim_keep, under_fn, under_ptr, under_sl, Nat.lt_irrefl, not_lt_add, trim_tail, keepOk, ABlk.vals, Int.cast_ofNat_Int, decide_true, decide_false, List.all_cons, List.all_nil, Nat.zero_mul, Nat.mul_one, Nat.one_mul, cz]
 obtain ⟨e', t, K, hr, a, hf⟩ := key
 rw [c13, hr, hf]
 exact a.trimS rfl
set_option maxHeartbeats 4000000 in
theorem rchgL (i j : Int) (x3 x4 x5 x6 x30 : AV) : ∀ (m k : Nat) (K : AHeap) (w : AV) (acc : List Int) (j9 j10 j11 j12 j13 j14 j15 j16 j17 j18 j19 j20 j21 j22 j23 j24 j25 j26 j27 j28 j29 : AV), Adds H K → BS K w acc → (∀ b, slb w = some b → H.length ≤ b) → acc.length ≤ 1000 → k + m = L.length →
  Outs (LP1 l20x0 [v, .int .i64 i, .int .i64 j, x3, x4, x5, x6, w, .int .i64 (k : Int), j9, j10, j11, j12, j13, j14, j15, j16, j17, j18, j19, j20, j21, j22, j23, j24, j25, j26, j27, j28, j29, x30] K) fun e t K' => e = .exit 0 ∧ Adds H K' ∧ ∃ fv : Nat → AV, t = [v, .int .i64 i, .int .i64 j, x3, x4, x5, x6, (fv 7), (fv 8), (fv 9), (fv 10), (fv 11), (fv 12), (fv 13), (fv 14), (fv 15), (fv 16), (fv 17), (fv 18), (fv 19), (fv 20), (fv 21), (fv 22), (fv 23), (fv 24), (fv 25), (fv 26), (fv 27), (fv 28), (fv 29), x30] ∧ BS K' (fv 7) (rchgF i j (L.drop k) k acc) ∧ (∀ b, slb (fv 7) = some b → H.length ≤ b) := by
 intro m
 obtain ⟨L0, hL0⟩ : ∃ L, L = LP1 l20x0 := ⟨_, rfl⟩
 have lo := loop_open hL0
 have fl := fi.1
 have wl := g.len
 rw [← hL0]
 induction m with
 | zero =>
  intro k K w acc j9 j10 j11 j12 j13 j14 j15 j16 j17 j18 j19 j20 j21 j22 j23 j24 j25 j26 j27 j28 j29 aK bw hg al hk
  obtain rfl : k = L.length := by omega
  have hd : decide ((L.length : Int) < (L.length : Int)) = false := by simp
  rw [List.drop_length, lo]
  unfold l20x0
  simp -implicitDefEqProofs (maxSteps := 5000000) only [go_sem, Nat.reduceShiftRight, Nat.reduceAnd, Nat.reduceBNe, Int.reduceEq, Nat.reduceAdd, Nat.reduceSub, Nat.reduceMul, Nat.reduceLeDiff, reduceIte, reduceCtorEq, Nat.reduceBEq, Nat.reduceEqDiff, wl, hd, seqR_exit', outs_normal]
  exact ⟨aK, exF2 rfl ⟨bw, hg⟩⟩
 | succ m ih =>
  intro k K w acc j9 j10 j11 j12 j13 j14 j15 j16 j17 j18 j19 j20 j21 j22 j23 j24 j25 j26 j27 j28 j29 aK bw hg al hk
  have hlt : k < L.length := by omega
  have hd : decide ((k : Int) < (L.length : Int)) = true := decide_eq_true (by omega)
  have e2 : IntKind.i64.wrap ((k : Int) + 1) = ((k + 1 : Nat) : Int) := by rw [wrap64 (by omega) (by omega)]; omega
  have hx := List.getElem?_eq_getElem hlt
  have ft := fits_get fi hx
  have lc := ft.lc
  rw [List.drop_eq_getElem_cons hlt, rchgF]
  generalize L[k] = s at *
  obtain ⟨bb, cs, vc, vt, sb, ix, hc0, h1, h2, h3, ht, hle, hbs, hip⟩ := g.idx hx
  have hc := aK.cells hc0
  by_cases h : i ≤ (k : Int)
  ·have d1 : decide ((k : Int) ≥ i) = true := decide_eq_true h
   by_cases h' : (k : Int) < j
   ·have d2 := decide_eq_true h'
    rw [if_pos ⟨h, h'⟩]
    obtain ⟨w', G, ow, eo⟩ := Bt.orR bw (aK.bs hbs) (by omega) (by omega)
    have wg := own_ge ow
    have key := ih (k + 1) (K ++ G) w' (Bt.orS acc s.ch)
    rw [lo]
    unfold l20x0
    simp -implicitDefEqProofs (maxSteps := 5000000) only [go_sem, Nat.reduceShiftRight, Nat.reduceAnd, Nat.reduceBNe, Int.reduceEq, Nat.reduceAdd, Nat.reduceSub, Nat.reduceMul, Nat.reduceLeDiff, reduceIte, reduceCtorEq, Nat.reduceBEq, Nat.reduceEqDiff, wrap64, runC_loop, runC_range, callF_fn, callV_fn, callV_yld, yield_eq, yieldBody, yieldRaw, roundMid, roundEnd, rangeEnd, Bool.not_not, put_cons, put_nil, trim_same, at_zero, at_add, set_zero, set_add, store_one, write_zero, write_add, write_head, write_succ, splice_one, splice_more, List.drop_nil, List.take_nil, cell_int, cell_bool, fillS, splice_one, idxA, Ex.isNormal, List.set_nil, List.length_set, List.all_cons, List.all_nil, Bool.and_self, and_self, true_and, and_true, List.getElem?_nil, Int.reduceLT, Int.reduceLE, Int.reduceToNat, Int.toNat_zero, Int.toNat_one, Int.reduceAdd, Int.reduceSub, Int.reduceMul, Int.reduceNeg, Int.reduceBEq, Int.reduceBNe, Int.reduceGE, Int.reduceGT, Nat.reduceLT, trim_keep, under_fn, under_ptr, under_sl, Nat.lt_irrefl, not_lt_add, trim_tail, keepOk, ABlk.vals, Int.cast_ofNat_Int, decide_true, decide_false, List.all_cons, List.all_nil, Nat.zero_mul, Nat.mul_one, Nat.one_mul, wl, hd, d1, d2, ix, hc, h2, eo, e2]
    exact key _ _ _ _ _ _ _ _ _ _ _ _ _ _ _ _ _ _ _ _ _ (aK.trans ⟨_, rfl⟩) ow.bs (fun b hb => by have := wg b hb; have := aK.len; omega) (orS_le al lc) (by omega)
   ·have d2 := decide_eq_false h'
    rw [if_neg (by omega)]
    have key := ih (k + 1) K w acc
    rw [lo]
    unfold l20x0
    simp -implicitDefEqProofs (maxSteps := 5000000) only [go_sem, Nat.reduceShiftRight, Nat.reduceAnd, Nat.reduceBNe, Int.reduceEq, Nat.reduceAdd, Nat.reduceSub, Nat.reduceMul, Nat.reduceLeDiff, reduceIte, reduceCtorEq, Nat.reduceBEq, Nat.reduceEqDiff, wrap64, runC_loop, runC_range, callF_fn, callV_fn, callV_yld, yield_eq, yieldBody, yieldRaw, roundMid, roundEnd, rangeEnd, Bool.not_not, put_cons, put_nil, trim_same, at_zero, at_add, set_zero, set_add, store_one, write_zero, write_add, write_head, write_succ, splice_one, splice_more, List.drop_nil, List.take_nil, cell_int, cell_bool, fillS, splice_one, idxA, Ex.isNormal, List.set_nil, List.length_set, List.all_cons, List.all_nil, Bool.and_self, and_self, true_and, and_true, List.getElem?_nil, Int.reduceLT, Int.reduceLE, Int.reduceToNat, Int.toNat_zero, Int.toNat_one, Int.reduceAdd, Int.reduceSub, Int.reduceMul, Int.reduceNeg, Int.reduceBEq, Int.reduceBNe, Int.reduceGE, Int.reduceGT, Nat.reduceLT, trim_keep, under_fn, under_ptr, under_sl, Nat.lt_irrefl, not_lt_add, trim_tail, keepOk, ABlk.vals, Int.cast_ofNat_Int, decide_true, decide_false, List.all_cons, List.all_nil, Nat.zero_mul, Nat.mul_one, Nat.one_mul, wl, hd, d1, d2, e2]
    exact key _ _ _ _ _ _ _ _ _ _ _ _ _ _ _ _ _ _ _ _ _ aK bw hg al (by omega)
  ·have d1 : decide ((k : Int) ≥ i) = false := decide_eq_false h
   rw [if_neg (by omega)]
   have key := ih (k + 1) K w acc
   rw [lo]
   unfold l20x0
   simp -implicitDefEqProofs (maxSteps := 5000000) only [go_sem, Nat.reduceShiftRight, Nat.reduceAnd, Nat.reduceBNe, Int.reduceEq, Nat.reduceAdd, Nat.reduceSub, Nat.reduceMul, Nat.reduceLeDiff, reduceIte, reduceCtorEq, Nat.reduceBEq, Nat.reduceEqDiff, wrap64, runC_loop, runC_range, callF_fn, callV_fn, callV_yld, yield_eq, yieldBody, yieldRaw, roundMid, roundEnd, rangeEnd, Bool.not_not, put_cons, put_nil, trim_same, at_zero, at_add, set_zero, set_add, store_one, write_zero, write_add, write_head, write_succ, splice_one, splice_more, List.drop_nil, List.take_nil, cell_int, cell_bool, fillS, splice_one, idxA, Ex.isNormal, List.set_nil, List.length_set, List.all_cons, List.all_nil, Bool.and_self, and_self, true_and, and_true, List.getElem?_nil, Int.reduceLT, Int.reduceLE, Int.reduceToNat, Int.toNat_zero, Int.toNat_one, Int.reduceAdd, Int.reduceSub, Int.reduceMul, Int.reduceNeg, Int.reduceBEq, Int.reduceBNe, Int.reduceGE, Int.reduceGT, Nat.reduceLT, trim_keep, under_fn, under_ptr, under_sl, Nat.lt_irrefl, not_lt_add, trim_tail, keepOk, ABlk.vals, Int.cast_ofNat_Int, decide_true, decide_false, List.all_cons, List.all_nil, Nat.zero_mul, Nat.mul_one, Nat.one_mul, wl, hd, d1, e2]
   exact key _ _ _ _ _ _ _ _ _ _ _ _ _ _ _ _ _ _ _ _ _ aK bw hg al (by omega)
theorem rchangedC (i j : Int) : ∃ w K, (envL prog).call 20 [v, .int .i64 i, .int .i64 j] H = some (w, K) ∧ Adds H K ∧ BS K w (chgS L i j) := by
 have l0 := rchgL g fi i j (m := L.length) (k := 0) (K := H) (w := .nilSl) (acc := [])
 rw [show ((0 : Nat) : Int) = 0 from rfl, List.drop_zero, rchg_eq] at l0
 have key : Outs (runC (envL prog) (b20 (envL prog)) ([v, .int .i64 i, .int .i64 j] ++ List.replicate (31 - [v, AV.int .i64 i, AV.int .i64 j].length) .undef) H) fun e' t K => ∃ w, Adds H K ∧ BS K w (chgS L i j) ∧ (∀ b, slb w = some b → H.length ≤ b) ∧ fin [.tmp 6] (some (e', t, K)) = some (w, K) := by
  unfold b20
  generalize hQ : (fun (e' : Ex) (t : T) (K : AHeap) => ∃ w, Adds H K ∧ BS K w (chgS L i j) ∧ (∀ b, slb w = some b → H.length ≤ b) ∧ fin [.tmp 6] (some (e', t, K)) = some (w, K)) = Q
  simp -implicitDefEqProofs (maxSteps := 5000000) only [go_sem, Nat.reduceShiftRight, Nat.reduceAnd, Nat.reduceBNe, Int.reduceEq, Nat.reduceAdd, Nat.reduceSub, Nat.reduceMul, Nat.reduceLeDiff, reduceIte, reduceCtorEq, Nat.reduceBEq, Nat.reduceEqDiff, wrap64, runC_loop, runC_range, callF_fn, callV_fn, callV_yld, yield_eq, yieldBody, yieldRaw, roundMid, roundEnd, rangeEnd, Bool.not_not, put_cons, put_nil, trim_same, at_zero, at_add, set_zero, set_add, store_one, write_zero, write_add, write_head, write_succ, splice_one, splice_more, List.drop_nil, List.take_nil, cell_int, cell_bool, fillS, splice_one, idxA, Ex.isNormal, List.set_nil, List.length_set, List.all_cons, List.all_nil, Bool.and_self, and_self, true_and, and_true, List.getElem?_nil, Int.reduceLT, Int.reduceLE, Int.reduceToNat, Int.toNat_zero, Int.toNat_one, Int.reduceAdd, Int.reduceSub, Int.reduceMul, Int.reduceNeg, Int.reduceBEq, Int.reduceBNe, Int.reduceGE, Int.reduceGT, Nat.reduceLT, trim_keep, under_fn, under_ptr, under_sl, Nat.lt_irrefl, not_lt_add, trim_tail, keepOk, ABlk.vals, Int.cast_ofNat_Int, decide_true, decide_false, List.all_cons, List.all_nil, Nat.zero_mul, Nat.mul_one, Nat.one_mul, runC_loop]
  unfold LP1 at l0
  generalize (envL prog).loop (runC (envL prog) (l20x0 (envL prog))) = L0 at l0 ⊢
  refine outs_ctx (fun r => seqR (blockR 0 r) _) (l0 _ _ _ _ _ _ _ _ _ _ _ _ _ _ _ _ _ _ _ _ _ _ _ _ _ _ (Adds.refl H) (.inl ⟨rfl, rfl⟩) (fun b h => by cases h) (by simp) (by omega)) ?_
  rintro e t K ⟨rfl, aK, fv, rfl, bw, hg⟩
  simp -implicitDefEqProofs (maxSteps := 5000000) only [go_sem, Nat.reduceShiftRight, Nat.reduceAnd, Nat.reduceBNe, Int.reduceEq, Nat.reduceAdd, Nat.reduceSub, Nat.reduceMul, Nat.reduceLeDiff, reduceIte, reduceCtorEq, Nat.reduceBEq, Nat.reduceEqDiff, outs_normal]
  subst hQ
  refine ⟨fv 7, aK, bw, hg, ?_⟩
  simp -implicitDefEqProofs (maxSteps := 5000000) only [go_sem, Nat.reduceShiftRight, Nat.reduceAnd, Nat.reduceBNe, Int.reduceEq, Nat.reduceAdd, Nat.reduceSub, Nat.reduceMul, Nat.reduceLeDiff, reduceIte, reduceCtorEq, Nat.reduceBEq, Nat.reduceEqDiff]
 obtain ⟨e', t, K, hr, w, aK, bs, wb, hf⟩ := key
 obtain ⟨K', e, a, b⟩ := bs_end aK bs wb
 exact ⟨w, K', by rw [c20, hr, hf]; exact e, a, b⟩
end
end Go.Proofs.Ythhodjcgcgkaaaa.G11
end
section
namespace Go.Proofs.Ythhodjcgcgkaaaa.G11
open Go Go.Proofs.Ythhodjcgcgkaaaa.Eng
theorem sub_len : ∀ {B A : List Int}, A.Pairwise (· < ·) → B.Pairwise (· < ·) → (∀ x ∈ A, x ∈ B) → A.length ≤ B.length ∧ (A.length = B.length → A = B)
 | [], A, _, _, h => by
  cases A with
  | nil => exact ⟨Nat.le_refl _, fun _ => rfl⟩
  | cons a A => exact absurd (h a (by simp)) (by simp)
 | b :: B, [], _, _, _ => ⟨by simp, fun h => by simp at h⟩
 | b :: B, a :: A, ha, hb, h => by
  obtain ⟨a1, a2⟩ := List.pairwise_cons.1 ha
  obtain ⟨b1, b2⟩ := List.pairwise_cons.1 hb
  rcases List.mem_cons.1 (h a (by simp)) with rfl | hab
  ·have ih := sub_len a2 b2 fun x hx => by
    rcases List.mem_cons.1 (h x (by simp [hx])) with rfl | q
    ·exact absurd (a1 _ hx) (by omega)
    ·exact q
   exact ⟨by simp only [List.length_cons]; omega, fun e => by rw [ih.2 (by simpa using e)]⟩
  ·have lt := b1 a hab
   have ih := sub_len ha b2 fun x hx => by
    rcases List.mem_cons.1 (h x hx) with rfl | q
    ·rcases List.mem_cons.1 hx with rfl | hx
     ·exact hab
     ·exact absurd (a1 _ hx) (by omega)
    ·exact q
   exact ⟨by simp only [List.length_cons] at *; omega, fun e => by simp only [List.length_cons] at *; omega⟩
theorem allU_of {zs : List Int} : ∀ {i : Nat} {z : Int}, 0 ≤ z → z < i → Bt.hasS zs z = true → z ∈ Bt.allU zs i
 | 0, z, h0, h1, _ => by omega
 | i + 1, z, h0, h1, h => by
  simp only [Bt.allU]
  by_cases e : z = i
  ·subst e; rw [if_pos h]; simp
  ·have := allU_of (i := i) h0 (by omega) h
   split
   ·exact List.mem_append_left _ this
   ·exact this
theorem mem_allS {zs : List Int} {z : Int} : z ∈ Bt.allS zs ↔ Bt.hasS zs z = true := by
 constructor
 ·intro h; exact (Bt.allU_mem h).2.2
 ·intro h
  by_cases h0 : z < 0
  ·rw [Bt.hasS_neg _ h0] at h; cases h
  ·obtain ⟨n, rfl⟩ : ∃ n : Nat, z = n := ⟨z.toNat, by omega⟩
   by_cases hn : 8 * zs.length ≤ n
   ·rw [Bt.hasS_high hn] at h; cases h
   ·exact allU_of (by omega) (by omega) h
theorem full_iff {l : List PrS} {zs : List Int} (up : asc l) (hu : IsU8 zs) (hs : l.all (fun p => Bt.hasS zs p.1) = true) : ((l.length : Int) == Bt.sumO zs) = (Bt.allS zs).all (fun c => decide (0 ≤ idxS l c)) := by
 rw [Bt.count_all hu, Bool.eq_iff_iff, beq_iff_eq, List.all_eq_true]
 have sub : ∀ x ∈ l.map (·.1), x ∈ Bt.allS zs := fun x hx => by
  obtain ⟨p, hp, rfl⟩ := List.mem_map.1 hx
  exact mem_allS.2 (List.all_eq_true.1 hs p hp)
 have q := sub_len up (Bt.allU_sorted zs _) sub
 rw [List.length_map] at q
 constructor
 ·intro h c hc
  rw [decide_eq_true_eq, idx_has]
  have e := q.2 (by show _ = (Bt.allS zs).length; omega)
  have hc : c ∈ Bt.allU zs (8 * zs.length) := hc
  rw [← e] at hc
  obtain ⟨p, hp, rfl⟩ := List.mem_map.1 hc
  exact ⟨p, hp, rfl⟩
 ·intro h
  have q2 := sub_len (Bt.allU_sorted zs (8 * zs.length)) up fun x hx => by
   have := h x hx
   rw [decide_eq_true_eq, idx_has] at this
   obtain ⟨p, hp, rfl⟩ := this
   exact List.mem_map.2 ⟨p, hp, rfl⟩
  rw [List.length_map] at q2
  have : (Bt.allS zs).length = (Bt.allU zs (8 * zs.length)).length := rfl
  omega
theorem ats_iff : ∀ {l : List PrS} {ats : List Int}, (∀ p ∈ l, ∀ q ∈ l, p.2 = q.2 → p = q) → asc l → atsF l ats = l.all (fun p => !ats.contains p.2)
 | [], _, _, _ => rfl
 | p :: l, ats, inj, up => by
  obtain ⟨u1, u2⟩ := asc_cons.1 up
  rw [atsF, List.all_cons, ats_iff (fun x hx y hy => inj x (by simp [hx]) y (by simp [hy])) u2]
  congr 1
  rw [Bool.eq_iff_iff, List.all_eq_true, List.all_eq_true]
  have hn : ∀ q ∈ l, (ats ++ [p.2]).contains q.2 = ats.contains q.2 := fun q hq => by
   rw [Bool.eq_iff_iff, List.contains_iff_mem, List.contains_iff_mem, List.mem_append, List.mem_singleton]
   constructor
   ·rintro (h | h)
    ·exact h
    ·have := inj q (by simp [hq]) p (by simp) h
     have lt := u1 q hq
     rw [this] at lt; omega
   ·exact .inl
  constructor
  ·intro h q hq; rw [← hn q hq]; exact h q hq
  ·intro h q hq; rw [hn q hq]; exact h q hq
def rgoodF (bl ar : Int) : List SnS → Option Int → List Int → Bool
 | [], _, _ => true
 | s :: L, pv, ats => decide (1 ≤ s.id) && (decide (s.id ≤ 1000000) && (pvOk pv s.id && (Bt.goodS s.ch bl && (tgood s.tb bl ar && (s.tb.all (fun p => Bt.hasS s.ch p.1 && !ats.contains p.2) && ((L.isEmpty || (Bt.allS s.ch).all (fun c => decide (0 ≤ idxS s.tb c))) && rgoodF bl ar L (some s.id) (ats ++ s.tb.map (·.2))))))))
theorem rgood_eq (bl ar : Int) : ∀ (L : List SnS) (pv : Option Int) (ats : List Int), (∀ s ∈ L, IsU8 s.ch) → rgoodF bl ar L pv ats = cgoodF bl ar L pv ats
 | [], _, _, _ => rfl
 | s :: L, pv, ats, hu => by
  rw [rgoodF, cgoodF, oneS, rgood_eq bl ar L _ _ fun s hs => hu s (by simp [hs])]
  generalize cgoodF bl ar L (some s.id) (ats ++ s.tb.map (·.2)) = R
  generalize decide (1 ≤ s.id) = b1
  generalize decide (s.id ≤ 1000000) = b2
  generalize pvOk pv s.id = b3
  generalize Bt.goodS s.ch bl = b4
  rcases hg : tgood s.tb bl ar with _ | _
  ·cases b1 <;> cases b2 <;> cases b3 <;> cases b4 <;> rfl
  have G := good_iff.1 hg
  rw [ats_iff G.inj G.up]
  have e : s.tb.all (fun p => Bt.hasS s.ch p.1 && !ats.contains p.2) = (s.tb.all (fun p => Bt.hasS s.ch p.1) && s.tb.all (fun p => !ats.contains p.2)) := by
   induction s.tb with
   | nil => rfl
   | cons p l ih =>
    rw [List.all_cons, List.all_cons, List.all_cons, ih]
    cases Bt.hasS s.ch p.1 <;> cases ats.contains p.2 <;> cases l.all (fun p => Bt.hasS s.ch p.1) <;> rfl
  rw [e]
  rcases hh : s.tb.all (fun p => Bt.hasS s.ch p.1) with _ | _
  ·cases b1 <;> cases b2 <;> cases b3 <;> cases b4 <;> rfl
  rw [full_iff G.up (hu s (by simp)) hh]
  generalize s.tb.all (fun p => !ats.contains p.2) = b5
  generalize (Bt.allS s.ch).all (fun c => decide (0 ≤ idxS s.tb c)) = b6
  generalize L.isEmpty = b7
  cases b1 <;> cases b2 <;> cases b3 <;> cases b4 <;> cases b5 <;> cases b6 <;> cases b7 <;> rfl
end Go.Proofs.Ythhodjcgcgkaaaa.G11
end
section
namespace Go.Proofs.Ythhodjcgcgkaaaa.G11
open Go Go.Proofs.Ythhodjcgcgkaaaa.Eng
section
variable {K : AHeap} {B : Nat} {w : AV} {ats : List Int} (fs : FS K B w ats) (al : ats.length ≤ 100000) {s : SnS} {q : Nat} {vc vt : AV} (hq : cellsOf K q = some [.int .i64 s.id, vc, vt]) (bc : BS K vc s.ch) (pt : IsP K vt s.tb) (ft : s.Fit)
include fs al hq pt ft
set_option maxHeartbeats 4000000 in
theorem rgooL0 {k0 : Nat} {p : PrS} (hp : s.tb[k0]? = some p) (x0 x1 x2 x3 x4 x5 x8 x12 x13 x14 x15 x16 x17 x18 x19 x20 x21 x22 x23 x24 x25 x26 x27 x28 x29 x30 x31 x32 x33 x34 x35 x36 x37 x38 x39 x40 x41 x42 x43 x44 x45 x46 x47 x48 x49 x50 x51 x52 x53 x54 x55 x56 x57 x58 x59 x60 x61 x62 x63 x64 x65 x66 x67 x68 x69 x70 x71 x72 x73 x74 x75 x76 x77 x78 x79 x80 x81 x82 x100 x101 x102 x103 x104 x105 x106 x107 x108 x109 x110 x111 x112 x113 x114 x115 x116 x117 x118 x119 x120 x121 x122 x123 x124 x125 x126 x127 x128 x129 x130 x131 x132 x133 x134 x135 x136 x137 x138 x139 : AV) : ∀ (k j : Nat) (j83 j84 j85 j86 j87 j88 j89 j90 j91 j92 j93 j94 j95 j96 j97 j98 j99 : AV), j + k = ats.length →
  Outs (LP1 l15x0 [x0, x1, x2, x3, x4, x5, .bool false, w, x8, .ptr q 0, .int .i64 (k0 : Int), .int .i64 (j : Int), x12, x13, x14, x15, x16, x17, x18, x19, x20, x21, x22, x23, x24, x25, x26, x27, x28, x29, x30, x31, x32, x33, x34, x35, x36, x37, x38, x39, x40, x41, x42, x43, x44, x45, x46, x47, x48, x49, x50, x51, x52, x53, x54, x55, x56, x57, x58, x59, x60, x61, x62, x63, x64, x65, x66, x67, x68, x69, x70, x71, x72, x73, x74, x75, x76, x77, x78, x79, x80, x81, x82, j83, j84, j85, j86, j87, j88, j89, j90, j91, j92, j93, j94, j95, j96, j97, j98, j99, x100, x101, x102, x103, x104, x105, x106, x107, x108, x109, x110, x111, x112, x113, x114, x115, x116, x117, x118, x119, x120, x121, x122, x123, x124, x125, x126, x127, x128, x129, x130, x131, x132, x133, x134, x135, x136, x137, x138, x139] K) fun e t K' => K' = K ∧ ∃ fv : Nat → AV, t = [x0, x1, x2, x3, x4, x5, (fv 6), w, x8, .ptr q 0, .int .i64 (k0 : Int), (fv 11), x12, x13, x14, x15, x16, x17, x18, x19, x20, x21, x22, x23, x24, x25, x26, x27, x28, x29, x30, x31, x32, x33, x34, x35, x36, x37, x38, x39, x40, x41, x42, x43, x44, x45, x46, x47, x48, x49, x50, x51, x52, x53, x54, x55, x56, x57, x58, x59, x60, x61, x62, x63, x64, x65, x66, x67, x68, x69, x70, x71, x72, x73, x74, x75, x76, x77, x78, x79, x80, x81, x82, (fv 83), (fv 84), (fv 85), (fv 86), (fv 87), (fv 88), (fv 89), (fv 90), (fv 91), (fv 92), (fv 93), (fv 94), (fv 95), (fv 96), (fv 97), (fv 98), (fv 99), x100, x101, x102, x103, x104, x105, x106, x107, x108, x109, x110, x111, x112, x113, x114, x115, x116, x117, x118, x119, x120, x121, x122, x123, x124, x125, x126, x127, x128, x129, x130, x131, x132, x133, x134, x135, x136, x137, x138, x139] ∧ fv 6 = .bool false ∧ ((e = .exit 4 ∧ (ats.drop j).contains p.2 = false) ∨ (e = .ret ∧ (ats.drop j).contains p.2 = true)) := by
 intro k
 obtain ⟨L0, hL0⟩ : ∃ L, L = LP1 l15x0 := ⟨_, rfl⟩
 have lo := loop_open hL0
 have wl := fs.len
 rw [← hL0]
 induction k with
 | zero =>
  intro j j83 j84 j85 j86 j87 j88 j89 j90 j91 j92 j93 j94 j95 j96 j97 j98 j99 hj
  obtain rfl : j = ats.length := by omega
  have hd : decide ((ats.length : Int) < (ats.length : Int)) = false := by simp
  rw [List.drop_length, lo]
  unfold l15x0
  simp -implicitDefEqProofs (maxSteps := 5000000) only [go_sem, Nat.reduceShiftRight, Nat.reduceAnd, Nat.reduceBNe, Int.reduceEq, Nat.reduceAdd, Nat.reduceSub, Nat.reduceMul, Nat.reduceLeDiff, reduceIte, reduceCtorEq, Nat.reduceBEq, Nat.reduceEqDiff, wl, hd, seqR_exit', outs_normal]
  exact exF2 rfl ⟨rfl, .inl (by first | rfl | trivial)⟩
 | succ k ih =>
  intro j j83 j84 j85 j86 j87 j88 j89 j90 j91 j92 j93 j94 j95 j96 j97 j98 j99 hj
  have hlt : j < ats.length := by omega
  have hd : decide ((j : Int) < (ats.length : Int)) = true := decide_eq_true (by omega)
  have e2 : IntKind.i64.wrap ((j : Int) + 1) = ((j + 1 : Nat) : Int) := by rw [wrap64 (by omega) (by omega)]; omega
  have hx := List.getElem?_eq_getElem hlt
  rw [List.drop_eq_getElem_cons hlt, List.contains_cons]
  generalize ats[j] = a at *
  obtain ⟨b1, c1, _, ix, hc, h1, _⟩ := fs.read hx
  obtain ⟨b2, c2, _, ix2, hc2, _, r2, _, _⟩ := pt.idx hp
  rw [lo]
  unfold l15x0
  by_cases h : a = p.2
  ·have hb : (a == p.2) = true := by simp [h]
   have hb' : (p.2 == a) = true := by simp [h]
   simp -implicitDefEqProofs (maxSteps := 5000000) only [go_sem, Nat.reduceShiftRight, Nat.reduceAnd, Nat.reduceBNe, Int.reduceEq, Nat.reduceAdd, Nat.reduceSub, Nat.reduceMul, Nat.reduceLeDiff, reduceIte, reduceCtorEq, Nat.reduceBEq, Nat.reduceEqDiff, wrap64, runC_loop, runC_range, callF_fn, callV_fn, callV_yld, yield_eq, yieldBody, yieldRaw, roundMid, roundEnd, rangeEnd, Bool.not_not, put_cons, put_nil, trim_same, at_zero, at_add, set_zero, set_add, store_one, write_zero, write_add, write_head, write_succ, splice_one, splice_more, List.drop_nil, List.take_nil, cell_int, cell_bool, fillS, splice_one, idxA, Ex.isNormal, List.set_nil, List.length_set, List.all_cons, List.all_nil, Bool.and_self, and_self, true_and, and_true, List.getElem?_nil, Int.reduceLT, Int.reduceLE, Int.reduceToNat, Int.toNat_zero, Int.toNat_one, Int.reduceAdd, Int.reduceSub, Int.reduceMul, Int.reduceNeg, Int.reduceBEq, Int.reduceBNe, Int.reduceGE, Int.reduceGT, Nat.reduceLT, trim_keep, under_fn, under_ptr, under_sl, Nat.lt_irrefl, not_lt_add, trim_tail, keepOk, ABlk.vals, Int.cast_ofNat_Int, decide_true, decide_false, List.all_cons, List.all_nil, Nat.zero_mul, Nat.mul_one, Nat.one_mul, wl, hd, ix, hc, h1, hq, ix2, hc2, r2, hb, hb', seqR_ret, outs_normal]
   exact exF2 rfl ⟨rfl, .inr (by first | rfl | trivial)⟩
  ·have hb : (a == p.2) = false := by simp [h]
   have hb' : (p.2 == a) = false := by simp [Ne.symm h]
   simp -implicitDefEqProofs (maxSteps := 5000000) only [go_sem, Nat.reduceShiftRight, Nat.reduceAnd, Nat.reduceBNe, Int.reduceEq, Nat.reduceAdd, Nat.reduceSub, Nat.reduceMul, Nat.reduceLeDiff, reduceIte, reduceCtorEq, Nat.reduceBEq, Nat.reduceEqDiff, wrap64, runC_loop, runC_range, callF_fn, callV_fn, callV_yld, yield_eq, yieldBody, yieldRaw, roundMid, roundEnd, rangeEnd, Bool.not_not, put_cons, put_nil, trim_same, at_zero, at_add, set_zero, set_add, store_one, write_zero, write_add, write_head, write_succ, splice_one, splice_more, List.drop_nil, List.take_nil, cell_int, cell_bool, fillS, splice_one, idxA, Ex.isNormal, List.set_nil, List.length_set, List.all_cons, List.all_nil, Bool.and_self, and_self, true_and, and_true, List.getElem?_nil, Int.reduceLT, Int.reduceLE, Int.reduceToNat, Int.toNat_zero, Int.toNat_one, Int.reduceAdd, Int.reduceSub, Int.reduceMul, Int.reduceNeg, Int.reduceBEq, Int.reduceBNe, Int.reduceGE, Int.reduceGT, Nat.reduceLT, trim_keep, under_fn, under_ptr, under_sl, Nat.lt_irrefl, not_lt_add, trim_tail, keepOk, ABlk.vals, Int.cast_ofNat_Int, decide_true, decide_false, List.all_cons, List.all_nil, Nat.zero_mul, Nat.mul_one, Nat.one_mul, wl, hd, ix, hc, h1, hq, ix2, hc2, r2, hb, hb', e2]
   exact ih (j + 1) _ _ _ _ _ _ _ _ _ _ _ _ _ _ _ _ _ (by omega)
include bc
set_option maxHeartbeats 4000000 in
theorem rgooL1 (hb : ∀ p ∈ s.tb, p.1 ≤ 9223372036854775807) (x0 x1 x2 x3 x4 x5 x8 x12 x13 x14 x15 x16 x17 x18 x19 x20 x21 x22 x23 x24 x25 x26 x27 x28 x29 x30 x31 x32 x33 x34 x35 x36 x37 x38 x39 x40 x41 x42 x43 x44 x45 x46 x47 x48 x49 x50 x51 x52 x53 x54 x55 x56 x57 x58 x59 x60 x61 x62 x63 x64 x65 x100 x101 x102 x103 x104 x105 x106 x107 x108 x109 x110 x111 x112 x113 x114 x115 x116 x117 x118 x119 x120 x121 x122 x123 x124 x125 x126 x127 x128 x129 x130 x131 x132 x133 x134 x135 x136 x137 x138 x139 : AV) : ∀ (k i : Nat) (j11 j66 j67 j68 j69 j70 j71 j72 j73 j74 j75 j76 j77 j78 j79 j80 j81 j82 j83 j84 j85 j86 j87 j88 j89 j90 j91 j92 j93 j94 j95 j96 j97 j98 j99 : AV), i + k = s.tb.length →
  Outs (LP1 l15x1 [x0, x1, x2, x3, x4, x5, .bool false, w, x8, .ptr q 0, .int .i64 (i : Int), j11, x12, x13, x14, x15, x16, x17, x18, x19, x20, x21, x22, x23, x24, x25, x26, x27, x28, x29, x30, x31, x32, x33, x34, x35, x36, x37, x38, x39, x40, x41, x42, x43, x44, x45, x46, x47, x48, x49, x50, x51, x52, x53, x54, x55, x56, x57, x58, x59, x60, x61, x62, x63, x64, x65, j66, j67, j68, j69, j70, j71, j72, j73, j74, j75, j76, j77, j78, j79, j80, j81, j82, j83, j84, j85, j86, j87, j88, j89, j90, j91, j92, j93, j94, j95, j96, j97, j98, j99, x100, x101, x102, x103, x104, x105, x106, x107, x108, x109, x110, x111, x112, x113, x114, x115, x116, x117, x118, x119, x120, x121, x122, x123, x124, x125, x126, x127, x128, x129, x130, x131, x132, x133, x134, x135, x136, x137, x138, x139] K) fun e t K' => K' = K ∧ ∃ fv : Nat → AV, t = [x0, x1, x2, x3, x4, x5, (fv 6), w, x8, .ptr q 0, (fv 10), (fv 11), x12, x13, x14, x15, x16, x17, x18, x19, x20, x21, x22, x23, x24, x25, x26, x27, x28, x29, x30, x31, x32, x33, x34, x35, x36, x37, x38, x39, x40, x41, x42, x43, x44, x45, x46, x47, x48, x49, x50, x51, x52, x53, x54, x55, x56, x57, x58, x59, x60, x61, x62, x63, x64, x65, (fv 66), (fv 67), (fv 68), (fv 69), (fv 70), (fv 71), (fv 72), (fv 73), (fv 74), (fv 75), (fv 76), (fv 77), (fv 78), (fv 79), (fv 80), (fv 81), (fv 82), (fv 83), (fv 84), (fv 85), (fv 86), (fv 87), (fv 88), (fv 89), (fv 90), (fv 91), (fv 92), (fv 93), (fv 94), (fv 95), (fv 96), (fv 97), (fv 98), (fv 99), x100, x101, x102, x103, x104, x105, x106, x107, x108, x109, x110, x111, x112, x113, x114, x115, x116, x117, x118, x119, x120, x121, x122, x123, x124, x125, x126, x127, x128, x129, x130, x131, x132, x133, x134, x135, x136, x137, x138, x139] ∧ fv 6 = .bool false ∧ ((e = .exit 2 ∧ (s.tb.drop i).all (fun p => Bt.hasS s.ch p.1 && !ats.contains p.2) = true) ∨ (e = .ret ∧ (s.tb.drop i).all (fun p => Bt.hasS s.ch p.1 && !ats.contains p.2) = false)) := by
 intro k
 obtain ⟨L0, hL0⟩ : ∃ L, L = LP1 l15x1 := ⟨_, rfl⟩
 have lo := loop_open hL0
 have wl := pt.len
 have lt1 := ft.lt
 rw [← hL0]
 induction k with
 | zero =>
  intro i j11 j66 j67 j68 j69 j70 j71 j72 j73 j74 j75 j76 j77 j78 j79 j80 j81 j82 j83 j84 j85 j86 j87 j88 j89 j90 j91 j92 j93 j94 j95 j96 j97 j98 j99 hi
  obtain rfl : i = s.tb.length := by omega
  have hd : decide ((s.tb.length : Int) < (s.tb.length : Int)) = false := by simp
  rw [List.drop_length, lo]
  unfold l15x1
  simp -implicitDefEqProofs (maxSteps := 5000000) only [go_sem, Nat.reduceShiftRight, Nat.reduceAnd, Nat.reduceBNe, Int.reduceEq, Nat.reduceAdd, Nat.reduceSub, Nat.reduceMul, Nat.reduceLeDiff, reduceIte, reduceCtorEq, Nat.reduceBEq, Nat.reduceEqDiff, wrap64, runC_loop, runC_range, callF_fn, callV_fn, callV_yld, yield_eq, yieldBody, yieldRaw, roundMid, roundEnd, rangeEnd, Bool.not_not, put_cons, put_nil, trim_same, at_zero, at_add, set_zero, set_add, store_one, write_zero, write_add, write_head, write_succ, splice_one, splice_more, List.drop_nil, List.take_nil, cell_int, cell_bool, fillS, splice_one, idxA, Ex.isNormal, List.set_nil, List.length_set, List.all_cons, List.all_nil, Bool.and_self, and_self, true_and, and_true, List.getElem?_nil, Int.reduceLT, Int.reduceLE, Int.reduceToNat, Int.toNat_zero, Int.toNat_one, Int.reduceAdd, Int.reduceSub, Int.reduceMul, Int.reduceNeg, Int.reduceBEq, Int.reduceBNe, Int.reduceGE, Int.reduceGT, Nat.reduceLT, trim_keep, under_fn, under_ptr, under_sl, Nat.lt_irrefl, not_lt_add, trim_tail, keepOk, ABlk.vals, Int.cast_ofNat_Int, decide_true, decide_false, List.all_cons, List.all_nil, Nat.zero_mul, Nat.mul_one, Nat.one_mul, hq, wl, hd, seqR_exit', outs_normal]
  exact exF2 rfl ⟨rfl, .inl (by first | rfl | trivial)⟩
 | succ k ih =>
  intro i j11 j66 j67 j68 j69 j70 j71 j72 j73 j74 j75 j76 j77 j78 j79 j80 j81 j82 j83 j84 j85 j86 j87 j88 j89 j90 j91 j92 j93 j94 j95 j96 j97 j98 j99 hi
  have hlt : i < s.tb.length := by omega
  have hd : decide ((i : Int) < (s.tb.length : Int)) = true := decide_eq_true (by omega)
  have e2 : IntKind.i64.wrap ((i : Int) + 1) = ((i + 1 : Nat) : Int) := by rw [wrap64 (by omega) (by omega)]; omega
  have hx := List.getElem?_eq_getElem hlt
  have hpb := hb _ (List.getElem_mem hlt)
  rw [List.drop_eq_getElem_cons hlt, List.all_cons]
  generalize s.tb[i] = p at *
  obtain ⟨b2, c2, _, ix2, hc2, r1, r2, _, _⟩ := pt.idx hx
  have eh := Bt.hasR bc p.1 hpb
  have l0 := rgooL0 fs al hq pt ft hx (k := ats.length) (j := 0)
  rw [show ((0 : Nat) : Int) = 0 from rfl, List.drop_zero] at l0
  rw [lo]
  unfold l15x1
  rcases hh : Bt.hasS s.ch p.1 with _ | _ <;> rw [hh] at eh
  ·simp -implicitDefEqProofs (maxSteps := 5000000) only [go_sem, Nat.reduceShiftRight, Nat.reduceAnd, Nat.reduceBNe, Int.reduceEq, Nat.reduceAdd, Nat.reduceSub, Nat.reduceMul, Nat.reduceLeDiff, reduceIte, reduceCtorEq, Nat.reduceBEq, Nat.reduceEqDiff, wrap64, runC_loop, runC_range, callF_fn, callV_fn, callV_yld, yield_eq, yieldBody, yieldRaw, roundMid, roundEnd, rangeEnd, Bool.not_not, put_cons, put_nil, trim_same, at_zero, at_add, set_zero, set_add, store_one, write_zero, write_add, write_head, write_succ, splice_one, splice_more, List.drop_nil, List.take_nil, cell_int, cell_bool, fillS, splice_one, idxA, Ex.isNormal, List.set_nil, List.length_set, List.all_cons, List.all_nil, Bool.and_self, and_self, true_and, and_true, List.getElem?_nil, Int.reduceLT, Int.reduceLE, Int.reduceToNat, Int.toNat_zero, Int.toNat_one, Int.reduceAdd, Int.reduceSub, Int.reduceMul, Int.reduceNeg, Int.reduceBEq, Int.reduceBNe, Int.reduceGE, Int.reduceGT, Nat.reduceLT, trim_keep, under_fn, under_ptr, under_sl, Nat.lt_irrefl, not_lt_add, trim_tail, keepOk, ABlk.vals, Int.cast_ofNat_Int, decide_true, decide_false, List.all_cons, List.all_nil, Nat.zero_mul, Nat.mul_one, Nat.one_mul, hq, wl, hd, ix2, hc2, r1, eh, seqR_ret, outs_normal]
   exact exF2 rfl ⟨rfl, .inr (by first | rfl | trivial)⟩
  ·simp -implicitDefEqProofs (maxSteps := 5000000) only [go_sem, Nat.reduceShiftRight, Nat.reduceAnd, Nat.reduceBNe, Int.reduceEq, Nat.reduceAdd, Nat.reduceSub, Nat.reduceMul, Nat.reduceLeDiff, reduceIte, reduceCtorEq, Nat.reduceBEq, Nat.reduceEqDiff, wrap64, runC_loop, runC_range, callF_fn, callV_fn, callV_yld, yield_eq, yieldBody, yieldRaw, roundMid, roundEnd, rangeEnd, Bool.not_not, put_cons, put_nil, trim_same, at_zero, at_add, set_zero, set_add, store_one, write_zero, write_add, write_head, write_succ, splice_one, splice_more, List.drop_nil, List.take_nil, cell_int, cell_bool, fillS, splice_one, idxA, Ex.isNormal, List.set_nil, List.length_set, List.all_cons, List.all_nil, Bool.and_self, and_self, true_and, and_true, List.getElem?_nil, Int.reduceLT, Int.reduceLE, Int.reduceToNat, Int.toNat_zero, Int.toNat_one, Int.reduceAdd, Int.reduceSub, Int.reduceMul, Int.reduceNeg, Int.reduceBEq, Int.reduceBNe, Int.reduceGE, Int.reduceGT, Nat.reduceLT, trim_keep, under_fn, under_ptr, under_sl, Nat.lt_irrefl, not_lt_add, trim_tail, keepOk, ABlk.vals, Int.cast_ofNat_Int, decide_true, decide_false, List.all_cons, List.all_nil, Nat.zero_mul, Nat.mul_one, Nat.one_mul, runC_loop, hq, wl, hd, ix2, hc2, r1, eh]
   unfold LP1 at l0
   generalize (envL prog).loop (runC (envL prog) (l15x0 (envL prog))) = LL at l0 ⊢
   refine outs_ctx (fun r => seqR (seqR (blockR 3 (blockR 4 r)) _) _) (l0 _ _ _ _ _ _ _ _ _ _ _ _ _ _ _ _ _ _ _ _ _ _ _ _ _ _ _ _ _ _ _ _ _ _ _ _ _ _ _ _ _ _ _ _ _ _ _ _ _ _ _ _ _ _ _ _ _ _ _ _ _ _ _ _ _ _ _ _ _ _ _ _ _ _ _ _ _ _ _ _ _ _ _ _ _ _ _ _ _ _ _ _ _ _ _ _ _ _ _ _ _ _ _ _ _ _ _ _ _ _ _ _ _ _ _ _ _ _ _ _ _ _ _ _ _ _ _ _ _ _ _ _ _ _ _ (by omega)) ?_
   rintro e t K' ⟨rfl, fv, rfl, f6, ⟨rfl, ho⟩ | ⟨rfl, ho⟩⟩
   ·rw [ho]
    simp -implicitDefEqProofs (maxSteps := 5000000) only [go_sem, Nat.reduceShiftRight, Nat.reduceAnd, Nat.reduceBNe, Int.reduceEq, Nat.reduceAdd, Nat.reduceSub, Nat.reduceMul, Nat.reduceLeDiff, reduceIte, reduceCtorEq, Nat.reduceBEq, Nat.reduceEqDiff, wrap64, runC_loop, runC_range, callF_fn, callV_fn, callV_yld, yield_eq, yieldBody, yieldRaw, roundMid, roundEnd, rangeEnd, Bool.not_not, put_cons, put_nil, trim_same, at_zero, at_add, set_zero, set_add, store_one, write_zero, write_add, write_head, write_succ, splice_one, splice_more, List.drop_nil, List.take_nil, cell_int, cell_bool, fillS, splice_one, idxA, Ex.isNormal, List.set_nil, List.length_set, List.all_cons, List.all_nil, Bool.and_self, and_self, true_and, and_true, List.getElem?_nil, Int.reduceLT, Int.reduceLE, Int.reduceToNat, Int.toNat_zero, Int.toNat_one, Int.reduceAdd, Int.reduceSub, Int.reduceMul, Int.reduceNeg, Int.reduceBEq, Int.reduceBNe, Int.reduceGE, Int.reduceGT, Nat.reduceLT, trim_keep, under_fn, under_ptr, under_sl, Nat.lt_irrefl, not_lt_add, trim_tail, keepOk, ABlk.vals, Int.cast_ofNat_Int, decide_true, decide_false, List.all_cons, List.all_nil, Nat.zero_mul, Nat.mul_one, Nat.one_mul, f6, e2]
    exact ih (i + 1) _ _ _ _ _ _ _ _ _ _ _ _ _ _ _ _ _ _ _ _ _ _ _ _ _ _ _ _ _ _ _ _ _ _ _ (by omega)
   ·rw [ho]
    simp -implicitDefEqProofs (maxSteps := 5000000) only [go_sem, Nat.reduceShiftRight, Nat.reduceAnd, Nat.reduceBNe, Int.reduceEq, Nat.reduceAdd, Nat.reduceSub, Nat.reduceMul, Nat.reduceLeDiff, reduceIte, reduceCtorEq, Nat.reduceBEq, Nat.reduceEqDiff, wrap64, runC_loop, runC_range, callF_fn, callV_fn, callV_yld, yield_eq, yieldBody, yieldRaw, roundMid, roundEnd, rangeEnd, Bool.not_not, put_cons, put_nil, trim_same, at_zero, at_add, set_zero, set_add, store_one, write_zero, write_add, write_head, write_succ, splice_one, splice_more, List.drop_nil, List.take_nil, cell_int, cell_bool, fillS, splice_one, idxA, Ex.isNormal, List.set_nil, List.length_set, List.all_cons, List.all_nil, Bool.and_self, and_self, true_and, and_true, List.getElem?_nil, Int.reduceLT, Int.reduceLE, Int.reduceToNat, Int.toNat_zero, Int.toNat_one, Int.reduceAdd, Int.reduceSub, Int.reduceMul, Int.reduceNeg, Int.reduceBEq, Int.reduceBNe, Int.reduceGE, Int.reduceGT, Nat.reduceLT, trim_keep, under_fn, under_ptr, under_sl, Nat.lt_irrefl, not_lt_add, trim_tail, keepOk, ABlk.vals, Int.cast_ofNat_Int, decide_true, decide_false, List.all_cons, List.all_nil, Nat.zero_mul, Nat.mul_one, Nat.one_mul, seqR_ret, outs_normal]
    exact exF2 rfl ⟨f6, .inr (by first | rfl | trivial)⟩
end
section
variable {H : AHeap} {s : SnS} {q : Nat} {vc vt : AV} (pt : IsP H vt s.tb) (ft : s.Fit)
include pt ft
set_option maxHeartbeats 4000000 in
theorem rgooL2 (x0 x1 x2 x3 x4 x5 x6 x8 x10 x11 x13 x14 x15 x16 x17 x18 x19 x20 x21 x22 x23 x24 x25 x26 x27 x28 x29 x30 x31 x32 x33 x34 x35 x36 x37 x38 x39 x40 x41 x42 x43 x44 x45 x46 x47 x48 x49 x50 x51 x52 x53 x54 x55 x56 x57 x58 x59 x60 x61 x62 x63 x64 x65 x66 x67 x68 x69 x70 x71 x72 x73 x74 x75 x76 x77 x78 x79 x80 x81 x82 x83 x84 x85 x86 x87 x88 x89 x90 x91 x92 x93 x94 x95 x96 x97 x98 x99 x116 x117 x118 x119 x120 x121 x122 x123 x124 x125 x126 x127 x128 x129 x130 x131 x132 x133 x134 x135 x136 x137 x138 x139 : AV) : ∀ (k i : Nat) (K : AHeap) (w : AV) (ats : List Int) (j100 j101 j102 j103 j104 j105 j106 j107 j108 j109 j110 j111 j112 j113 j114 j115 : AV), Adds H K → FS K H.length w ats → cellsOf K q = some [.int .i64 s.id, vc, vt] → (∀ b, slb w = some b → b ≠ q) → ats.length ≤ 100000 + i → i + k = s.tb.length →
  Outs (LP1 l15x2 [x0, x1, x2, x3, x4, x5, x6, w, x8, .ptr q 0, x10, x11, .int .i64 (i : Int), x13, x14, x15, x16, x17, x18, x19, x20, x21, x22, x23, x24, x25, x26, x27, x28, x29, x30, x31, x32, x33, x34, x35, x36, x37, x38, x39, x40, x41, x42, x43, x44, x45, x46, x47, x48, x49, x50, x51, x52, x53, x54, x55, x56, x57, x58, x59, x60, x61, x62, x63, x64, x65, x66, x67, x68, x69, x70, x71, x72, x73, x74, x75, x76, x77, x78, x79, x80, x81, x82, x83, x84, x85, x86, x87, x88, x89, x90, x91, x92, x93, x94, x95, x96, x97, x98, x99, j100, j101, j102, j103, j104, j105, j106, j107, j108, j109, j110, j111, j112, j113, j114, j115, x116, x117, x118, x119, x120, x121, x122, x123, x124, x125, x126, x127, x128, x129, x130, x131, x132, x133, x134, x135, x136, x137, x138, x139] K) fun e t K' => e = .exit 6 ∧ Adds H K' ∧ cellsOf K' q = some [.int .i64 s.id, vc, vt] ∧ ∃ fv : Nat → AV, t = [x0, x1, x2, x3, x4, x5, x6, (fv 7), x8, .ptr q 0, x10, x11, (fv 12), x13, x14, x15, x16, x17, x18, x19, x20, x21, x22, x23, x24, x25, x26, x27, x28, x29, x30, x31, x32, x33, x34, x35, x36, x37, x38, x39, x40, x41, x42, x43, x44, x45, x46, x47, x48, x49, x50, x51, x52, x53, x54, x55, x56, x57, x58, x59, x60, x61, x62, x63, x64, x65, x66, x67, x68, x69, x70, x71, x72, x73, x74, x75, x76, x77, x78, x79, x80, x81, x82, x83, x84, x85, x86, x87, x88, x89, x90, x91, x92, x93, x94, x95, x96, x97, x98, x99, (fv 100), (fv 101), (fv 102), (fv 103), (fv 104), (fv 105), (fv 106), (fv 107), (fv 108), (fv 109), (fv 110), (fv 111), (fv 112), (fv 113), (fv 114), (fv 115), x116, x117, x118, x119, x120, x121, x122, x123, x124, x125, x126, x127, x128, x129, x130, x131, x132, x133, x134, x135, x136, x137, x138, x139] ∧ FS K' H.length (fv 7) (ats ++ (s.tb.drop i).map (·.2)) := by
 intro k
 obtain ⟨L0, hL0⟩ : ∃ L, L = LP1 l15x2 := ⟨_, rfl⟩
 have lo := loop_open hL0
 have wl := pt.len
 have lt1 := ft.lt
 rw [← hL0]
 induction k with
 | zero =>
  intro i K w ats j100 j101 j102 j103 j104 j105 j106 j107 j108 j109 j110 j111 j112 j113 j114 j115 aK fs hq hne al hi
  obtain rfl : i = s.tb.length := by omega
  have hd : decide ((s.tb.length : Int) < (s.tb.length : Int)) = false := by simp
  rw [List.drop_length, lo]
  unfold l15x2
  simp -implicitDefEqProofs (maxSteps := 5000000) only [go_sem, Nat.reduceShiftRight, Nat.reduceAnd, Nat.reduceBNe, Int.reduceEq, Nat.reduceAdd, Nat.reduceSub, Nat.reduceMul, Nat.reduceLeDiff, reduceIte, reduceCtorEq, Nat.reduceBEq, Nat.reduceEqDiff, wrap64, runC_loop, runC_range, callF_fn, callV_fn, callV_yld, yield_eq, yieldBody, yieldRaw, roundMid, roundEnd, rangeEnd, Bool.not_not, put_cons, put_nil, trim_same, at_zero, at_add, set_zero, set_add, store_one, write_zero, write_add, write_head, write_succ, splice_one, splice_more, List.drop_nil, List.take_nil, cell_int, cell_bool, fillS, splice_one, idxA, Ex.isNormal, List.set_nil, List.length_set, List.all_cons, List.all_nil, Bool.and_self, and_self, true_and, and_true, List.getElem?_nil, Int.reduceLT, Int.reduceLE, Int.reduceToNat, Int.toNat_zero, Int.toNat_one, Int.reduceAdd, Int.reduceSub, Int.reduceMul, Int.reduceNeg, Int.reduceBEq, Int.reduceBNe, Int.reduceGE, Int.reduceGT, Nat.reduceLT, trim_keep, under_fn, under_ptr, under_sl, Nat.lt_irrefl, not_lt_add, trim_tail, keepOk, ABlk.vals, Int.cast_ofNat_Int, decide_true, decide_false, List.all_cons, List.all_nil, Nat.zero_mul, Nat.mul_one, Nat.one_mul, hq, wl, hd, seqR_exit', outs_normal]
  exact ⟨aK, exF2 rfl fs⟩
 | succ k ih =>
  intro i K w ats j100 j101 j102 j103 j104 j105 j106 j107 j108 j109 j110 j111 j112 j113 j114 j115 aK fs hq hne al hi
  have hlt : i < s.tb.length := by omega
  have hd : decide ((i : Int) < (s.tb.length : Int)) = true := decide_eq_true (by omega)
  have e2 : IntKind.i64.wrap ((i : Int) + 1) = ((i + 1 : Nat) : Int) := by rw [wrap64 (by omega) (by omega)]; omega
  have hx := List.getElem?_eq_getElem hlt
  rw [List.drop_eq_getElem_cons hlt, List.map_cons]
  generalize s.tb[i] = p at *
  obtain ⟨b2, c2, _, ix2, hc0, r1, r2, _, _⟩ := pt.idx hx
  have hc2 := aK.cells hc0
  obtain ⟨K2, hK2⟩ : ∃ K2, K2 = K ++ [ABlk.rw [.int .i64 p.2]] := ⟨_, rfl⟩
  have A2 : Adds K K2 := ⟨_, hK2⟩
  have cs2 : cellsOf K2 K.length = some [.int .i64 p.2] := by rw [hK2]; unfold cellsOf; simp
  obtain ⟨w', K3, ep, f3, fr3, sb3, l3⟩ := FS.push (fs.frT (Fr.adds A2 (fun _ => False)) fun _ _ h => h) cs2 (by omega) (by have := aK.len; have := A2.len; omega)
  have a3 : Adds H K3 := fr3.old (aK.trans A2) fun b hb h => by have := (FS.out fs b h).1; omega
  have q3 : cellsOf K3 q = some [.int .i64 s.id, vc, vt] := fr3.cells (A2.cells hq) fun h => hne q h rfl
  have hK2 := hK2.symm
  have key := ih (i + 1) K3 w' (ats ++ [p.2])
  rw [List.append_assoc, List.singleton_append] at key
  have lq : q < K.length := lt_of_cells hq
  rw [lo]
  unfold l15x2
  simp -implicitDefEqProofs (maxSteps := 5000000) only [go_sem, Nat.reduceShiftRight, Nat.reduceAnd, Nat.reduceBNe, Int.reduceEq, Nat.reduceAdd, Nat.reduceSub, Nat.reduceMul, Nat.reduceLeDiff, reduceIte, reduceCtorEq, Nat.reduceBEq, Nat.reduceEqDiff, wrap64, runC_loop, runC_range, callF_fn, callV_fn, callV_yld, yield_eq, yieldBody, yieldRaw, roundMid, roundEnd, rangeEnd, Bool.not_not, put_cons, put_nil, trim_same, at_zero, at_add, set_zero, set_add, store_one, write_zero, write_add, write_head, write_succ, splice_one, splice_more, List.drop_nil, List.take_nil, cell_int, cell_bool, fillS, splice_one, idxA, Ex.isNormal, List.set_nil, List.length_set, List.all_cons, List.all_nil, Bool.and_self, and_self, true_and, and_true, List.getElem?_nil, Int.reduceLT, Int.reduceLE, Int.reduceToNat, Int.toNat_zero, Int.toNat_one, Int.reduceAdd, Int.reduceSub, Int.reduceMul, Int.reduceNeg, Int.reduceBEq, Int.reduceBNe, Int.reduceGE, Int.reduceGT, Nat.reduceLT, trim_keep, under_fn, under_ptr, under_sl, Nat.lt_irrefl, not_lt_add, trim_tail, keepOk, ABlk.vals, Int.cast_ofNat_Int, decide_true, decide_false, List.all_cons, List.all_nil, Nat.zero_mul, Nat.mul_one, Nat.one_mul, hq, wl, hd, ix2, hc2, r2, hK2, ep, e2]
  exact key _ _ _ _ _ _ _ _ _ _ _ _ _ _ _ _ a3 f3 q3 (fun b h => by rw [sb3] at h; injection h with h; have := A2.len; omega) (by rw [List.length_append, List.length_singleton]; omega) (by omega)
end
section
variable {K : AHeap} {v : AV} {n i0 : Nat} (wv : lenSl v = some (.int .i64 (n : Int))) (hn : n ≤ 1000) (hi0 : i0 < n) {cl : AV} {cs : List Int} (hcl : IS K cl cs) (cn : cs.length ≤ 100000) {s : SnS} {q : Nat} {vc vt : AV} (hq : cellsOf K q = some [.int .i64 s.id, vc, vt]) (pt : IsP K vt s.tb) (ft : s.Fit)
include wv hn hi0 hcl cn hq pt ft
set_option maxHeartbeats 4000000 in
theorem rgooL3 (x1 x2 x3 x4 x5 x7 x10 x11 x12 x15 x16 x17 x18 x19 x20 x21 x22 x23 x24 x25 x26 x27 x28 x29 x30 x31 x32 x33 x34 x35 x36 x37 x38 x39 x40 x41 x42 x43 x44 x45 x46 x47 x48 x49 x50 x51 x52 x53 x54 x55 x56 x57 x58 x59 x60 x61 x62 x63 x64 x65 x66 x67 x68 x69 x70 x71 x72 x73 x74 x75 x76 x77 x78 x79 x80 x81 x82 x83 x84 x85 x86 x87 x88 x89 x90 x91 x92 x93 x94 x95 x96 x97 x98 x99 x100 x101 x102 x103 x104 x105 x106 x107 x108 x109 x110 x111 x112 x113 x114 x115 x116 x117 x118 : AV) : ∀ (k j : Nat) (j119 j120 j121 j122 j123 j124 j125 j126 j127 j128 j129 j130 j131 j132 j133 j134 j135 j136 j137 j138 j139 : AV), j + k = cs.length →
  Outs (LP1 l15x3 [v, x1, x2, x3, x4, x5, .bool false, x7, .int .i64 (i0 : Int), .ptr q 0, x10, x11, x12, cl, .int .i64 (j : Int), x15, x16, x17, x18, x19, x20, x21, x22, x23, x24, x25, x26, x27, x28, x29, x30, x31, x32, x33, x34, x35, x36, x37, x38, x39, x40, x41, x42, x43, x44, x45, x46, x47, x48, x49, x50, x51, x52, x53, x54, x55, x56, x57, x58, x59, x60, x61, x62, x63, x64, x65, x66, x67, x68, x69, x70, x71, x72, x73, x74, x75, x76, x77, x78, x79, x80, x81, x82, x83, x84, x85, x86, x87, x88, x89, x90, x91, x92, x93, x94, x95, x96, x97, x98, x99, x100, x101, x102, x103, x104, x105, x106, x107, x108, x109, x110, x111, x112, x113, x114, x115, x116, x117, x118, j119, j120, j121, j122, j123, j124, j125, j126, j127, j128, j129, j130, j131, j132, j133, j134, j135, j136, j137, j138, j139] K) fun e t K' => K' = K ∧ ∃ fv : Nat → AV, t = [v, x1, x2, x3, x4, x5, (fv 6), x7, .int .i64 (i0 : Int), .ptr q 0, x10, x11, x12, cl, (fv 14), x15, x16, x17, x18, x19, x20, x21, x22, x23, x24, x25, x26, x27, x28, x29, x30, x31, x32, x33, x34, x35, x36, x37, x38, x39, x40, x41, x42, x43, x44, x45, x46, x47, x48, x49, x50, x51, x52, x53, x54, x55, x56, x57, x58, x59, x60, x61, x62, x63, x64, x65, x66, x67, x68, x69, x70, x71, x72, x73, x74, x75, x76, x77, x78, x79, x80, x81, x82, x83, x84, x85, x86, x87, x88, x89, x90, x91, x92, x93, x94, x95, x96, x97, x98, x99, x100, x101, x102, x103, x104, x105, x106, x107, x108, x109, x110, x111, x112, x113, x114, x115, x116, x117, x118, (fv 119), (fv 120), (fv 121), (fv 122), (fv 123), (fv 124), (fv 125), (fv 126), (fv 127), (fv 128), (fv 129), (fv 130), (fv 131), (fv 132), (fv 133), (fv 134), (fv 135), (fv 136), (fv 137), (fv 138), (fv 139)] ∧ fv 6 = .bool false ∧ ((e = .exit 8 ∧ (decide (n ≤ i0 + 1) || (cs.drop j).all (fun c => decide (0 ≤ idxS s.tb c))) = true) ∨ (e = .ret ∧ (decide (n ≤ i0 + 1) || (cs.drop j).all (fun c => decide (0 ≤ idxS s.tb c))) = false)) := by
 intro k
 obtain ⟨L0, hL0⟩ : ∃ L, L = LP1 l15x3 := ⟨_, rfl⟩
 have lo := loop_open hL0
 have wl := hcl.len
 have lt1 := ft.lt
 have e1 : IntKind.i64.wrap ((i0 : Int) + 1) = ((i0 + 1 : Nat) : Int) := by rw [wrap64 (by omega) (by omega)]; omega
 rw [← hL0]
 induction k with
 | zero =>
  intro j j119 j120 j121 j122 j123 j124 j125 j126 j127 j128 j129 j130 j131 j132 j133 j134 j135 j136 j137 j138 j139 hj
  obtain rfl : j = cs.length := by omega
  have hd : decide ((cs.length : Int) < (cs.length : Int)) = false := by simp
  rw [List.drop_length, List.all_nil, Bool.or_true, lo]
  unfold l15x3
  simp -implicitDefEqProofs (maxSteps := 5000000) only [go_sem, Nat.reduceShiftRight, Nat.reduceAnd, Nat.reduceBNe, Int.reduceEq, Nat.reduceAdd, Nat.reduceSub, Nat.reduceMul, Nat.reduceLeDiff, reduceIte, reduceCtorEq, Nat.reduceBEq, Nat.reduceEqDiff, wrap64, runC_loop, runC_range, callF_fn, callV_fn, callV_yld, yield_eq, yieldBody, yieldRaw, roundMid, roundEnd, rangeEnd, Bool.not_not, put_cons, put_nil, trim_same, at_zero, at_add, set_zero, set_add, store_one, write_zero, write_add, write_head, write_succ, splice_one, splice_more, List.drop_nil, List.take_nil, cell_int, cell_bool, fillS, splice_one, idxA, Ex.isNormal, List.set_nil, List.length_set, List.all_cons, List.all_nil, Bool.and_self, and_self, true_and, and_true, List.getElem?_nil, Int.reduceLT, Int.reduceLE, Int.reduceToNat, Int.toNat_zero, Int.toNat_one, Int.reduceAdd, Int.reduceSub, Int.reduceMul, Int.reduceNeg, Int.reduceBEq, Int.reduceBNe, Int.reduceGE, Int.reduceGT, Nat.reduceLT, trim_keep, under_fn, under_ptr, under_sl, Nat.lt_irrefl, not_lt_add, trim_tail, keepOk, ABlk.vals, Int.cast_ofNat_Int, decide_true, decide_false, List.all_cons, List.all_nil, Nat.zero_mul, Nat.mul_one, Nat.one_mul, wl, hd, seqR_exit', outs_normal]
  exact exF2 rfl ⟨rfl, .inl (by first | rfl | trivial)⟩
 | succ k ih =>
  intro j j119 j120 j121 j122 j123 j124 j125 j126 j127 j128 j129 j130 j131 j132 j133 j134 j135 j136 j137 j138 j139 hj
  have hlt : j < cs.length := by omega
  have hd : decide ((j : Int) < (cs.length : Int)) = true := decide_eq_true (by omega)
  have e2 : IntKind.i64.wrap ((j : Int) + 1) = ((j + 1 : Nat) : Int) := by rw [wrap64 (by omega) (by omega)]; omega
  have hx := List.getElem?_eq_getElem hlt
  rw [lo]
  unfold l15x3
  by_cases hl : n ≤ i0 + 1
  ·have dl : decide (((i0 + 1 : Nat) : Int) < (n : Int)) = false := decide_eq_false (by omega)
   rw [decide_eq_true hl, Bool.true_or]
   simp -implicitDefEqProofs (maxSteps := 5000000) only [go_sem, Nat.reduceShiftRight, Nat.reduceAnd, Nat.reduceBNe, Int.reduceEq, Nat.reduceAdd, Nat.reduceSub, Nat.reduceMul, Nat.reduceLeDiff, reduceIte, reduceCtorEq, Nat.reduceBEq, Nat.reduceEqDiff, wrap64, runC_loop, runC_range, callF_fn, callV_fn, callV_yld, yield_eq, yieldBody, yieldRaw, roundMid, roundEnd, rangeEnd, Bool.not_not, put_cons, put_nil, trim_same, at_zero, at_add, set_zero, set_add, store_one, write_zero, write_add, write_head, write_succ, splice_one, splice_more, List.drop_nil, List.take_nil, cell_int, cell_bool, fillS, splice_one, idxA, Ex.isNormal, List.set_nil, List.length_set, List.all_cons, List.all_nil, Bool.and_self, and_self, true_and, and_true, List.getElem?_nil, Int.reduceLT, Int.reduceLE, Int.reduceToNat, Int.toNat_zero, Int.toNat_one, Int.reduceAdd, Int.reduceSub, Int.reduceMul, Int.reduceNeg, Int.reduceBEq, Int.reduceBNe, Int.reduceGE, Int.reduceGT, Nat.reduceLT, trim_keep, under_fn, under_ptr, under_sl, Nat.lt_irrefl, not_lt_add, trim_tail, keepOk, ABlk.vals, Int.cast_ofNat_Int, decide_true, decide_false, List.all_cons, List.all_nil, Nat.zero_mul, Nat.mul_one, Nat.one_mul, wl, hd, e1, wv, dl, seqR_exit', outs_normal]
   exact exF2 rfl ⟨rfl, .inl (by first | rfl | trivial)⟩
  ·have dl : decide (((i0 + 1 : Nat) : Int) < (n : Int)) = true := decide_eq_true (by omega)
   simp -zeta only [decide_eq_false hl, Bool.false_or] at ih
   rw [decide_eq_false hl, Bool.false_or]
   rw [List.drop_eq_getElem_cons hlt, List.all_cons]
   generalize cs[j] = c at *
   obtain ⟨a, ix, ld⟩ := hcl.idx hx .i64
   have ef := rfindC pt (by omega) c
   by_cases h : idxS s.tb c < 0
   ·have dn := decide_eq_true h
    rw [decide_eq_false (show ¬ 0 ≤ idxS s.tb c by omega)]
    simp -implicitDefEqProofs (maxSteps := 5000000) only [go_sem, Nat.reduceShiftRight, Nat.reduceAnd, Nat.reduceBNe, Int.reduceEq, Nat.reduceAdd, Nat.reduceSub, Nat.reduceMul, Nat.reduceLeDiff, reduceIte, reduceCtorEq, Nat.reduceBEq, Nat.reduceEqDiff, wrap64, runC_loop, runC_range, callF_fn, callV_fn, callV_yld, yield_eq, yieldBody, yieldRaw, roundMid, roundEnd, rangeEnd, Bool.not_not, put_cons, put_nil, trim_same, at_zero, at_add, set_zero, set_add, store_one, write_zero, write_add, write_head, write_succ, splice_one, splice_more, List.drop_nil, List.take_nil, cell_int, cell_bool, fillS, splice_one, idxA, Ex.isNormal, List.set_nil, List.length_set, List.all_cons, List.all_nil, Bool.and_self, and_self, true_and, and_true, List.getElem?_nil, Int.reduceLT, Int.reduceLE, Int.reduceToNat, Int.toNat_zero, Int.toNat_one, Int.reduceAdd, Int.reduceSub, Int.reduceMul, Int.reduceNeg, Int.reduceBEq, Int.reduceBNe, Int.reduceGE, Int.reduceGT, Nat.reduceLT, trim_keep, under_fn, under_ptr, under_sl, Nat.lt_irrefl, not_lt_add, trim_tail, keepOk, ABlk.vals, Int.cast_ofNat_Int, decide_true, decide_false, List.all_cons, List.all_nil, Nat.zero_mul, Nat.mul_one, Nat.one_mul, wl, hd, e1, wv, dl, hq, ix, ld, ef, dn, seqR_ret, outs_normal]
    exact exF2 rfl ⟨rfl, .inr (by first | rfl | trivial)⟩
   ·have dn := decide_eq_false h
    rw [decide_eq_true (show 0 ≤ idxS s.tb c by omega), Bool.true_and]
    simp -implicitDefEqProofs (maxSteps := 5000000) only [go_sem, Nat.reduceShiftRight, Nat.reduceAnd, Nat.reduceBNe, Int.reduceEq, Nat.reduceAdd, Nat.reduceSub, Nat.reduceMul, Nat.reduceLeDiff, reduceIte, reduceCtorEq, Nat.reduceBEq, Nat.reduceEqDiff, wrap64, runC_loop, runC_range, callF_fn, callV_fn, callV_yld, yield_eq, yieldBody, yieldRaw, roundMid, roundEnd, rangeEnd, Bool.not_not, put_cons, put_nil, trim_same, at_zero, at_add, set_zero, set_add, store_one, write_zero, write_add, write_head, write_succ, splice_one, splice_more, List.drop_nil, List.take_nil, cell_int, cell_bool, fillS, splice_one, idxA, Ex.isNormal, List.set_nil, List.length_set, List.all_cons, List.all_nil, Bool.and_self, and_self, true_and, and_true, List.getElem?_nil, Int.reduceLT, Int.reduceLE, Int.reduceToNat, Int.toNat_zero, Int.toNat_one, Int.reduceAdd, Int.reduceSub, Int.reduceMul, Int.reduceNeg, Int.reduceBEq, Int.reduceBNe, Int.reduceGE, Int.reduceGT, Nat.reduceLT, trim_keep, under_fn, under_ptr, under_sl, Nat.lt_irrefl, not_lt_add, trim_tail, keepOk, ABlk.vals, Int.cast_ofNat_Int, decide_true, decide_false, List.all_cons, List.all_nil, Nat.zero_mul, Nat.mul_one, Nat.one_mul, wl, hd, e1, wv, dl, hq, ix, ld, ef, dn, e2]
    exact ih (j + 1) _ _ _ _ _ _ _ _ _ _ _ _ _ _ _ _ _ _ _ _ _ (by omega)
end
end Go.Proofs.Ythhodjcgcgkaaaa.G11
end
section
namespace Go.Proofs.Ythhodjcgcgkaaaa.G11
open Go Go.Proofs.Ythhodjcgcgkaaaa.Eng
theorem isC_row {H : AHeap} {v : AV} {L : List SnS} (g : IsC H v L) {i : Nat} {s : SnS} (h : L[i]? = some s) :
  ∃ b cs vc vt, idxAddrS 3 v (.int .i64 (i : Int)) = some (.ptr b (i * 3)) ∧ cellsOf H b = some cs ∧ cs[i * 3]? = some (.int .i64 s.id) ∧ (cs.drop (i * 3)).take 3 = [.int .i64 s.id, vc, vt] ∧ i * 3 + 3 ≤ cs.length ∧ BS H vc s.ch ∧ IsP H vt s.tb := by
 obtain ⟨b, cs, vc, vt, sb, ix, hc, h1, h2, h3, ht, hle, hb, hp⟩ := g.idx h
 exact ⟨b, cs, vc, vt, ix, hc, h1, ht, hle, hb, hp⟩
section
variable {H : AHeap} {v : AV} {L : List SnS} (g : IsC H v L) (fi : Fits L) (h8 : L.length ≤ 8) {bl : Int} (hbl : bl ≤ 9223372036854775807) (ar : Int)
include g fi h8 hbl
set_option maxHeartbeats 8000000 in
theorem rgooL4 (x3 x4 x5 x15 x16 x17 : AV) : ∀ (k i : Nat) (K : AHeap) (w : AV) (ats : List Int) (j9 j10 j11 j12 j13 j14 j18 j19 j20 j21 j22 j23 j24 j25 j26 j27 j28 j29 j30 j31 j32 j33 j34 j35 j36 j37 j38 j39 j40 j41 j42 j43 j44 j45 j46 j47 j48 j49 j50 j51 j52 j53 j54 j55 j56 j57 j58 j59 j60 j61 j62 j63 j64 j65 j66 j67 j68 j69 j70 j71 j72 j73 j74 j75 j76 j77 j78 j79 j80 j81 j82 j83 j84 j85 j86 j87 j88 j89 j90 j91 j92 j93 j94 j95 j96 j97 j98 j99 j100 j101 j102 j103 j104 j105 j106 j107 j108 j109 j110 j111 j112 j113 j114 j115 j116 j117 j118 j119 j120 j121 j122 j123 j124 j125 j126 j127 j128 j129 j130 j131 j132 j133 j134 j135 j136 j137 j138 j139 : AV), Adds H K → FS K H.length w ats → ats.length ≤ 1000 * i → i + k = L.length →
  Outs (LP1 l15x4 [v, .int .i64 bl, .int .i64 ar, x3, x4, x5, .bool false, w, .int .i64 (i : Int), j9, j10, j11, j12, j13, j14, x15, x16, x17, j18, j19, j20, j21, j22, j23, j24, j25, j26, j27, j28, j29, j30, j31, j32, j33, j34, j35, j36, j37, j38, j39, j40, j41, j42, j43, j44, j45, j46, j47, j48, j49, j50, j51, j52, j53, j54, j55, j56, j57, j58, j59, j60, j61, j62, j63, j64, j65, j66, j67, j68, j69, j70, j71, j72, j73, j74, j75, j76, j77, j78, j79, j80, j81, j82, j83, j84, j85, j86, j87, j88, j89, j90, j91, j92, j93, j94, j95, j96, j97, j98, j99, j100, j101, j102, j103, j104, j105, j106, j107, j108, j109, j110, j111, j112, j113, j114, j115, j116, j117, j118, j119, j120, j121, j122, j123, j124, j125, j126, j127, j128, j129, j130, j131, j132, j133, j134, j135, j136, j137, j138, j139] K) fun e t K' => Adds H K' ∧ ∃ fv : Nat → AV, t = [v, .int .i64 bl, .int .i64 ar, x3, x4, x5, (fv 6), (fv 7), (fv 8), (fv 9), (fv 10), (fv 11), (fv 12), (fv 13), (fv 14), x15, x16, x17, (fv 18), (fv 19), (fv 20), (fv 21), (fv 22), (fv 23), (fv 24), (fv 25), (fv 26), (fv 27), (fv 28), (fv 29), (fv 30), (fv 31), (fv 32), (fv 33), (fv 34), (fv 35), (fv 36), (fv 37), (fv 38), (fv 39), (fv 40), (fv 41), (fv 42), (fv 43), (fv 44), (fv 45), (fv 46), (fv 47), (fv 48), (fv 49), (fv 50), (fv 51), (fv 52), (fv 53), (fv 54), (fv 55), (fv 56), (fv 57), (fv 58), (fv 59), (fv 60), (fv 61), (fv 62), (fv 63), (fv 64), (fv 65), (fv 66), (fv 67), (fv 68), (fv 69), (fv 70), (fv 71), (fv 72), (fv 73), (fv 74), (fv 75), (fv 76), (fv 77), (fv 78), (fv 79), (fv 80), (fv 81), (fv 82), (fv 83), (fv 84), (fv 85), (fv 86), (fv 87), (fv 88), (fv 89), (fv 90), (fv 91), (fv 92), (fv 93), (fv 94), (fv 95), (fv 96), (fv 97), (fv 98), (fv 99), (fv 100), (fv 101), (fv 102), (fv 103), (fv 104), (fv 105), (fv 106), (fv 107), (fv 108), (fv 109), (fv 110), (fv 111), (fv 112), (fv 113), (fv 114), (fv 115), (fv 116), (fv 117), (fv 118), (fv 119), (fv 120), (fv 121), (fv 122), (fv 123), (fv 124), (fv 125), (fv 126), (fv 127), (fv 128), (fv 129), (fv 130), (fv 131), (fv 132), (fv 133), (fv 134), (fv 135), (fv 136), (fv 137), (fv 138), (fv 139)] ∧ fv 6 = .bool false ∧ ((e = .exit 0 ∧ rgoodF bl ar (L.drop i) (pvAt L i) ats = true) ∨ (e = .ret ∧ rgoodF bl ar (L.drop i) (pvAt L i) ats = false)) := by
 intro k
 obtain ⟨L0, hL0⟩ : ∃ L, L = LP1 l15x4 := ⟨_, rfl⟩
 have lo := loop_open hL0
 have wl := g.len
 rw [← hL0]
 induction k with
 | zero =>
  intro i K w ats j9 j10 j11 j12 j13 j14 j18 j19 j20 j21 j22 j23 j24 j25 j26 j27 j28 j29 j30 j31 j32 j33 j34 j35 j36 j37 j38 j39 j40 j41 j42 j43 j44 j45 j46 j47 j48 j49 j50 j51 j52 j53 j54 j55 j56 j57 j58 j59 j60 j61 j62 j63 j64 j65 j66 j67 j68 j69 j70 j71 j72 j73 j74 j75 j76 j77 j78 j79 j80 j81 j82 j83 j84 j85 j86 j87 j88 j89 j90 j91 j92 j93 j94 j95 j96 j97 j98 j99 j100 j101 j102 j103 j104 j105 j106 j107 j108 j109 j110 j111 j112 j113 j114 j115 j116 j117 j118 j119 j120 j121 j122 j123 j124 j125 j126 j127 j128 j129 j130 j131 j132 j133 j134 j135 j136 j137 j138 j139 aK fs al hi
  obtain rfl : i = L.length := by omega
  have hd : decide ((L.length : Int) < (L.length : Int)) = false := by simp
  rw [List.drop_length, lo]
  unfold l15x4
  simp -implicitDefEqProofs (maxSteps := 5000000) only [go_sem, Nat.reduceShiftRight, Nat.reduceAnd, Nat.reduceBNe, Int.reduceEq, Nat.reduceAdd, Nat.reduceSub, Nat.reduceMul, Nat.reduceLeDiff, reduceIte, reduceCtorEq, Nat.reduceBEq, Nat.reduceEqDiff, wrap64, runC_loop, runC_range, callF_fn, callV_fn, callV_yld, yield_eq, yieldBody, yieldRaw, roundMid, roundEnd, rangeEnd, Bool.not_not, put_cons, put_nil, trim_same, at_zero, at_add, set_zero, set_add, store_one, write_zero, write_add, write_head, write_succ, splice_one, splice_more, List.drop_nil, List.take_nil, cell_int, cell_bool, fillS, splice_one, idxA, Ex.isNormal, List.set_nil, List.length_set, List.all_cons, List.all_nil, Bool.and_self, and_self, true_and, and_true, List.getElem?_nil, Int.reduceLT, Int.reduceLE, Int.reduceToNat, Int.toNat_zero, Int.toNat_one, Int.reduceAdd, Int.reduceSub, Int.reduceMul, Int.reduceNeg, Int.reduceBEq, Int.reduceBNe, Int.reduceGE, Int.reduceGT, Nat.reduceLT, trim_keep, under_fn, under_ptr, under_sl, Nat.lt_irrefl, not_lt_add, trim_tail, keepOk, ABlk.vals, Int.cast_ofNat_Int, decide_true, decide_false, List.all_cons, List.all_nil, Nat.zero_mul, Nat.mul_one, Nat.one_mul, wl, hd, seqR_exit', outs_normal]
  exact ⟨aK, exF2 rfl ⟨rfl, .inl (by first | rfl | trivial)⟩⟩
 | succ k ih =>
  intro i K w ats j9 j10 j11 j12 j13 j14 j18 j19 j20 j21 j22 j23 j24 j25 j26 j27 j28 j29 j30 j31 j32 j33 j34 j35 j36 j37 j38 j39 j40 j41 j42 j43 j44 j45 j46 j47 j48 j49 j50 j51 j52 j53 j54 j55 j56 j57 j58 j59 j60 j61 j62 j63 j64 j65 j66 j67 j68 j69 j70 j71 j72 j73 j74 j75 j76 j77 j78 j79 j80 j81 j82 j83 j84 j85 j86 j87 j88 j89 j90 j91 j92 j93 j94 j95 j96 j97 j98 j99 j100 j101 j102 j103 j104 j105 j106 j107 j108 j109 j110 j111 j112 j113 j114 j115 j116 j117 j118 j119 j120 j121 j122 j123 j124 j125 j126 j127 j128 j129 j130 j131 j132 j133 j134 j135 j136 j137 j138 j139 aK fs al hi
  have hlt : i < L.length := by omega
  have hd : decide ((i : Int) < (L.length : Int)) = true := decide_eq_true (by omega)
  have e2 : IntKind.i64.wrap ((i : Int) + 1) = ((i + 1 : Nat) : Int) := by rw [wrap64 (by omega) (by omega)]; omega
  have hx := List.getElem?_eq_getElem hlt
  have ft := fits_get fi hx
  have hpv := pvAt_succ hx
  have hem : (L.drop (i + 1)).isEmpty = decide (L.length ≤ i + 1) := by
   by_cases h : L.length ≤ i + 1
   ·rw [decide_eq_true h, List.drop_eq_nil_of_le h]; rfl
   ·rw [decide_eq_false h]
    cases hq : L.drop (i + 1) with
    | nil => have := congrArg List.length hq; rw [List.length_drop] at this; simp at this; omega
    | cons _ _ => rfl
  rw [List.drop_eq_getElem_cons hlt]
  generalize L[i] = s at *
  obtain ⟨bb, cs, vc, vt, ix, hc0, h1, ht, hle, bc, pt⟩ := isC_row g hx
  have hc := aK.cells hc0
  have hcA := fun {X} (a : Adds K X) => a.cells hc
  obtain ⟨K1, hK1⟩ : ∃ K1, K1 = K ++ [ABlk.rw [.int .i64 s.id, vc, vt]] := ⟨_, rfl⟩
  have A1 : Adds K K1 := ⟨_, hK1⟩
  have a1 := aK.trans A1
  have hc1 := hcA A1
  have cc := bc.cell
  have ct := pt.cell
  have cq : cellsOf K1 K.length = some [.int .i64 s.id, vc, vt] := by rw [hK1]; unfold cellsOf; simp
  have bc1 := a1.bs bc
  have pt1 := pt.adds a1
  have eg := Bt.goodR bc1 (by have := ft.lc; omega) bl
  have et := rgoodC pt1 (by have := ft.lt; omega) bl ar
  have fs1 : FS K1 H.length w ats := fs.frT (Fr.adds A1 (fun _ => False)) fun _ _ h => h
  have hne : ∀ b, slb w = some b → b ≠ K.length := fun b hb h => by have := (FS.out fs b hb).2; omega
  have hK1 := hK1.symm
  have wt := pt.len
  rw [rgoodF, hem]
  have out : ∀ {x : Bool}, x = false → (Adds H K1) := fun _ => a1
  have w1 : IntKind.i64.wrap ((i : Int) - 1) = (i : Int) - 1 := wrap64 (by omega) (by omega)
  rw [lo]
  unfold l15x4
  by_cases c1 : s.id < 1
  ·have d1 := decide_eq_true c1
   rw [decide_eq_false (show ¬ 1 ≤ s.id by omega), Bool.false_and]
   simp -implicitDefEqProofs (maxSteps := 5000000) only [go_sem, Nat.reduceShiftRight, Nat.reduceAnd, Nat.reduceBNe, Int.reduceEq, Nat.reduceAdd, Nat.reduceSub, Nat.reduceMul, Nat.reduceLeDiff, reduceIte, reduceCtorEq, Nat.reduceBEq, Nat.reduceEqDiff, wrap64, runC_loop, runC_range, callF_fn, callV_fn, callV_yld, yield_eq, yieldBody, yieldRaw, roundMid, roundEnd, rangeEnd, Bool.not_not, put_cons, put_nil, trim_same, at_zero, at_add, set_zero, set_add, store_one, write_zero, write_add, write_head, write_succ, splice_one, splice_more, List.drop_nil, List.take_nil, cell_int, cell_bool, fillS, splice_one, idxA, Ex.isNormal, List.set_nil, List.length_set, List.all_cons, List.all_nil, Bool.and_self, and_self, true_and, and_true, List.getElem?_nil, Int.reduceLT, Int.reduceLE, Int.reduceToNat, Int.toNat_zero, Int.toNat_one, Int.reduceAdd, Int.reduceSub, Int.reduceMul, Int.reduceNeg, Int.reduceBEq, Int.reduceBNe, Int.reduceGE, Int.reduceGT, Nat.reduceLT, trim_keep, under_fn, under_ptr, under_sl, Nat.lt_irrefl, not_lt_add, trim_tail, keepOk, ABlk.vals, Int.cast_ofNat_Int, decide_true, decide_false, List.all_cons, List.all_nil, Nat.zero_mul, Nat.mul_one, Nat.one_mul, wl, hd, ix, hc, ht, hle, cellsA_agg, cc.2, ct.2, hK1, cq, d1, seqR_ret, outs_normal]
   exact ⟨a1, exF2 rfl ⟨rfl, .inr (by first | rfl | trivial)⟩⟩
  have d1 := decide_eq_false c1
  rw [decide_eq_true (show 1 ≤ s.id by omega), Bool.true_and]
  by_cases c2 : s.id > 1000000
  ·have d2 := decide_eq_true c2
   rw [decide_eq_false (show ¬ s.id ≤ 1000000 by omega), Bool.false_and]
   simp -implicitDefEqProofs (maxSteps := 5000000) only [go_sem, Nat.reduceShiftRight, Nat.reduceAnd, Nat.reduceBNe, Int.reduceEq, Nat.reduceAdd, Nat.reduceSub, Nat.reduceMul, Nat.reduceLeDiff, reduceIte, reduceCtorEq, Nat.reduceBEq, Nat.reduceEqDiff, wrap64, runC_loop, runC_range, callF_fn, callV_fn, callV_yld, yield_eq, yieldBody, yieldRaw, roundMid, roundEnd, rangeEnd, Bool.not_not, put_cons, put_nil, trim_same, at_zero, at_add, set_zero, set_add, store_one, write_zero, write_add, write_head, write_succ, splice_one, splice_more, List.drop_nil, List.take_nil, cell_int, cell_bool, fillS, splice_one, idxA, Ex.isNormal, List.set_nil, List.length_set, List.all_cons, List.all_nil, Bool.and_self, and_self, true_and, and_true, List.getElem?_nil, Int.reduceLT, Int.reduceLE, Int.reduceToNat, Int.toNat_zero, Int.toNat_one, Int.reduceAdd, Int.reduceSub, Int.reduceMul, Int.reduceNeg, Int.reduceBEq, Int.reduceBNe, Int.reduceGE, Int.reduceGT, Nat.reduceLT, trim_keep, under_fn, under_ptr, under_sl, Nat.lt_irrefl, not_lt_add, trim_tail, keepOk, ABlk.vals, Int.cast_ofNat_Int, decide_true, decide_false, List.all_cons, List.all_nil, Nat.zero_mul, Nat.mul_one, Nat.one_mul, wl, hd, ix, hc, ht, hle, cellsA_agg, cc.2, ct.2, hK1, cq, d1, d2, seqR_ret, outs_normal]
   exact ⟨a1, exF2 rfl ⟨rfl, .inr (by first | rfl | trivial)⟩⟩
  have d2 := decide_eq_false c2
  rw [decide_eq_true (show s.id ≤ 1000000 by omega), Bool.true_and]
  have pvc : (i = 0 ∧ pvOk (pvAt L i) s.id = true) ∨ (∃ n x b2 c2, i = n + 1 ∧ idxAddrS 3 v (.int .i64 (n : Int)) = some (.ptr b2 (n * 3)) ∧ cellsOf K1 b2 = some c2 ∧ c2[n * 3]? = some (.int .i64 x) ∧ pvOk (pvAt L i) s.id = decide (x < s.id)) := by
   cases i with
   | zero => exact .inl ⟨rfl, rfl⟩
   | succ n =>
    have hn : n < L.length := by omega
    have hy := List.getElem?_eq_getElem hn
    obtain ⟨b2, c2, _, _, ix2, hcy, r1, _⟩ := isC_row g hy
    exact .inr ⟨n, L[n].id, b2, c2, rfl, ix2, a1.cells hcy, r1, by rw [pvAt_succ hy]; rfl⟩
  rcases pvc with ⟨hi0, pv0⟩ | ⟨n, x, b2, c2', hin, ix2, hc2, r2, pv1⟩
  ·rw [pv0, Bool.true_and]
   have dz : decide ((i : Int) > 0) = false := decide_eq_false (by omega)
   rcases hg : Bt.goodS s.ch bl with _ | _ <;> rw [hg] at eg
   ·simp -implicitDefEqProofs (maxSteps := 5000000) only [go_sem, Nat.reduceShiftRight, Nat.reduceAnd, Nat.reduceBNe, Int.reduceEq, Nat.reduceAdd, Nat.reduceSub, Nat.reduceMul, Nat.reduceLeDiff, reduceIte, reduceCtorEq, Nat.reduceBEq, Nat.reduceEqDiff, wrap64, runC_loop, runC_range, callF_fn, callV_fn, callV_yld, yield_eq, yieldBody, yieldRaw, roundMid, roundEnd, rangeEnd, Bool.not_not, put_cons, put_nil, trim_same, at_zero, at_add, set_zero, set_add, store_one, write_zero, write_add, write_head, write_succ, splice_one, splice_more, List.drop_nil, List.take_nil, cell_int, cell_bool, fillS, splice_one, idxA, Ex.isNormal, List.set_nil, List.length_set, List.all_cons, List.all_nil, Bool.and_self, and_self, true_and, and_true, List.getElem?_nil, Int.reduceLT, Int.reduceLE, Int.reduceToNat, Int.toNat_zero, Int.toNat_one, Int.reduceAdd, Int.reduceSub, Int.reduceMul, Int.reduceNeg, Int.reduceBEq, Int.reduceBNe, Int.reduceGE, Int.reduceGT, Nat.reduceLT, trim_keep, under_fn, under_ptr, under_sl, Nat.lt_irrefl, not_lt_add, trim_tail, keepOk, ABlk.vals, Int.cast_ofNat_Int, decide_true, decide_false, List.all_cons, List.all_nil, Nat.zero_mul, Nat.mul_one, Nat.one_mul, wl, hd, ix, hc, ht, hle, cellsA_agg, cc.2, ct.2, hK1, cq, d1, d2, dz, eg, seqR_ret, outs_normal]
    exact ⟨a1, exF2 rfl ⟨rfl, .inr (by first | rfl | trivial)⟩⟩
   rcases hg2 : tgood s.tb bl ar with _ | _ <;> rw [hg2] at et
   ·simp -implicitDefEqProofs (maxSteps := 5000000) only [go_sem, Nat.reduceShiftRight, Nat.reduceAnd, Nat.reduceBNe, Int.reduceEq, Nat.reduceAdd, Nat.reduceSub, Nat.reduceMul, Nat.reduceLeDiff, reduceIte, reduceCtorEq, Nat.reduceBEq, Nat.reduceEqDiff, wrap64, runC_loop, runC_range, callF_fn, callV_fn, callV_yld, yield_eq, yieldBody, yieldRaw, roundMid, roundEnd, rangeEnd, Bool.not_not, put_cons, put_nil, trim_same, at_zero, at_add, set_zero, set_add, store_one, write_zero, write_add, write_head, write_succ, splice_one, splice_more, List.drop_nil, List.take_nil, cell_int, cell_bool, fillS, splice_one, idxA, Ex.isNormal, List.set_nil, List.length_set, List.all_cons, List.all_nil, Bool.and_self, and_self, true_and, and_true, List.getElem?_nil, Int.reduceLT, Int.reduceLE, Int.reduceToNat, Int.toNat_zero, Int.toNat_one, Int.reduceAdd, Int.reduceSub, Int.reduceMul, Int.reduceNeg, Int.reduceBEq, Int.reduceBNe, Int.reduceGE, Int.reduceGT, Nat.reduceLT, trim_keep, under_fn, under_ptr, under_sl, Nat.lt_irrefl, not_lt_add, trim_tail, keepOk, ABlk.vals, Int.cast_ofNat_Int, decide_true, decide_false, List.all_cons, List.all_nil, Nat.zero_mul, Nat.mul_one, Nat.one_mul, wl, hd, ix, hc, ht, hle, cellsA_agg, cc.2, ct.2, hK1, cq, d1, d2, dz, eg, et, seqR_ret, outs_normal]
    exact ⟨a1, exF2 rfl ⟨rfl, .inr (by first | rfl | trivial)⟩⟩
   have G := good_iff.1 hg2
   have l1 := rgooL1 fs1 (by omega) cq bc1 pt1 ft (fun p hp => by have := (G.rng p hp).1; omega) (k := s.tb.length) (i := 0)
   rw [show ((0 : Nat) : Int) = 0 from rfl, List.drop_zero] at l1
   rw [Bool.true_and, Bool.true_and]
   simp -implicitDefEqProofs (maxSteps := 5000000) only [go_sem, Nat.reduceShiftRight, Nat.reduceAnd, Nat.reduceBNe, Int.reduceEq, Nat.reduceAdd, Nat.reduceSub, Nat.reduceMul, Nat.reduceLeDiff, reduceIte, reduceCtorEq, Nat.reduceBEq, Nat.reduceEqDiff, wrap64, runC_loop, runC_range, callF_fn, callV_fn, callV_yld, yield_eq, yieldBody, yieldRaw, roundMid, roundEnd, rangeEnd, Bool.not_not, put_cons, put_nil, trim_same, at_zero, at_add, set_zero, set_add, store_one, write_zero, write_add, write_head, write_succ, splice_one, splice_more, List.drop_nil, List.take_nil, cell_int, cell_bool, fillS, splice_one, idxA, Ex.isNormal, List.set_nil, List.length_set, List.all_cons, List.all_nil, Bool.and_self, and_self, true_and, and_true, List.getElem?_nil, Int.reduceLT, Int.reduceLE, Int.reduceToNat, Int.toNat_zero, Int.toNat_one, Int.reduceAdd, Int.reduceSub, Int.reduceMul, Int.reduceNeg, Int.reduceBEq, Int.reduceBNe, Int.reduceGE, Int.reduceGT, Nat.reduceLT, trim_keep, under_fn, under_ptr, under_sl, Nat.lt_irrefl, not_lt_add, trim_tail, keepOk, ABlk.vals, Int.cast_ofNat_Int, decide_true, decide_false, List.all_cons, List.all_nil, Nat.zero_mul, Nat.mul_one, Nat.one_mul, runC_loop, wl, hd, ix, hc, ht, hle, cellsA_agg, cc.2, ct.2, hK1, cq, d1, d2, dz, eg, et]
   unfold LP1 at l1
   generalize (envL prog).loop (runC (envL prog) (l15x1 (envL prog))) = LL1 at l1 ⊢
   refine outs_ctx (fun r => seqR (seqR (blockR 1 (seqR (blockR 2 r) _)) _) _) (l1 _ _ _ _ _ _ _ _ _ _ _ _ _ _ _ _ _ _ _ _ _ _ _ _ _ _ _ _ _ _ _ _ _ _ _ _ _ _ _ _ _ _ _ _ _ _ _ _ _ _ _ _ _ _ _ _ _ _ _ _ _ _ _ _ _ _ _ _ _ _ _ _ _ _ _ _ _ _ _ _ _ _ _ _ _ _ _ _ _ _ _ _ _ _ _ _ _ _ _ _ _ _ _ _ _ _ _ _ _ _ _ _ _ _ _ _ _ _ _ _ _ _ _ _ _ _ _ _ _ _ _ _ _ _ _ _ (by omega)) ?_
   rintro e t K' ⟨rfl, fv, rfl, f6, ⟨rfl, ho⟩ | ⟨rfl, ho⟩⟩
   ·rw [ho, Bool.true_and]
    have l2 := rgooL2 (H := H) (q := K.length) (vc := vc) pt ft (k := s.tb.length) (i := 0) (K := K') (w := w) (ats := ats)
    rw [show ((0 : Nat) : Int) = 0 from rfl, List.drop_zero] at l2
    simp -implicitDefEqProofs (maxSteps := 5000000) only [go_sem, Nat.reduceShiftRight, Nat.reduceAnd, Nat.reduceBNe, Int.reduceEq, Nat.reduceAdd, Nat.reduceSub, Nat.reduceMul, Nat.reduceLeDiff, reduceIte, reduceCtorEq, Nat.reduceBEq, Nat.reduceEqDiff, wrap64, runC_loop, runC_range, callF_fn, callV_fn, callV_yld, yield_eq, yieldBody, yieldRaw, roundMid, roundEnd, rangeEnd, Bool.not_not, put_cons, put_nil, trim_same, at_zero, at_add, set_zero, set_add, store_one, write_zero, write_add, write_head, write_succ, splice_one, splice_more, List.drop_nil, List.take_nil, cell_int, cell_bool, fillS, splice_one, idxA, Ex.isNormal, List.set_nil, List.length_set, List.all_cons, List.all_nil, Bool.and_self, and_self, true_and, and_true, List.getElem?_nil, Int.reduceLT, Int.reduceLE, Int.reduceToNat, Int.toNat_zero, Int.toNat_one, Int.reduceAdd, Int.reduceSub, Int.reduceMul, Int.reduceNeg, Int.reduceBEq, Int.reduceBNe, Int.reduceGE, Int.reduceGT, Nat.reduceLT, trim_keep, under_fn, under_ptr, under_sl, Nat.lt_irrefl, not_lt_add, trim_tail, keepOk, ABlk.vals, Int.cast_ofNat_Int, decide_true, decide_false, List.all_cons, List.all_nil, Nat.zero_mul, Nat.mul_one, Nat.one_mul, runC_loop, f6]
    unfold LP1 at l2
    generalize (envL prog).loop (runC (envL prog) (l15x2 (envL prog))) = LL2 at l2 ⊢
    refine outs_ctx (fun r => seqR (seqR (blockR 1 (seqR (blockR 6 r) _)) _) _) (l2 _ _ _ _ _ _ _ _ _ _ _ _ _ _ _ _ _ _ _ _ _ _ _ _ _ _ _ _ _ _ _ _ _ _ _ _ _ _ _ _ _ _ _ _ _ _ _ _ _ _ _ _ _ _ _ _ _ _ _ _ _ _ _ _ _ _ _ _ _ _ _ _ _ _ _ _ _ _ _ _ _ _ _ _ _ _ _ _ _ _ _ _ _ _ _ _ _ _ _ _ _ _ _ _ _ _ _ _ _ _ _ _ _ _ _ _ _ _ _ _ _ _ _ _ _ _ _ _ _ _ _ _ _ _ _ _ _ a1 fs1 cq hne (by omega) (by omega)) ?_
    rintro e t K2 ⟨rfl, a2, cq2, fw, rfl, fs2⟩
    obtain ⟨cl, R, gr, ec⟩ := Bt.allR (a2.bs bc) (by have := ft.lc; omega)
    obtain ⟨K3, hK3⟩ : ∃ K3, K3 = K2 ++ R := ⟨_, rfl⟩
    have A3 : Adds K2 K3 := ⟨_, hK3⟩
    have isc : IS K3 cl (Bt.allS s.ch) := by rw [hK3]; exact Bt.Grown.is gr
    rw [← hK3] at ec
    have a3 := a2.trans A3
    have l3 := rgooL3 (n := L.length) (i0 := i) wl (by omega) hlt isc (by have := Bt.allS_len s.ch; have := ft.lc; omega) (A3.cells cq2) (pt.adds a3) ft (k := (Bt.allS s.ch).length) (j := 0)
    rw [show ((0 : Nat) : Int) = 0 from rfl, List.drop_zero] at l3
    simp -implicitDefEqProofs (maxSteps := 5000000) only [go_sem, Nat.reduceShiftRight, Nat.reduceAnd, Nat.reduceBNe, Int.reduceEq, Nat.reduceAdd, Nat.reduceSub, Nat.reduceMul, Nat.reduceLeDiff, reduceIte, reduceCtorEq, Nat.reduceBEq, Nat.reduceEqDiff, wrap64, runC_loop, runC_range, callF_fn, callV_fn, callV_yld, yield_eq, yieldBody, yieldRaw, roundMid, roundEnd, rangeEnd, Bool.not_not, put_cons, put_nil, trim_same, at_zero, at_add, set_zero, set_add, store_one, write_zero, write_add, write_head, write_succ, splice_one, splice_more, List.drop_nil, List.take_nil, cell_int, cell_bool, fillS, splice_one, idxA, Ex.isNormal, List.set_nil, List.length_set, List.all_cons, List.all_nil, Bool.and_self, and_self, true_and, and_true, List.getElem?_nil, Int.reduceLT, Int.reduceLE, Int.reduceToNat, Int.toNat_zero, Int.toNat_one, Int.reduceAdd, Int.reduceSub, Int.reduceMul, Int.reduceNeg, Int.reduceBEq, Int.reduceBNe, Int.reduceGE, Int.reduceGT, Nat.reduceLT, trim_keep, under_fn, under_ptr, under_sl, Nat.lt_irrefl, not_lt_add, trim_tail, keepOk, ABlk.vals, Int.cast_ofNat_Int, decide_true, decide_false, List.all_cons, List.all_nil, Nat.zero_mul, Nat.mul_one, Nat.one_mul, runC_loop, cq2, ec]
    unfold LP1 at l3
    generalize (envL prog).loop (runC (envL prog) (l15x3 (envL prog))) = LL3 at l3 ⊢
    refine outs_ctx (fun r => seqR (seqR (blockR 1 (blockR 8 r)) _) _) (l3 _ _ _ _ _ _ _ _ _ _ _ _ _ _ _ _ _ _ _ _ _ _ _ _ _ _ _ _ _ _ _ _ _ _ _ _ _ _ _ _ _ _ _ _ _ _ _ _ _ _ _ _ _ _ _ _ _ _ _ _ _ _ _ _ _ _ _ _ _ _ _ _ _ _ _ _ _ _ _ _ _ _ _ _ _ _ _ _ _ _ _ _ _ _ _ _ _ _ _ _ _ _ _ _ _ _ _ _ _ _ _ _ _ _ _ _ _ _ _ _ _ _ _ _ _ _ _ _ _ _ _ _ _ _ (by omega)) ?_
    rintro e t K4 ⟨rfl, fx, rfl, f6', ⟨rfl, ho2⟩ | ⟨rfl, ho2⟩⟩
    ·rw [ho2, Bool.true_and]
     have key := ih (i + 1) K4 (fw 7) (ats ++ s.tb.map (·.2))
     rw [hpv] at key
     simp -implicitDefEqProofs (maxSteps := 5000000) only [go_sem, Nat.reduceShiftRight, Nat.reduceAnd, Nat.reduceBNe, Int.reduceEq, Nat.reduceAdd, Nat.reduceSub, Nat.reduceMul, Nat.reduceLeDiff, reduceIte, reduceCtorEq, Nat.reduceBEq, Nat.reduceEqDiff, wrap64, runC_loop, runC_range, callF_fn, callV_fn, callV_yld, yield_eq, yieldBody, yieldRaw, roundMid, roundEnd, rangeEnd, Bool.not_not, put_cons, put_nil, trim_same, at_zero, at_add, set_zero, set_add, store_one, write_zero, write_add, write_head, write_succ, splice_one, splice_more, List.drop_nil, List.take_nil, cell_int, cell_bool, fillS, splice_one, idxA, Ex.isNormal, List.set_nil, List.length_set, List.all_cons, List.all_nil, Bool.and_self, and_self, true_and, and_true, List.getElem?_nil, Int.reduceLT, Int.reduceLE, Int.reduceToNat, Int.toNat_zero, Int.toNat_one, Int.reduceAdd, Int.reduceSub, Int.reduceMul, Int.reduceNeg, Int.reduceBEq, Int.reduceBNe, Int.reduceGE, Int.reduceGT, Nat.reduceLT, trim_keep, under_fn, under_ptr, under_sl, Nat.lt_irrefl, not_lt_add, trim_tail, keepOk, ABlk.vals, Int.cast_ofNat_Int, decide_true, decide_false, List.all_cons, List.all_nil, Nat.zero_mul, Nat.mul_one, Nat.one_mul, f6', e2]
     exact key _ _ _ _ _ _ _ _ _ _ _ _ _ _ _ _ _ _ _ _ _ _ _ _ _ _ _ _ _ _ _ _ _ _ _ _ _ _ _ _ _ _ _ _ _ _ _ _ _ _ _ _ _ _ _ _ _ _ _ _ _ _ _ _ _ _ _ _ _ _ _ _ _ _ _ _ _ _ _ _ _ _ _ _ _ _ _ _ _ _ _ _ _ _ _ _ _ _ _ _ _ _ _ _ _ _ _ _ _ _ _ _ _ _ _ _ _ _ _ _ _ _ _ _ _ _ _ _ a3 (fs2.frT (Fr.adds A3 (fun _ => False)) fun _ _ h => h) (by rw [List.length_append, List.length_map]; have := ft.lt; omega) (by omega)
    ·rw [ho2, Bool.false_and]
     simp -implicitDefEqProofs (maxSteps := 5000000) only [go_sem, Nat.reduceShiftRight, Nat.reduceAnd, Nat.reduceBNe, Int.reduceEq, Nat.reduceAdd, Nat.reduceSub, Nat.reduceMul, Nat.reduceLeDiff, reduceIte, reduceCtorEq, Nat.reduceBEq, Nat.reduceEqDiff, wrap64, runC_loop, runC_range, callF_fn, callV_fn, callV_yld, yield_eq, yieldBody, yieldRaw, roundMid, roundEnd, rangeEnd, Bool.not_not, put_cons, put_nil, trim_same, at_zero, at_add, set_zero, set_add, store_one, write_zero, write_add, write_head, write_succ, splice_one, splice_more, List.drop_nil, List.take_nil, cell_int, cell_bool, fillS, splice_one, idxA, Ex.isNormal, List.set_nil, List.length_set, List.all_cons, List.all_nil, Bool.and_self, and_self, true_and, and_true, List.getElem?_nil, Int.reduceLT, Int.reduceLE, Int.reduceToNat, Int.toNat_zero, Int.toNat_one, Int.reduceAdd, Int.reduceSub, Int.reduceMul, Int.reduceNeg, Int.reduceBEq, Int.reduceBNe, Int.reduceGE, Int.reduceGT, Nat.reduceLT, trim_keep, under_fn, under_ptr, under_sl, Nat.lt_irrefl, not_lt_add, trim_tail, keepOk, ABlk.vals, Int.cast_ofNat_Int, decide_true, decide_false, List.all_cons, List.all_nil, Nat.zero_mul, Nat.mul_one, Nat.one_mul, seqR_ret, outs_normal]
     exact ⟨a3, exF2 rfl ⟨f6', .inr (by first | rfl | trivial)⟩⟩
   ·rw [ho, Bool.false_and]
    simp -implicitDefEqProofs (maxSteps := 5000000) only [go_sem, Nat.reduceShiftRight, Nat.reduceAnd, Nat.reduceBNe, Int.reduceEq, Nat.reduceAdd, Nat.reduceSub, Nat.reduceMul, Nat.reduceLeDiff, reduceIte, reduceCtorEq, Nat.reduceBEq, Nat.reduceEqDiff, wrap64, runC_loop, runC_range, callF_fn, callV_fn, callV_yld, yield_eq, yieldBody, yieldRaw, roundMid, roundEnd, rangeEnd, Bool.not_not, put_cons, put_nil, trim_same, at_zero, at_add, set_zero, set_add, store_one, write_zero, write_add, write_head, write_succ, splice_one, splice_more, List.drop_nil, List.take_nil, cell_int, cell_bool, fillS, splice_one, idxA, Ex.isNormal, List.set_nil, List.length_set, List.all_cons, List.all_nil, Bool.and_self, and_self, true_and, and_true, List.getElem?_nil, Int.reduceLT, Int.reduceLE, Int.reduceToNat, Int.toNat_zero, Int.toNat_one, Int.reduceAdd, Int.reduceSub, Int.reduceMul, Int.reduceNeg, Int.reduceBEq, Int.reduceBNe, Int.reduceGE, Int.reduceGT, Nat.reduceLT, trim_keep, under_fn, under_ptr, under_sl, Nat.lt_irrefl, not_lt_add, trim_tail, keepOk, ABlk.vals, Int.cast_ofNat_Int, decide_true, decide_false, List.all_cons, List.all_nil, Nat.zero_mul, Nat.mul_one, Nat.one_mul, seqR_ret, outs_normal]
    exact ⟨a1, exF2 rfl ⟨f6, .inr (by first | rfl | trivial)⟩⟩
  ·have dz : decide ((i : Int) > 0) = true := decide_eq_true (by omega)
   have il2 : IntKind.i64.wrap ((i : Int) - 1) = (n : Int) := by rw [w1]; omega
   rw [pv1]
   by_cases hle2 : s.id ≤ x
   ·have dl := decide_eq_true hle2
    rw [decide_eq_false (show ¬ x < s.id by omega), Bool.false_and]
    simp -implicitDefEqProofs (maxSteps := 5000000) only [go_sem, Nat.reduceShiftRight, Nat.reduceAnd, Nat.reduceBNe, Int.reduceEq, Nat.reduceAdd, Nat.reduceSub, Nat.reduceMul, Nat.reduceLeDiff, reduceIte, reduceCtorEq, Nat.reduceBEq, Nat.reduceEqDiff, wrap64, runC_loop, runC_range, callF_fn, callV_fn, callV_yld, yield_eq, yieldBody, yieldRaw, roundMid, roundEnd, rangeEnd, Bool.not_not, put_cons, put_nil, trim_same, at_zero, at_add, set_zero, set_add, store_one, write_zero, write_add, write_head, write_succ, splice_one, splice_more, List.drop_nil, List.take_nil, cell_int, cell_bool, fillS, splice_one, idxA, Ex.isNormal, List.set_nil, List.length_set, List.all_cons, List.all_nil, Bool.and_self, and_self, true_and, and_true, List.getElem?_nil, Int.reduceLT, Int.reduceLE, Int.reduceToNat, Int.toNat_zero, Int.toNat_one, Int.reduceAdd, Int.reduceSub, Int.reduceMul, Int.reduceNeg, Int.reduceBEq, Int.reduceBNe, Int.reduceGE, Int.reduceGT, Nat.reduceLT, trim_keep, under_fn, under_ptr, under_sl, Nat.lt_irrefl, not_lt_add, trim_tail, keepOk, ABlk.vals, Int.cast_ofNat_Int, decide_true, decide_false, List.all_cons, List.all_nil, Nat.zero_mul, Nat.mul_one, Nat.one_mul, wl, hd, ix, hc, ht, hle, cellsA_agg, cc.2, ct.2, hK1, cq, d1, d2, dz, il2, ix2, hc2, r2, dl, seqR_ret, outs_normal]
    exact ⟨a1, exF2 rfl ⟨rfl, .inr (by first | rfl | trivial)⟩⟩
   have dl := decide_eq_false hle2
   rw [decide_eq_true (show x < s.id by omega), Bool.true_and]
   rcases hg : Bt.goodS s.ch bl with _ | _ <;> rw [hg] at eg
   ·simp -implicitDefEqProofs (maxSteps := 5000000) only [go_sem, Nat.reduceShiftRight, Nat.reduceAnd, Nat.reduceBNe, Int.reduceEq, Nat.reduceAdd, Nat.reduceSub, Nat.reduceMul, Nat.reduceLeDiff, reduceIte, reduceCtorEq, Nat.reduceBEq, Nat.reduceEqDiff, wrap64, runC_loop, runC_range, callF_fn, callV_fn, callV_yld, yield_eq, yieldBody, yieldRaw, roundMid, roundEnd, rangeEnd, Bool.not_not, put_cons, put_nil, trim_same, at_zero, at_add, set_zero, set_add, store_one, write_zero, write_add, write_head, write_succ, splice_one, splice_more, List.drop_nil, List.take_nil, cell_int, cell_bool, fillS, splice_one, idxA, Ex.isNormal, List.set_nil, List.length_set, List.all_cons, List.all_nil, Bool.and_self, and_self, true_and, and_true, List.getElem?_nil, Int.reduceLT, Int.reduceLE, Int.reduceToNat, Int.toNat_zero, Int.toNat_one, Int.reduceAdd, Int.reduceSub, Int.reduceMul, Int.reduceNeg, Int.reduceBEq, Int.reduceBNe, Int.reduceGE, Int.reduceGT, Nat.reduceLT, trim_keep, under_fn, under_ptr, under_sl, Nat.lt_irrefl, not_lt_add, trim_tail, keepOk, ABlk.vals, Int.cast_ofNat_Int, decide_true, decide_false, List.all_cons, List.all_nil, Nat.zero_mul, Nat.mul_one, Nat.one_mul, wl, hd, ix, hc, ht, hle, cellsA_agg, cc.2, ct.2, hK1, cq, d1, d2, dz, il2, ix2, hc2, r2, dl, eg, seqR_ret, outs_normal]
    exact ⟨a1, exF2 rfl ⟨rfl, .inr (by first | rfl | trivial)⟩⟩
   rcases hg2 : tgood s.tb bl ar with _ | _ <;> rw [hg2] at et
   ·simp -implicitDefEqProofs (maxSteps := 5000000) only [go_sem, Nat.reduceShiftRight, Nat.reduceAnd, Nat.reduceBNe, Int.reduceEq, Nat.reduceAdd, Nat.reduceSub, Nat.reduceMul, Nat.reduceLeDiff, reduceIte, reduceCtorEq, Nat.reduceBEq, Nat.reduceEqDiff, wrap64, runC_loop, runC_range, callF_fn, callV_fn, callV_yld, yield_eq, yieldBody, yieldRaw, roundMid, roundEnd, rangeEnd, Bool.not_not, put_cons, put_nil, trim_same, at_zero, at_add, set_zero, set_add, store_one, write_zero, write_add, write_head, write_succ, splice_one, splice_more, List.drop_nil, List.take_nil, cell_int, cell_bool, fillS, splice_one, idxA, Ex.isNormal, List.set_nil, List.length_set, List.all_cons, List.all_nil, Bool.and_self, and_self, true_and, and_true, List.getElem?_nil, Int.reduceLT, Int.reduceLE, Int.reduceToNat, Int.toNat_zero, Int.toNat_one, Int.reduceAdd, Int.reduceSub, Int.reduceMul, Int.reduceNeg, Int.reduceBEq, Int.reduceBNe, Int.reduceGE, Int.reduceGT, Nat.reduceLT, trim_keep, under_fn, under_ptr, under_sl, Nat.lt_irrefl, not_lt_add, trim_tail, keepOk, ABlk.vals, Int.cast_ofNat_Int, decide_true, decide_false, List.all_cons, List.all_nil, Nat.zero_mul, Nat.mul_one, Nat.one_mul, wl, hd, ix, hc, ht, hle, cellsA_agg, cc.2, ct.2, hK1, cq, d1, d2, dz, il2, ix2, hc2, r2, dl, eg, et, seqR_ret, outs_normal]
    exact ⟨a1, exF2 rfl ⟨rfl, .inr (by first | rfl | trivial)⟩⟩
   have G := good_iff.1 hg2
   have l1 := rgooL1 fs1 (by omega) cq bc1 pt1 ft (fun p hp => by have := (G.rng p hp).1; omega) (k := s.tb.length) (i := 0)
   rw [show ((0 : Nat) : Int) = 0 from rfl, List.drop_zero] at l1
   rw [Bool.true_and, Bool.true_and]
   simp -implicitDefEqProofs (maxSteps := 5000000) only [go_sem, Nat.reduceShiftRight, Nat.reduceAnd, Nat.reduceBNe, Int.reduceEq, Nat.reduceAdd, Nat.reduceSub, Nat.reduceMul, Nat.reduceLeDiff, reduceIte, reduceCtorEq, Nat.reduceBEq, Nat.reduceEqDiff, wrap64, runC_loop, runC_range, callF_fn, callV_fn, callV_yld, yield_eq, yieldBody, yieldRaw, roundMid, roundEnd, rangeEnd, Bool.not_not, put_cons, put_nil, trim_same, at_zero, at_add, set_zero, set_add, store_one, write_zero, write_add, write_head, write_succ, splice_one, splice_more, List.drop_nil, List.take_nil, cell_int, cell_bool, fillS, splice_one, idxA, Ex.isNormal, List.set_nil, List.length_set, List.all_cons, List.all_nil, Bool.and_self, and_self, true_and, and_true, List.getElem?_nil, Int.reduceLT, Int.reduceLE, Int.reduceToNat, Int.toNat_zero, Int.toNat_one, Int.reduceAdd, Int.reduceSub, Int.reduceMul, Int.reduceNeg, Int.reduceBEq, Int.reduceBNe, Int.reduceGE, Int.reduceGT, Nat.reduceLT, trim_keep, under_fn, under_ptr, under_sl, Nat.lt_irrefl, not_lt_add, trim_tail, keepOk, ABlk.vals, Int.cast_ofNat_Int, decide_true, decide_false, List.all_cons, List.all_nil, Nat.zero_mul, Nat.mul_one, Nat.one_mul, runC_loop, wl, hd, ix, hc, ht, hle, cellsA_agg, cc.2, ct.2, hK1, cq, d1, d2, dz, il2, ix2, hc2, r2, dl, eg, et]
   unfold LP1 at l1
   generalize (envL prog).loop (runC (envL prog) (l15x1 (envL prog))) = LL1 at l1 ⊢
   refine outs_ctx (fun r => seqR (seqR (blockR 1 (seqR (blockR 2 r) _)) _) _) (l1 _ _ _ _ _ _ _ _ _ _ _ _ _ _ _ _ _ _ _ _ _ _ _ _ _ _ _ _ _ _ _ _ _ _ _ _ _ _ _ _ _ _ _ _ _ _ _ _ _ _ _ _ _ _ _ _ _ _ _ _ _ _ _ _ _ _ _ _ _ _ _ _ _ _ _ _ _ _ _ _ _ _ _ _ _ _ _ _ _ _ _ _ _ _ _ _ _ _ _ _ _ _ _ _ _ _ _ _ _ _ _ _ _ _ _ _ _ _ _ _ _ _ _ _ _ _ _ _ _ _ _ _ _ _ _ _ (by omega)) ?_
   rintro e t K' ⟨rfl, fv, rfl, f6, ⟨rfl, ho⟩ | ⟨rfl, ho⟩⟩
   ·rw [ho, Bool.true_and]
    have l2 := rgooL2 (H := H) (q := K.length) (vc := vc) pt ft (k := s.tb.length) (i := 0) (K := K') (w := w) (ats := ats)
    rw [show ((0 : Nat) : Int) = 0 from rfl, List.drop_zero] at l2
    simp -implicitDefEqProofs (maxSteps := 5000000) only [go_sem, Nat.reduceShiftRight, Nat.reduceAnd, Nat.reduceBNe, Int.reduceEq, Nat.reduceAdd, Nat.reduceSub, Nat.reduceMul, Nat.reduceLeDiff, reduceIte, reduceCtorEq, Nat.reduceBEq, Nat.reduceEqDiff, wrap64, runC_loop, runC_range, callF_fn, callV_fn, callV_yld, yield_eq, yieldBody, yieldRaw, roundMid, roundEnd, rangeEnd, Bool.not_not, put_cons, put_nil, trim_same, at_zero, at_add, set_zero, set_add, store_one, write_zero, write_add, write_head, write_succ, splice_one, splice_more, List.drop_nil, List.take_nil, cell_int, cell_bool, fillS, splice_one, idxA, Ex.isNormal, List.set_nil, List.length_set, List.all_cons, List.all_nil, Bool.and_self, and_self, true_and, and_true, List.getElem?_nil, Int.reduceLT, Int.reduceLE, Int.reduceToNat, Int.toNat_zero, Int.toNat_one, Int.reduceAdd, Int.reduceSub, Int.reduceMul, Int.reduceNeg, Int.reduceBEq, Int.reduceBNe, Int.reduceGE, Int.reduceGT, Nat.reduceLT, trim_keep, under_fn, under_ptr, under_sl, Nat.lt_irrefl, not_lt_add, trim_tail, keepOk, ABlk.vals, Int.cast_ofNat_Int, decide_true, decide_false, List.all_cons, List.all_nil, Nat.zero_mul, Nat.mul_one, Nat.one_mul, runC_loop, f6]
    unfold LP1 at l2
    generalize (envL prog).loop (runC (envL prog) (l15x2 (envL prog))) = LL2 at l2 ⊢
    refine outs_ctx (fun r => seqR (seqR (blockR 1 (seqR (blockR 6 r) _)) _) _) (l2 _ _ _ _ _ _ _ _ _ _ _ _ _ _ _ _ _ _ _ _ _ _ _ _ _ _ _ _ _ _ _ _ _ _ _ _ _ _ _ _ _ _ _ _ _ _ _ _ _ _ _ _ _ _ _ _ _ _ _ _ _ _ _ _ _ _ _ _ _ _ _ _ _ _ _ _ _ _ _ _ _ _ _ _ _ _ _ _ _ _ _ _ _ _ _ _ _ _ _ _ _ _ _ _ _ _ _ _ _ _ _ _ _ _ _ _ _ _ _ _ _ _ _ _ _ _ _ _ _ _ _ _ _ _ _ _ _ a1 fs1 cq hne (by omega) (by omega)) ?_
    rintro e t K2 ⟨rfl, a2, cq2, fw, rfl, fs2⟩
    obtain ⟨cl, R, gr, ec⟩ := Bt.allR (a2.bs bc) (by have := ft.lc; omega)
    obtain ⟨K3, hK3⟩ : ∃ K3, K3 = K2 ++ R := ⟨_, rfl⟩
    have A3 : Adds K2 K3 := ⟨_, hK3⟩
    have isc : IS K3 cl (Bt.allS s.ch) := by rw [hK3]; exact Bt.Grown.is gr
    rw [← hK3] at ec
    have a3 := a2.trans A3
    have l3 := rgooL3 (n := L.length) (i0 := i) wl (by omega) hlt isc (by have := Bt.allS_len s.ch; have := ft.lc; omega) (A3.cells cq2) (pt.adds a3) ft (k := (Bt.allS s.ch).length) (j := 0)
    rw [show ((0 : Nat) : Int) = 0 from rfl, List.drop_zero] at l3
    simp -implicitDefEqProofs (maxSteps := 5000000) only [go_sem, Nat.reduceShiftRight, Nat.reduceAnd, Nat.reduceBNe, Int.reduceEq, Nat.reduceAdd, Nat.reduceSub, Nat.reduceMul, Nat.reduceLeDiff, reduceIte, reduceCtorEq, Nat.reduceBEq, Nat.reduceEqDiff, wrap64, runC_loop, runC_range, callF_fn, callV_fn, callV_yld, yield_eq, yieldBody, yieldRaw, roundMid, roundEnd, rangeEnd, Bool.not_not, put_cons, put_nil, trim_same, at_zero, at_add, set_zero, set_add, store_one, write_zero, write_add, write_head, write_succ, splice_one, splice_more, List.drop_nil, List.take_nil, cell_int, cell_bool, fillS, splice_one, idxA, Ex.isNormal, List.set_nil, List.length_set, List.all_cons, List.all_nil, Bool.and_self, and_self, true_and, and_true, List.getElem?_nil, Int.reduceLT, Int.reduceLE, Int.reduceToNat, Int.toNat_zero, Int.toNat_one, Int.reduceAdd, Int.reduceSub, Int.reduceMul, Int.reduceNeg, Int.reduceBEq, Int.reduceBNe, Int.reduceGE, Int.reduceGT, Nat.reduceLT, trim_keep, under_fn, under_ptr, under_sl, Nat.lt_irrefl, not_lt_add, trim_tail, keepOk, ABlk.vals, Int.cast_ofNat_Int, decide_true, decide_false, List.all_cons, List.all_nil, Nat.zero_mul, Nat.mul_one, Nat.one_mul, runC_loop, cq2, ec]
    unfold LP1 at l3
    generalize (envL prog).loop (runC (envL prog) (l15x3 (envL prog))) = LL3 at l3 ⊢
    refine outs_ctx (fun r => seqR (seqR (blockR 1 (blockR 8 r)) _) _) (l3 _ _ _ _ _ _ _ _ _ _ _ _ _ _ _ _ _ _ _ _ _ _ _ _ _ _ _ _ _ _ _ _ _ _ _ _ _ _ _ _ _ _ _ _ _ _ _ _ _ _ _ _ _ _ _ _ _ _ _ _ _ _ _ _ _ _ _ _ _ _ _ _ _ _ _ _ _ _ _ _ _ _ _ _ _ _ _ _ _ _ _ _ _ _ _ _ _ _ _ _ _ _ _ _ _ _ _ _ _ _ _ _ _ _ _ _ _ _ _ _ _ _ _ _ _ _ _ _ _ _ _ _ _ _ (by omega)) ?_
    rintro e t K4 ⟨rfl, fx, rfl, f6', ⟨rfl, ho2⟩ | ⟨rfl, ho2⟩⟩
    ·rw [ho2, Bool.true_and]
     have key := ih (i + 1) K4 (fw 7) (ats ++ s.tb.map (·.2))
     rw [hpv] at key
     simp -implicitDefEqProofs (maxSteps := 5000000) only [go_sem, Nat.reduceShiftRight, Nat.reduceAnd, Nat.reduceBNe, Int.reduceEq, Nat.reduceAdd, Nat.reduceSub, Nat.reduceMul, Nat.reduceLeDiff, reduceIte, reduceCtorEq, Nat.reduceBEq, Nat.reduceEqDiff, wrap64, runC_loop, runC_range, callF_fn, callV_fn, callV_yld, yield_eq, yieldBody, yieldRaw, roundMid, roundEnd, rangeEnd, Bool.not_not, put_cons, put_nil, trim_same, at_zero, at_add, set_zero, set_add, store_one, write_zero, write_add, write_head, write_succ, splice_one, splice_more, List.drop_nil, List.take_nil, cell_int, cell_bool, fillS, splice_one, idxA, Ex.isNormal, List.set_nil, List.length_set, List.all_cons, List.all_nil, Bool.and_self, and_self, true_and, and_true, List.getElem?_nil, Int.reduceLT, Int.reduceLE, Int.reduceToNat, Int.toNat_zero, Int.toNat_one, Int.reduceAdd, Int.reduceSub, Int.reduceMul, Int.reduceNeg, Int.reduceBEq, Int.reduceBNe, Int.reduceGE, Int.reduceGT, Nat.reduceLT, trim_keep, under_fn, under_ptr, under_sl, Nat.lt_irrefl, not_lt_add, trim_tail, keepOk, ABlk.vals, Int.cast_ofNat_Int, decide_true, decide_false, List.all_cons, List.all_nil, Nat.zero_mul, Nat.mul_one, Nat.one_mul, f6', e2]
     exact key _ _ _ _ _ _ _ _ _ _ _ _ _ _ _ _ _ _ _ _ _ _ _ _ _ _ _ _ _ _ _ _ _ _ _ _ _ _ _ _ _ _ _ _ _ _ _ _ _ _ _ _ _ _ _ _ _ _ _ _ _ _ _ _ _ _ _ _ _ _ _ _ _ _ _ _ _ _ _ _ _ _ _ _ _ _ _ _ _ _ _ _ _ _ _ _ _ _ _ _ _ _ _ _ _ _ _ _ _ _ _ _ _ _ _ _ _ _ _ _ _ _ _ _ _ _ _ _ a3 (fs2.frT (Fr.adds A3 (fun _ => False)) fun _ _ h => h) (by rw [List.length_append, List.length_map]; have := ft.lt; omega) (by omega)
    ·rw [ho2, Bool.false_and]
     simp -implicitDefEqProofs (maxSteps := 5000000) only [go_sem, Nat.reduceShiftRight, Nat.reduceAnd, Nat.reduceBNe, Int.reduceEq, Nat.reduceAdd, Nat.reduceSub, Nat.reduceMul, Nat.reduceLeDiff, reduceIte, reduceCtorEq, Nat.reduceBEq, Nat.reduceEqDiff, wrap64, runC_loop, runC_range, callF_fn, callV_fn, callV_yld, yield_eq, yieldBody, yieldRaw, roundMid, roundEnd, rangeEnd, Bool.not_not, put_cons, put_nil, trim_same, at_zero, at_add, set_zero, set_add, store_one, write_zero, write_add, write_head, write_succ, splice_one, splice_more, List.drop_nil, List.take_nil, cell_int, cell_bool, fillS, splice_one, idxA, Ex.isNormal, List.set_nil, List.length_set, List.all_cons, List.all_nil, Bool.and_self, and_self, true_and, and_true, List.getElem?_nil, Int.reduceLT, Int.reduceLE, Int.reduceToNat, Int.toNat_zero, Int.toNat_one, Int.reduceAdd, Int.reduceSub, Int.reduceMul, Int.reduceNeg, Int.reduceBEq, Int.reduceBNe, Int.reduceGE, Int.reduceGT, Nat.reduceLT, trim_keep, under_fn, under_ptr, under_sl, Nat.lt_irrefl, not_lt_add, trim_tail, keepOk, ABlk.vals, Int.cast_ofNat_Int, decide_true, decide_false, List.all_cons, List.all_nil, Nat.zero_mul, Nat.mul_one, Nat.one_mul, seqR_ret, outs_normal]
     exact ⟨a3, exF2 rfl ⟨f6', .inr (by first | rfl | trivial)⟩⟩
   ·rw [ho, Bool.false_and]
    simp -implicitDefEqProofs (maxSteps := 5000000) only [go_sem, Nat.reduceShiftRight, Nat.reduceAnd, Nat.reduceBNe, Int.reduceEq, Nat.reduceAdd, Nat.reduceSub, Nat.reduceMul, Nat.reduceLeDiff, reduceIte, reduceCtorEq, Nat.reduceBEq, Nat.reduceEqDiff, wrap64, runC_loop, runC_range, callF_fn, callV_fn, callV_yld, yield_eq, yieldBody, yieldRaw, roundMid, roundEnd, rangeEnd, Bool.not_not, put_cons, put_nil, trim_same, at_zero, at_add, set_zero, set_add, store_one, write_zero, write_add, write_head, write_succ, splice_one, splice_more, List.drop_nil, List.take_nil, cell_int, cell_bool, fillS, splice_one, idxA, Ex.isNormal, List.set_nil, List.length_set, List.all_cons, List.all_nil, Bool.and_self, and_self, true_and, and_true, List.getElem?_nil, Int.reduceLT, Int.reduceLE, Int.reduceToNat, Int.toNat_zero, Int.toNat_one, Int.reduceAdd, Int.reduceSub, Int.reduceMul, Int.reduceNeg, Int.reduceBEq, Int.reduceBNe, Int.reduceGE, Int.reduceGT, Nat.reduceLT, trim_keep, under_fn, under_ptr, under_sl, Nat.lt_irrefl, not_lt_add, trim_tail, keepOk, ABlk.vals, Int.cast_ofNat_Int, decide_true, decide_false, List.all_cons, List.all_nil, Nat.zero_mul, Nat.mul_one, Nat.one_mul, seqR_ret, outs_normal]
    exact ⟨a1, exF2 rfl ⟨f6, .inr (by first | rfl | trivial)⟩⟩
theorem rcgoodC : (envL prog).call 15 [v, .int .i64 bl, .int .i64 ar] H = some (.bool (rgoodF bl ar L none []), H) := by
 have wl := g.len
 have d8 : decide ((L.length : Int) > 8) = false := decide_eq_false (by omega)
 have l0 := rgooL4 g fi h8 hbl ar (k := L.length) (i := 0) (K := H) (w := .nilSl) (ats := [])
 rw [show ((0 : Nat) : Int) = 0 from rfl, List.drop_zero, show pvAt L 0 = none from rfl] at l0
 have key : Outs (runC (envL prog) (b15 (envL prog)) ([v, .int .i64 bl, .int .i64 ar] ++ List.replicate (140 - [v, AV.int .i64 bl, .int .i64 ar].length) .undef) H) fun e' t K => Adds H K ∧ fin [.tmp 6] (some (e', t, K)) = some (.bool (rgoodF bl ar L none []), K) := by
  unfold b15
  generalize hQ : (fun (e' : Ex) (t : T) (K : AHeap) => Adds H K ∧ fin [.tmp 6] (some (e', t, K)) = some (AV.bool (rgoodF bl ar L none []), K)) = Q
  simp -implicitDefEqProofs (maxSteps := 5000000) only [go_sem, Nat.reduceShiftRight, Nat.reduceAnd, Nat.reduceBNe, Int.reduceEq, Nat.reduceAdd, Nat.reduceSub, Nat.reduceMul, Nat.reduceLeDiff, reduceIte, reduceCtorEq, Nat.reduceBEq, Nat.reduceEqDiff, wrap64, runC_loop, runC_range, callF_fn, callV_fn, callV_yld, yield_eq, yieldBody, yieldRaw, roundMid, roundEnd, rangeEnd, Bool.not_not, put_cons, put_nil, trim_same, at_zero, at_add, set_zero, set_add, store_one, write_zero, write_add, write_head, write_succ, splice_one, splice_more, List.drop_nil, List.take_nil, cell_int, cell_bool, fillS, splice_one, idxA, Ex.isNormal, List.set_nil, List.length_set, List.all_cons, List.all_nil, Bool.and_self, and_self, true_and, and_true, List.getElem?_nil, Int.reduceLT, Int.reduceLE, Int.reduceToNat, Int.toNat_zero, Int.toNat_one, Int.reduceAdd, Int.reduceSub, Int.reduceMul, Int.reduceNeg, Int.reduceBEq, Int.reduceBNe, Int.reduceGE, Int.reduceGT, Nat.reduceLT, trim_keep, under_fn, under_ptr, under_sl, Nat.lt_irrefl, not_lt_add, trim_tail, keepOk, ABlk.vals, Int.cast_ofNat_Int, decide_true, decide_false, List.all_cons, List.all_nil, Nat.zero_mul, Nat.mul_one, Nat.one_mul, runC_loop, wl, d8]
  unfold LP1 at l0
  generalize (envL prog).loop (runC (envL prog) (l15x4 (envL prog))) = L0 at l0 ⊢
  refine outs_ctx (fun r => seqR (blockR 0 r) _) (l0 _ _ _ _ _ _ _ _ _ _ _ _ _ _ _ _ _ _ _ _ _ _ _ _ _ _ _ _ _ _ _ _ _ _ _ _ _ _ _ _ _ _ _ _ _ _ _ _ _ _ _ _ _ _ _ _ _ _ _ _ _ _ _ _ _ _ _ _ _ _ _ _ _ _ _ _ _ _ _ _ _ _ _ _ _ _ _ _ _ _ _ _ _ _ _ _ _ _ _ _ _ _ _ _ _ _ _ _ _ _ _ _ _ _ _ _ _ _ _ _ _ _ _ _ _ _ _ _ _ _ _ _ _ _ (Adds.refl H) (.inl ⟨rfl, rfl⟩) (by simp) (by omega)) ?_
  rintro e t K ⟨aK, fv, rfl, f6, ⟨rfl, ho⟩ | ⟨rfl, ho⟩⟩
  ·simp -implicitDefEqProofs (maxSteps := 5000000) only [go_sem, Nat.reduceShiftRight, Nat.reduceAnd, Nat.reduceBNe, Int.reduceEq, Nat.reduceAdd, Nat.reduceSub, Nat.reduceMul, Nat.reduceLeDiff, reduceIte, reduceCtorEq, Nat.reduceBEq, Nat.reduceEqDiff, outs_normal]
   subst hQ
   rw [ho]
   refine ⟨aK, ?_⟩
   simp -implicitDefEqProofs (maxSteps := 5000000) only [go_sem, Nat.reduceShiftRight, Nat.reduceAnd, Nat.reduceBNe, Int.reduceEq, Nat.reduceAdd, Nat.reduceSub, Nat.reduceMul, Nat.reduceLeDiff, reduceIte, reduceCtorEq, Nat.reduceBEq, Nat.reduceEqDiff]
  ·simp -implicitDefEqProofs (maxSteps := 5000000) only [go_sem, Nat.reduceShiftRight, Nat.reduceAnd, Nat.reduceBNe, Int.reduceEq, Nat.reduceAdd, Nat.reduceSub, Nat.reduceMul, Nat.reduceLeDiff, reduceIte, reduceCtorEq, Nat.reduceBEq, Nat.reduceEqDiff, outs_normal]
   subst hQ
   rw [ho]
   refine ⟨aK, ?_⟩
   simp -implicitDefEqProofs (maxSteps := 5000000) only [go_sem, Nat.reduceShiftRight, Nat.reduceAnd, Nat.reduceBNe, Int.reduceEq, Nat.reduceAdd, Nat.reduceSub, Nat.reduceMul, Nat.reduceLeDiff, reduceIte, reduceCtorEq, Nat.reduceBEq, Nat.reduceEqDiff, f6]
 obtain ⟨e', t, K, hr, aK, hf⟩ := key
 rw [c15, hr, hf]
 exact aK.trimS rfl
end
theorem rcgood {H : AHeap} {v : AV} {L : List SnS} (g : IsC H v L) (fi : Fits L) {bl : Int} (hbl : bl ≤ 9223372036854775807) (ar : Int) : (envL prog).call 15 [v, .int .i64 bl, .int .i64 ar] H = some (.bool (cgood L bl ar), H) := by
 by_cases h8 : L.length ≤ 8
 ·rw [rcgoodC g fi h8 hbl ar, rgood_eq bl ar L none [] fun s hs => (fi.2 s hs).u8]
  unfold cgood; rw [decide_eq_true h8]; rfl
 ·have wl := g.len
  have d8 : decide ((L.length : Int) > 8) = true := decide_eq_true (by omega)
  have hs : cgood L bl ar = false := by unfold cgood; rw [decide_eq_false h8]; rfl
  rw [hs, c15]
  unfold b15
  simp -implicitDefEqProofs (maxSteps := 5000000) only [go_sem, Nat.reduceShiftRight, Nat.reduceAnd, Nat.reduceBNe, Int.reduceEq, Nat.reduceAdd, Nat.reduceSub, Nat.reduceMul, Nat.reduceLeDiff, reduceIte, reduceCtorEq, Nat.reduceBEq, Nat.reduceEqDiff, wrap64, runC_loop, runC_range, callF_fn, callV_fn, callV_yld, yield_eq, yieldBody, yieldRaw, roundMid, roundEnd, rangeEnd, Bool.not_not, put_cons, put_nil, trim_same, at_zero, at_add, set_zero, set_add, store_one, write_zero, write_add, write_head, write_succ, splice_one, splice_more, List.drop_nil, List.take_nil, cell_int, cell_bool, fillS, splice_one, idxA, Ex.isNormal, List.set_nil, List.length_set, List.all_cons, List.all_nil, Bool.and_self, and_self, true_and, and_true, List.getElem?_nil, Int.reduceLT, Int.reduceLE, Int.reduceToNat, Int.toNat_zero, Int.toNat_one, Int.reduceAdd, Int.reduceSub, Int.reduceMul, Int.reduceNeg, Int.reduceBEq, Int.reduceBNe, Int.reduceGE, Int.reduceGT, Nat.reduceLT, trim_keep, under_fn, under_ptr, under_sl, Nat.lt_irrefl, not_lt_add, trim_tail, keepOk, ABlk.vals, Int.cast_ofNat_Int, decide_true, decide_false, List.all_cons, List.all_nil, Nat.zero_mul, Nat.mul_one, Nat.one_mul, wl, d8]
end Go.Proofs.Ythhodjcgcgkaaaa.G11
end
section
namespace Go.Proofs.Ythhodjcgcgkaaaa.G11
open Go Go.Proofs.Ythhodjcgcgkaaaa.Eng
def L3 : List SnS := [⟨1, [6], [(1, 0), (2, 1)]⟩, ⟨4, [12], [(2, 2), (3, 3)]⟩, ⟨5, [16], []⟩]
def K3 : AHeap := [.rw [.int .u8 6], .rw [.int .i64 1, .int .i64 0, .int .i64 2, .int .i64 1], .rw [.int .u8 12], .rw [.int .i64 2, .int .i64 2, .int .i64 3, .int .i64 3], .rw [.int .u8 16], .rw [.int .i64 1, .sl 0 0 1 1 1 true, .sl 1 0 2 2 2 true, .int .i64 4, .sl 2 0 1 1 1 true, .sl 3 0 2 2 2 true, .int .i64 5, .sl 4 0 1 1 1 true, .nilSl]]
set_option maxHeartbeats 4000000 in
theorem threeC : (envL prog).call 31 [] [] = some (.sl 5 0 3 3 3 true, K3) := by
 rw [c31]
 unfold b31
 simp -implicitDefEqProofs (maxSteps := 5000000) only [go_sem, Nat.reduceShiftRight, Nat.reduceAnd, Nat.reduceBNe, Int.reduceEq, Nat.reduceAdd, Nat.reduceSub, Nat.reduceMul, Nat.reduceLeDiff, reduceIte, reduceCtorEq, Nat.reduceBEq, Nat.reduceEqDiff, wrap64, runC_loop, runC_range, callF_fn, callV_fn, callV_yld, yield_eq, yieldBody, yieldRaw, roundMid, roundEnd, rangeEnd, Bool.not_not, put_cons, put_nil, trim_same, at_zero, at_add, set_zero, set_add, store_one, write_zero, write_add, write_head, write_succ, splice_one, splice_more, List.drop_nil, List.take_nil, cell_int, cell_bool, fillS, splice_one, idxA, Ex.isNormal, List.set_nil, List.length_set, List.all_cons, List.all_nil, Bool.and_self, and_self, true_and, and_true, List.getElem?_nil, Int.reduceLT, Int.reduceLE, Int.reduceToNat, Int.toNat_zero, Int.toNat_one, Int.reduceAdd, Int.reduceSub, Int.reduceMul, Int.reduceNeg, Int.reduceBEq, Int.reduceBNe, Int.reduceGE, Int.reduceGT, Nat.reduceLT, trim_keep, under_fn, under_ptr, under_sl, Nat.lt_irrefl, not_lt_add, trim_tail, keepOk, ABlk.vals, Int.cast_ofNat_Int, decide_true, decide_false, List.all_cons, List.all_nil, Nat.zero_mul, Nat.mul_one, Nat.one_mul, cellsA_agg]
 rfl
theorem isC3 : IsC K3 (.sl 5 0 3 3 3 true) L3 := by
 refine .inr ⟨5, 3, true, [[.int .i64 1, .sl 0 0 1 1 1 true, .sl 1 0 2 2 2 true], [.int .i64 4, .sl 2 0 1 1 1 true, .sl 3 0 2 2 2 true], [.int .i64 5, .sl 4 0 1 1 1 true, .nilSl]], [], rfl, by decide, rfl, rfl, fun i r s h1 h2 => ?_⟩
 match i with
 | 0 =>
  simp only [L3, List.getElem?_cons_zero, Option.some.injEq] at h1 h2
  subst h1; subst h2
  exact ⟨_, _, rfl, BS.block (H := K3) (b := 0) (zs := [6]) (l := 1) (e := true) rfl, .inr ⟨1, 2, true, rfl, by decide, rfl⟩⟩
 | 1 =>
  simp only [L3, List.getElem?_cons_succ, List.getElem?_cons_zero, Option.some.injEq] at h1 h2
  subst h1; subst h2
  exact ⟨_, _, rfl, BS.block (H := K3) (b := 2) (zs := [12]) (l := 1) (e := true) rfl, .inr ⟨3, 2, true, rfl, by decide, rfl⟩⟩
 | 2 =>
  simp only [L3, List.getElem?_cons_succ, List.getElem?_cons_zero, Option.some.injEq] at h1 h2
  subst h1; subst h2
  exact ⟨_, _, rfl, BS.block (H := K3) (b := 4) (zs := [16]) (l := 1) (e := true) rfl, .inl ⟨rfl, rfl⟩⟩
 | n + 3 => simp [L3] at h2
theorem fits3 : Fits L3 := ⟨by decide, fun s hs => by
 simp only [L3, List.mem_cons, List.mem_nil_iff, or_false] at hs
 rcases hs with rfl | rfl | rfl <;> exact ⟨by unfold IsU8; decide, by decide, by decide⟩⟩
noncomputable def XD : Over := X3.up prog 22
theorem xd_ok : XD.Ok prog := up_ok goodP x3_ok _
theorem xd_call (f : Nat) (args : List AV) (h : AHeap) (ed : (f == 22) = false) (em : (f == 44) = false) (e0 : (f == 61) = false) (e1 : (f == 69) = false) (e2 : (f == 70) = false) : (envX prog XD).call f args h = (envL prog).call f args h := by
 unfold XD Over.up; rw [x_miss _ _ ed, x3_call _ _ _ em e0 e1 e2]
theorem xd_drop {args : List AV} {h : AHeap} {r : AV × AHeap} (e : callBody prog (envX prog X3) 22 args h = some r) : (envX prog XD).call 22 args h = some r := x_hit e
set_option maxHeartbeats 8000000 in
theorem wakesC : ∃ h1, callBody prog (envX prog XD) 10 [] [] = some (.bool true, h1) := by
 have e0 := threeC
 obtain ⟨v1, K1, e1, a1, g1⟩ := dropC isC3 fits3 1
 have e1 := xd_drop e1
 rw [show dropS L3 1 = [⟨1, [14], [(1, 0), (2, 1), (3, 3)]⟩, ⟨5, [16], []⟩] by decide +kernel] at g1
 have c3 := isC3.adds a1
 obtain ⟨v2, K2, e2, a2, g2⟩ := cutC c3 fits3 1
 rw [show cutS L3 1 = [⟨1, [6], [(1, 0), (2, 1)]⟩, ⟨4, [0], []⟩] by decide +kernel] at g2
 have c3 := c3.adds a2
 have g1 := g1.adds a2
 have e3 := holderC c3 fits3 3 0
 have e4 := holderC c3 fits3 4 0
 rw [show holdS L3 0 3 = (3, true) by decide +kernel] at e3
 rw [show holdS L3 0 4 = (0, false) by decide +kernel] at e4
 have e5 := cgoodC c3 fits3 (bl := 8) (by decide) 4
 rw [show cgood L3 8 4 = true by decide +kernel] at e5
 have e6 := cindexC c3 fits3 5
 have e7 := cindexC c3 fits3 2
 rw [show cidF 5 0 L3 = 2 by decide +kernel] at e6
 rw [show cidF 2 0 L3 = -1 by decide +kernel] at e7
 obtain ⟨v3, K4, e8, a3, g3⟩ := changedC c3 fits3 2 0
 rw [show chgS L3 0 2 = [14] by decide +kernel] at g3
 have A4 : Adds K4 (K4 ++ [ABlk.rw [.int .u8 14]]) := ⟨_, rfl⟩
 have e9 := Bt.bytesC (A4.bs g3) (w := .sl K4.length 0 1 1 1 true) (ys := [14]) (BS.block (H := K4 ++ [ABlk.rw [.int .u8 14]]) (b := K4.length) (zs := [14]) (l := 1) (e := true) (by simp; rfl)) (by unfold IsU8; decide) (by unfold IsU8; decide)
 rw [show decide (([14] : List Int) = [14]) = true by decide] at e9
 have l1 := g1.len
 have l2 := g2.len
 obtain ⟨b1, cs1, vc1, vt1, _, ix1, hc1, _, q1, q2, _, _, bc1, pt1⟩ := g1.idx (i := 0) (s := ⟨1, [14], [(1, 0), (2, 1), (3, 3)]⟩) rfl
 obtain ⟨b2, cs2, vc2, vt2, _, ix2, hc2, _, r1, r2, _, _, bc2, pt2⟩ := g2.idx (i := 1) (s := ⟨4, [0], []⟩) rfl
 have m1 := pt1.len
 have m2 := pt2.len
 obtain ⟨p1, jx1, ld1⟩ := bc1.idx (i := 0) (z := 14) rfl .i64
 obtain ⟨p2, jx2, ld2⟩ := bc2.idx (i := 0) (z := 0) rfl .i64
 rw [show (((0 : Nat)) : Int) = 0 from rfl] at ix1 jx1 jx2
 rw [show (((1 : Nat)) : Int) = 1 from rfl] at ix2
 simp only [List.length_cons, List.length_nil] at l1 l2 m1 m2
 simp only [Nat.reduceAdd, Nat.reduceMul, Nat.zero_add, Nat.zero_mul, Nat.one_mul, show ((3 : Nat) : Int) = 3 from rfl, show ((2 : Nat) : Int) = 2 from rfl, show ((0 : Nat) : Int) = 0 from rfl] at l1 l2 m1 m2 ix1 ix2 q1 q2 r1 r2
 rw [d10]
 have key : Outs (runC (envX prog XD) (b10 (envX prog XD)) ([] ++ List.replicate (96 - ([] : List AV).length) .undef) []) fun e t h1 => fin [.tmp 0] (some (e, t, h1)) = some (AV.bool true, h1) := by
  unfold b10
  generalize hQ : (fun (e : Ex) (t : T) (h1 : AHeap) => fin [.tmp 0] (some (e, t, h1)) = some (AV.bool true, h1)) = Q
  simp -implicitDefEqProofs (maxSteps := 5000000) only [go_sem, Nat.reduceShiftRight, Nat.reduceAnd, Nat.reduceBNe, Int.reduceEq, Nat.reduceAdd, Nat.reduceSub, Nat.reduceMul, Nat.reduceLeDiff, reduceIte, reduceCtorEq, Nat.reduceBEq, Nat.reduceEqDiff, wrap64, runC_loop, runC_range, callF_fn, callV_fn, callV_yld, yield_eq, yieldBody, yieldRaw, roundMid, roundEnd, rangeEnd, Bool.not_not, put_cons, put_nil, trim_same, at_zero, at_add, set_zero, set_add, store_one, write_zero, write_add, write_head, write_succ, splice_one, splice_more, List.drop_nil, List.take_nil, cell_int, cell_bool, fillS, splice_one, idxA, Ex.isNormal, List.set_nil, List.length_set, List.all_cons, List.all_nil, Bool.and_self, and_self, true_and, and_true, List.getElem?_nil, Int.reduceLT, Int.reduceLE, Int.reduceToNat, Int.toNat_zero, Int.toNat_one, Int.reduceAdd, Int.reduceSub, Int.reduceMul, Int.reduceNeg, Int.reduceBEq, Int.reduceBNe, Int.reduceGE, Int.reduceGT, Nat.reduceLT, trim_keep, under_fn, under_ptr, under_sl, Nat.lt_irrefl, not_lt_add, trim_tail, keepOk, ABlk.vals, Int.cast_ofNat_Int, decide_true, decide_false, List.all_cons, List.all_nil, Nat.zero_mul, Nat.mul_one, Nat.one_mul, xd_call, e0, e1, e2, e3, e4, e5, e6, e7, e8, l1, l2, ix1, hc1, q1, q2, m1, jx1, ld1, ix2, hc2, r1, r2, m2, jx2, ld2, e9, outs_normal]
  subst hQ
  simp -implicitDefEqProofs (maxSteps := 5000000) only [go_sem, Nat.reduceShiftRight, Nat.reduceAnd, Nat.reduceBNe, Int.reduceEq, Nat.reduceAdd, Nat.reduceSub, Nat.reduceMul, Nat.reduceLeDiff, reduceIte, reduceCtorEq, Nat.reduceBEq, Nat.reduceEqDiff]
 unfold b10 at key ⊢
 exact of_outs key
end Go.Proofs.Ythhodjcgcgkaaaa.G11
end
section
namespace Go.Proofs.Ythhodjcgcgkaaaa.G11
open Go Go.Proofs.Ythhodjcgcgkaaaa.Eng
noncomputable def X4 : Over := XD.with 10 wakeR
theorem x4_ok : X4.Ok prog := with_ok xd_ok (wake_ok goodP xd_ok wakesC.choose_spec)
theorem x4_call (f : Nat) (args : List AV) (h : AHeap) (ew : (f == 10) = false) (ed : (f == 22) = false) (em : (f == 44) = false) (e0 : (f == 61) = false) (e1 : (f == 69) = false) (e2 : (f == 70) = false) : (envX prog X4).call f args h = (envL prog).call f args h := by
 unfold X4; rw [x_miss _ _ ew, xd_call _ _ _ ed em e0 e1 e2]
theorem x4_wakes (h : AHeap) : (envX prog X4).call 10 [] h = some (.bool true, h) := x_hit rfl
structure Fair (L : List SnS) : Prop where
 n : L.length ≤ 12
 u8 : ∀ s ∈ L, IsU8 s.ch
 lc : ∀ s ∈ L, s.ch.length ≤ 40
 lt : ∀ s ∈ L, s.tb.length ≤ 80
theorem fairS_fair {L : List SnS} (h : fairS L = true) (hu : ∀ s ∈ L, IsU8 s.ch) : Fair L := by
 unfold fairS at h
 rw [Bool.and_eq_true, List.all_eq_true, decide_eq_true_eq] at h
 have q := fun s hs => by
  have := h.1 s hs
  rw [Bool.and_eq_true, decide_eq_true_eq, decide_eq_true_eq] at this
  exact this
 exact ⟨h.2, hu, fun s hs => (q s hs).1, fun s hs => (q s hs).2⟩
theorem Fair.fits {L : List SnS} (f : Fair L) : Fits L := ⟨by have := f.n; omega, fun s hs => ⟨f.u8 s hs, by have := f.lc s hs; omega, by have := f.lt s hs; omega⟩⟩
theorem tmerge_len (a : List PrS) : ∀ (b k : List PrS) (f : List Int), (tmerge a b k f).1.length ≤ k.length + b.length
 | [], k, f => by simp [tmerge]
 | p :: b, k, f => by
  rw [tmerge]
  split
  ·have := tmerge_len a b k (f ++ [p.2]); simp only [List.length_cons]; omega
  ·have := tmerge_len a b (tput k p.1 p.2) f
   have := tput_len k p.1 p.2
   simp only [List.length_cons]; omega
theorem join_fit {s u : SnS} (h1 : IsU8 s.ch) (h2 : IsU8 u.ch) (l1 : s.ch.length ≤ 40) (l2 : u.ch.length ≤ 40) (t1 : s.tb.length ≤ 80) (t2 : u.tb.length ≤ 80) : (joinS s u).Fit :=
 ⟨Bt.orS_u8 h1 h2, by show (Bt.orS s.ch u.ch).length ≤ 1000; rw [Bt.orS_len]; omega, by have := tmerge_len s.tb u.tb s.tb []; show (tmerge s.tb u.tb s.tb []).1.length ≤ 1000; omega⟩
theorem dropN_mem {L : List SnS} : ∀ {k : Nat} {x : SnS}, x ∈ dropN L k → x ∈ L ∨ ∃ s ∈ L, ∃ u ∈ L, x = joinS s u
 | 0, x, h => .inl (List.mem_of_mem_drop h)
 | k + 1, x, h => by
  simp only [dropN] at h
  split at h
  ·rename_i s u hs hu
   rcases List.mem_append.1 h with h | h
   ·exact .inl (List.mem_of_mem_take h)
   ·rcases List.mem_cons.1 h with h | h
    ·exact .inr ⟨s, List.mem_of_getElem? hs, u, List.mem_of_getElem? hu, h⟩
    ·exact .inl (List.mem_of_mem_drop h)
  ·exact .inl h
theorem dropN_len {L : List SnS} : ∀ k : Nat, (dropN L k).length ≤ L.length
 | 0 => by unfold dropN; rw [List.length_drop]; omega
 | k + 1 => by
  simp only [dropN]
  split
  ·rename_i s u hs hu
   have := (List.getElem?_eq_some_iff.1 hu).1
   rw [List.length_append, List.length_take, List.length_cons, List.length_drop]; omega
  ·exact Nat.le_refl _
theorem Fair.drop {L : List SnS} (f : Fair L) (i : Int) : Fits (dropS L i) := by
 unfold dropS
 split
 ·exact f.fits
 ·refine ⟨by have := dropN_len (L := L) i.toNat; have := f.n; omega, fun x hx => ?_⟩
  rcases dropN_mem hx with h | ⟨s, hs, u, hu, rfl⟩
  ·exact f.fits.2 x h
  ·exact join_fit (f.u8 s hs) (f.u8 u hu) (f.lc s hs) (f.lc u hu) (f.lt s hs) (f.lt u hu)
theorem Fair.cut {L : List SnS} (f : Fair L) (i : Int) : Fits (cutS L i) := by
 unfold cutS
 split
 ·exact f.fits
 ·split
  ·rename_i s hs
   refine ⟨by rw [List.length_append, List.length_take, List.length_singleton]; have := f.n; omega, fun x hx => ?_⟩
   rcases List.mem_append.1 hx with h | h
   ·exact f.fits.2 x (List.mem_of_mem_take h)
   ·rw [List.mem_singleton.1 h]
    exact ⟨Bt.rep_u8 _, by show (List.replicate s.ch.length (0 : Int)).length ≤ 1000; rw [List.length_replicate]; have := f.lc s (List.mem_of_getElem? hs); omega, by simp⟩
  ·exact f.fits
theorem chgF_u8 (j : Int) : ∀ (L : List SnS) (k : Int) (acc : List Int), (∀ s ∈ L, IsU8 s.ch) → IsU8 acc → IsU8 (chgF j L k acc)
 | [], _, _, _, h => h
 | s :: L, k, acc, hu, h => by
  rw [chgF]
  split
  ·exact h
  ·exact chgF_u8 j L (k + 1) _ (fun s hs => hu s (by simp [hs])) (Bt.orS_u8 h (hu s (by simp)))
theorem chgS_u8 {L : List SnS} (hu : ∀ s ∈ L, IsU8 s.ch) (i j : Int) : IsU8 (chgS L i j) := chgF_u8 j _ _ _ (fun s hs => hu s (List.mem_of_mem_drop hs)) (fun z h => by cases h)
set_option maxHeartbeats 32000000 in
theorem chainTells (v : AV) (n0 n1 n2 n3 : Int) (h2 : n2 ≤ 9223372036854775807) (h : AHeap) (d : DatC h (.sl [.int .i64, .sl [.int .u8], .sl [.int .i64, .int .i64]]) v) : ∃ h', callBody prog (envX prog X4) 3 [v, .agg [.int .i64 n0, .int .i64 n1, .int .i64 n2, .int .i64 n3]] h = some (.bool true, h') := by
 obtain ⟨L, gl, ln, hL⟩ := snaps_dat d
 rw [d3]
 refine of_outs ?_
 unfold b3
 generalize hQ : (fun (e : Ex) (t : T) (h1 : AHeap) => fin [.tmp 4] (some (e, t, h1)) = some (AV.bool true, h1)) = Q
 obtain ⟨h0, e0⟩ : ∃ h0, h0 = h ++ [ABlk.rw [.int .i64 n0, .int .i64 n1, .int .i64 n2, .int .i64 n3]] := ⟨_, rfl⟩
 have a0 : Adds h h0 := ⟨_, e0⟩
 have c0 : cellsOf h0 h.length = some [.int .i64 n0, .int .i64 n1, .int .i64 n2, .int .i64 n3] := by rw [e0]; unfold cellsOf; simp
 have e0 := e0.symm
 have g0 := gl.adds a0
 have ef := fairC g0 ⟨ln, fun s hs => ⟨(hL s hs).2.2.1, (hL s hs).2.2.2.1⟩⟩
 rcases hf : fairS L with _ | _ <;> rw [hf] at ef
 ·simp -implicitDefEqProofs (maxSteps := 5000000) only [go_sem, Nat.reduceShiftRight, Nat.reduceAnd, Nat.reduceBNe, Int.reduceEq, Nat.reduceAdd, Nat.reduceSub, Nat.reduceMul, Nat.reduceLeDiff, reduceIte, reduceCtorEq, Nat.reduceBEq, Nat.reduceEqDiff, wrap64, runC_loop, runC_range, callF_fn, callV_fn, callV_yld, yield_eq, yieldBody, yieldRaw, roundMid, roundEnd, rangeEnd, Bool.not_not, put_cons, put_nil, trim_same, at_zero, at_add, set_zero, set_add, store_one, write_zero, write_add, write_head, write_succ, splice_one, splice_more, List.drop_nil, List.take_nil, cell_int, cell_bool, fillS, splice_one, idxA, Ex.isNormal, List.set_nil, List.length_set, List.all_cons, List.all_nil, Bool.and_self, and_self, true_and, and_true, List.getElem?_nil, Int.reduceLT, Int.reduceLE, Int.reduceToNat, Int.toNat_zero, Int.toNat_one, Int.reduceAdd, Int.reduceSub, Int.reduceMul, Int.reduceNeg, Int.reduceBEq, Int.reduceBNe, Int.reduceGE, Int.reduceGT, Nat.reduceLT, trim_keep, under_fn, under_ptr, under_sl, Nat.lt_irrefl, not_lt_add, trim_tail, keepOk, ABlk.vals, Int.cast_ofNat_Int, decide_true, decide_false, List.all_cons, List.all_nil, Nat.zero_mul, Nat.mul_one, Nat.one_mul, e0, x4_call, ef, x4_wakes, outs_normal]
  subst hQ
  simp -implicitDefEqProofs (maxSteps := 5000000) only [go_sem, Nat.reduceShiftRight, Nat.reduceAnd, Nat.reduceBNe, Int.reduceEq, Nat.reduceAdd, Nat.reduceSub, Nat.reduceMul, Nat.reduceLeDiff, reduceIte, reduceCtorEq, Nat.reduceBEq, Nat.reduceEqDiff]
 have f := fairS_fair hf fun s hs => (hL s hs).2.1
 have fi := f.fits
 obtain ⟨w, K1, ec, A1, rows, gc⟩ := copyCh g0 fi
 have gw := gc.isC
 have g1 := g0.adds A1
 have c1 := A1.cells c0
 have eh := holderC gw fi n1 n0
 have er := rholderC g1 fi n0 n1
 obtain ⟨K2, hK2⟩ : ∃ K2, K2 = K1 ++ [ABlk.rw [.int .i64 (holdS L n0 n1).1, .bool (holdS L n0 n1).2]] := ⟨_, rfl⟩
 have A2 : Adds K1 K2 := ⟨_, hK2⟩
 have q2 : cellsOf K2 K1.length = some [.int .i64 (holdS L n0 n1).1, .bool (holdS L n0 n1).2] := by rw [hK2]; unfold cellsOf; simp
 have c2 := A2.cells c1
 have gw2 := gw.adds A2
 have g2 := g1.adds A2
 have eg := cgoodC gw2 fi h2 n3
 have eg' := rcgood g2 fi h2 n3
 have ei := cindexC gw2 fi n0
 have ei' := rcindexC g2 fi n0
 obtain ⟨x, K3, em, A3, b3⟩ := changedC gw2 fi n1 n0
 obtain ⟨y, K4, em', A4, b4⟩ := rchangedC (g2.adds A3) fi n0 n1
 have u := chgS_u8 f.u8 n0 n1
 have eb := Bt.bytesC (A4.bs b3) b4 u u
 rw [decide_eq_true rfl] at eb
 have es := snapsC ((gw2.adds A3).adds A4) ((g2.adds A3).adds A4) fi fi
 rw [decide_eq_true rfl] at es
 have c3 := A3.cells c2
 have hK2 := hK2.symm
 have b1 : ∀ b : Bool, (b == b) = true := fun b => by cases b <;> rfl
 have b2 : ∀ b : Int, (b == b) = true := fun b => by simp
 simp -implicitDefEqProofs (maxSteps := 5000000) only [go_sem, Nat.reduceShiftRight, Nat.reduceAnd, Nat.reduceBNe, Int.reduceEq, Nat.reduceAdd, Nat.reduceSub, Nat.reduceMul, Nat.reduceLeDiff, reduceIte, reduceCtorEq, Nat.reduceBEq, Nat.reduceEqDiff, wrap64, runC_loop, runC_range, callF_fn, callV_fn, callV_yld, yield_eq, yieldBody, yieldRaw, roundMid, roundEnd, rangeEnd, Bool.not_not, put_cons, put_nil, trim_same, at_zero, at_add, set_zero, set_add, store_one, write_zero, write_add, write_head, write_succ, splice_one, splice_more, List.drop_nil, List.take_nil, cell_int, cell_bool, fillS, splice_one, idxA, Ex.isNormal, List.set_nil, List.length_set, List.all_cons, List.all_nil, Bool.and_self, and_self, true_and, and_true, List.getElem?_nil, Int.reduceLT, Int.reduceLE, Int.reduceToNat, Int.toNat_zero, Int.toNat_one, Int.reduceAdd, Int.reduceSub, Int.reduceMul, Int.reduceNeg, Int.reduceBEq, Int.reduceBNe, Int.reduceGE, Int.reduceGT, Nat.reduceLT, trim_keep, under_fn, under_ptr, under_sl, Nat.lt_irrefl, not_lt_add, trim_tail, keepOk, ABlk.vals, Int.cast_ofNat_Int, decide_true, decide_false, List.all_cons, List.all_nil, Nat.zero_mul, Nat.mul_one, Nat.one_mul, idx_arr, e0, x4_call, ef, ec, c0, c1, eh, er, cellsA_agg, hK2, c2, q2, eg, eg', ei, ei', em, em', c3, eb, es, b1, b2, x4_wakes, outs_normal]
 subst hQ
 simp -implicitDefEqProofs (maxSteps := 5000000) only [go_sem, Nat.reduceShiftRight, Nat.reduceAnd, Nat.reduceBNe, Int.reduceEq, Nat.reduceAdd, Nat.reduceSub, Nat.reduceMul, Nat.reduceLeDiff, reduceIte, reduceCtorEq, Nat.reduceBEq, Nat.reduceEqDiff]
end Go.Proofs.Ythhodjcgcgkaaaa.G11
end
