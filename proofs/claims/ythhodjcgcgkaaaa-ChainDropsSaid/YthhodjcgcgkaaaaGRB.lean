/- What the functions that ChainDrops reaches answer, for every argument. No condition but those in each statement. -/
import Derived.Test.YthhodjcgcgkaaaaGRA
import Derived.Test.YthhodjcgcgkaaaaE6
set_option linter.unusedSimpArgs false
set_option linter.unusedVariables false
set_option linter.unusedSectionVars false
set_option maxRecDepth 10000
section
namespace Go.Proofs.Ythhodjcgcgkaaaa.G11
open Go Go.Proofs.Ythhodjcgcgkaaaa.Eng
theorem tySn : (ty 3 true 56 [AV.int .i64 0, .nilSl, .nilSl]).size = 3 := rfl
theorem tySb : (ty 3 true 56 [AV.int .i64 0, .nilSl, .nilSl]).bytes = 56 := rfl
theorem fits_get {L : List SnS} (f : Fits L) {i : Nat} {s : SnS} (h : L[i]? = some s) : s.Fit := f.2 s (List.mem_of_getElem? h)
section
variable {H : AHeap} {v : AV} {L : List SnS} (g : IsC H v L) (fi : Fits L)
include g fi
set_option maxHeartbeats 8000000 in
theorem copyL (x1 x2 x34 : AV) : ∀ (k i : Nat) (K : AHeap) (w : AV) (rows : List (List AV)) (j5 j6 j7 j8 j9 j10 j11 j12 j13 j14 j15 j16 j17 j18 j19 j20 j21 j22 j23 j24 j25 j26 j27 j28 j29 j30 j31 j32 j33 : AV), Adds H K → Gc K H.length w (L.take i) rows → i + k = L.length →
  Outs (LP1 l11x0 [v, x1, x2, w, .int .i64 (i : Int), j5, j6, j7, j8, j9, j10, j11, j12, j13, j14, j15, j16, j17, j18, j19, j20, j21, j22, j23, j24, j25, j26, j27, j28, j29, j30, j31, j32, j33, x34] K) fun e t K' => e = .exit 0 ∧ Adds H K' ∧ ∃ fv : Nat → AV, t = [v, x1, x2, (fv 3), (fv 4), (fv 5), (fv 6), (fv 7), (fv 8), (fv 9), (fv 10), (fv 11), (fv 12), (fv 13), (fv 14), (fv 15), (fv 16), (fv 17), (fv 18), (fv 19), (fv 20), (fv 21), (fv 22), (fv 23), (fv 24), (fv 25), (fv 26), (fv 27), (fv 28), (fv 29), (fv 30), (fv 31), (fv 32), (fv 33), x34] ∧ ∃ rows, Gc K' H.length (fv 3) L rows := by
 intro k
 obtain ⟨L0, hL0⟩ : ∃ L, L = LP1 l11x0 := ⟨_, rfl⟩
 have lo := loop_open hL0
 have wl := g.len
 have fl := fi.1
 rw [← hL0]
 induction k with
 | zero =>
  intro i K w rows j5 j6 j7 j8 j9 j10 j11 j12 j13 j14 j15 j16 j17 j18 j19 j20 j21 j22 j23 j24 j25 j26 j27 j28 j29 j30 j31 j32 j33 aK gw hi
  obtain rfl : i = L.length := by omega
  have hd : decide ((L.length : Int) < (L.length : Int)) = false := by simp
  rw [List.take_length] at gw
  rw [lo]
  unfold l11x0
  simp -implicitDefEqProofs (maxSteps := 5000000) only [go_sem, Nat.reduceShiftRight, Nat.reduceAnd, Nat.reduceBNe, Int.reduceEq, Nat.reduceAdd, Nat.reduceSub, Nat.reduceMul, Nat.reduceLeDiff, reduceIte, reduceCtorEq, Nat.reduceBEq, Nat.reduceEqDiff, wl, hd, seqR_exit', outs_normal]
  exact ⟨aK, exF2 rfl ⟨_, gw⟩⟩
 | succ k ih =>
  intro i K w rows j5 j6 j7 j8 j9 j10 j11 j12 j13 j14 j15 j16 j17 j18 j19 j20 j21 j22 j23 j24 j25 j26 j27 j28 j29 j30 j31 j32 j33 aK gw hi
  have hlt : i < L.length := by omega
  have hd : decide ((i : Int) < (L.length : Int)) = true := decide_eq_true (by omega)
  have e2 : IntKind.i64.wrap ((i : Int) + 1) = ((i + 1 : Nat) : Int) := by rw [wrap64 (by omega) (by omega)]; omega
  have hx := List.getElem?_eq_getElem hlt
  have tk : L.take (i + 1) = L.take i ++ [L[i]] := by rw [List.take_add_one, hx]; rfl
  have ft := fits_get fi hx
  generalize L[i] = s at *
  obtain ⟨bb, cs, vc, vt, sb, ix, hc, h1, h2, h3, ht, hle, hbs, hip⟩ := g.idx hx
  obtain ⟨K1, hK1⟩ : ∃ K1, K1 = K ++ [ABlk.rw [], .rw []] := ⟨_, rfl⟩
  have A1 : Adds K K1 := ⟨_, hK1⟩
  have l1 : K1.length = K.length + 2 := by rw [hK1]; simp
  have a01 := aK.trans A1
  obtain ⟨vc', K2, ea, A2, b2, s2⟩ := bs_app (K := K1) (b := K.length) (by rw [hK1]; simp) (a01.bs hbs) (by have := ft.lc; omega)
  have hr : (roomy : Nat) = 140737488355328 := rfl
  have q2 : K2[K.length + 1]? = some (ABlk.rw []) := A2.at (by rw [hK1]; simp)
  have a02 := a01.trans A2
  have g0 : Gp K2 (K.length + 1) (.sl (K.length + 1) 0 2 0 0 true) [] := .inr (.inl ⟨rfl, K.length + 1, Nat.le_refl _, rfl, q2⟩)
  obtain ⟨vt', K3, eb, g3, fr3, n3, _⟩ := gp_app g0 (by have := A2.len; omega) (hip.adds a02).src.1 (hip.adds a02).src.2 (by have := ft.lt; rw [List.length_nil]; omega)
  rw [List.nil_append] at g3
  have A3 : Adds K K3 := fr3.old (A1.trans A2) fun x hx h => by (injection h with h; omega)
  have b3 : BS K3 vc' s.ch := b2.fr fr3 fun b h h' => by
   injection h' with h'
   rcases s2 with q | q <;> rw [q] at h <;> injection h with h <;> omega
  obtain ⟨K4, hK4⟩ : ∃ K4, K4 = K3 ++ [ABlk.rw [.int .i64 s.id, vc', vt']] := ⟨_, rfl⟩
  have A4 : Adds K3 K4 := ⟨_, hK4⟩
  have A04 := A3.trans A4
  have c4 : cellsOf K4 K3.length = some [.int .i64 s.id, vc', vt'] := by rw [hK4]; unfold cellsOf; simp
  obtain ⟨w', K5, ec, g5, fr5, sb5, l5, c5, c5'⟩ := Gc.push tySn (by rw [tySb]; omega) (by rw [tySb]; omega) (gw.adds A04) c4 ⟨vc', vt', rfl, A4.bs b3, (g3.isP).adds A4⟩ (fun y hy b h h' => by
   have hb := (gw.g.out b h').2
   simp only [List.mem_cons, List.mem_nil_iff, or_false] at hy
   rcases hy with rfl | rfl | rfl
   ·cases h
   ·rcases s2 with q | q <;> rw [q] at h <;> injection h with h <;> omega
   ·have := (g3.out b h).1; omega) (by rw [List.length_take]; omega) (by have := aK.len; have := A04.len; omega)
  rw [← tk] at g5
  have a5 : Adds H K5 := fr5.old (aK.trans A04) fun b hb h => by have := (gw.g.out b h).1; omega
  have k1 := b3.cell
  have k2 := g3.isP.cell
  have hK1 := hK1.symm
  have hK4 := hK4.symm
  have cK := fun {b cs} (h : cellsOf H b = some cs) => aK.cells h
  have hcK := aK.cells hc
  have hcK1 := a01.cells hc
  have hcA2 := a02.cells hc
  have hcA3 := (aK.trans A3).cells hc
  have hcA4 := (aK.trans A04).cells hc
  have hcK2 := (aK.trans (⟨[ABlk.rw []], rfl⟩ : Adds K (K ++ [ABlk.rw []]))).cells hc
  have key := ih (i + 1) K5 w' (rows ++ [[.int .i64 s.id, vc', vt']])
  rw [lo]
  unfold l11x0
  simp -implicitDefEqProofs (maxSteps := 5000000) only [go_sem, Nat.reduceShiftRight, Nat.reduceAnd, Nat.reduceBNe, Int.reduceEq, Nat.reduceAdd, Nat.reduceSub, Nat.reduceMul, Nat.reduceLeDiff, reduceIte, reduceCtorEq, Nat.reduceBEq, Nat.reduceEqDiff, wrap64, runC_loop, runC_range, callF_fn, callV_fn, callV_yld, yield_eq, yieldBody, yieldRaw, roundMid, roundEnd, rangeEnd, Bool.not_not, put_cons, put_nil, trim_same, at_zero, at_add, set_zero, set_add, store_one, write_zero, write_add, write_head, write_succ, splice_one, splice_more, List.drop_nil, List.take_nil, cell_int, cell_bool, fillS, splice_one, idxA, Ex.isNormal, List.set_nil, List.length_set, List.all_cons, List.all_nil, Bool.and_self, and_self, true_and, and_true, List.getElem?_nil, Int.reduceLT, Int.reduceLE, Int.reduceToNat, Int.toNat_zero, Int.toNat_one, Int.reduceAdd, Int.reduceSub, Int.reduceMul, Int.reduceNeg, Int.reduceBEq, Int.reduceBNe, Int.reduceGE, Int.reduceGT, Nat.reduceLT, trim_keep, under_fn, under_ptr, under_sl, Nat.lt_irrefl, not_lt_add, trim_tail, keepOk, ABlk.vals, Int.cast_ofNat_Int, decide_true, decide_false, List.all_cons, List.all_nil, Nat.zero_mul, Nat.mul_one, Nat.one_mul, wl, hd, ix, hcK, hcK1, hcK2, hcA2, hcA3, hcA4, h1, h2, h3, hK1, ea, eb, k1.1, k1.2, k2.1, k2.2, hK4, ec, e2]
  exact key _ _ _ _ _ _ _ _ _ _ _ _ _ _ _ _ _ _ _ _ _ _ _ _ _ _ _ _ _ a5 g5 (by omega)
theorem gc_cut {H K : AHeap} {v : AV} {rows : List (List AV)} {L : List SnS} (a : Adds H K) (gk : Gc K H.length v L rows) : ∃ K', trim H (some (v, K)) = some (v, K') ∧ Adds H K' ∧ ∃ rows, Gc K' H.length v L rows := by
 rcases trim_adds (v := v) a with e | ⟨u, e⟩
 ·exact ⟨K, e, a, rows, gk⟩
 ·refine ⟨H, e, Adds.refl H, ?_⟩
  rcases gk.g with ⟨rfl, rfl⟩ | ⟨_, b, hb, rfl, _⟩
  ·have : L = [] := List.length_eq_zero_iff.1 gk.ch.len.symm
   subst this; exact ⟨[], Gc.nil H _⟩
  ·simp [AV.under] at u; omega
theorem copyCh : ∃ v' K, (envL prog).call 11 [v] H = some (v', K) ∧ Adds H K ∧ ∃ rows, Gc K H.length v' L rows := by
 have l0 := copyL g fi (k := L.length) (i := 0) (K := H) (w := .nilSl) (rows := [])
 rw [show ((0 : Nat) : Int) = 0 from rfl, List.take_zero] at l0
 have key : Outs (runC (envL prog) (b11 (envL prog)) ([v] ++ List.replicate (35 - [v].length) .undef) H) fun e' t K => ∃ v', Adds H K ∧ (∃ rows, Gc K H.length v' L rows) ∧ fin [.tmp 2] (some (e', t, K)) = some (v', K) := by
  unfold b11
  generalize hQ : (fun (e' : Ex) (t : T) (K : AHeap) => ∃ v', Adds H K ∧ (∃ rows, Gc K H.length v' L rows) ∧ fin [.tmp 2] (some (e', t, K)) = some (v', K)) = Q
  simp -implicitDefEqProofs (maxSteps := 5000000) only [go_sem, Nat.reduceShiftRight, Nat.reduceAnd, Nat.reduceBNe, Int.reduceEq, Nat.reduceAdd, Nat.reduceSub, Nat.reduceMul, Nat.reduceLeDiff, reduceIte, reduceCtorEq, Nat.reduceBEq, Nat.reduceEqDiff, wrap64, runC_loop, runC_range, callF_fn, callV_fn, callV_yld, yield_eq, yieldBody, yieldRaw, roundMid, roundEnd, rangeEnd, Bool.not_not, put_cons, put_nil, trim_same, at_zero, at_add, set_zero, set_add, store_one, write_zero, write_add, write_head, write_succ, splice_one, splice_more, List.drop_nil, List.take_nil, cell_int, cell_bool, fillS, splice_one, idxA, Ex.isNormal, List.set_nil, List.length_set, List.all_cons, List.all_nil, Bool.and_self, and_self, true_and, and_true, List.getElem?_nil, Int.reduceLT, Int.reduceLE, Int.reduceToNat, Int.toNat_zero, Int.toNat_one, Int.reduceAdd, Int.reduceSub, Int.reduceMul, Int.reduceNeg, Int.reduceBEq, Int.reduceBNe, Int.reduceGE, Int.reduceGT, Nat.reduceLT, trim_keep, under_fn, under_ptr, under_sl, Nat.lt_irrefl, not_lt_add, trim_tail, keepOk, ABlk.vals, Int.cast_ofNat_Int, decide_true, decide_false, List.all_cons, List.all_nil, Nat.zero_mul, Nat.mul_one, Nat.one_mul, runC_loop]
  unfold LP1 at l0
  generalize (envL prog).loop (runC (envL prog) (l11x0 (envL prog))) = L0 at l0 ⊢
  refine outs_ctx (fun r => seqR (blockR 0 r) _) (l0 _ _ _ _ _ _ _ _ _ _ _ _ _ _ _ _ _ _ _ _ _ _ _ _ _ _ _ _ _ _ _ _ (Adds.refl H) (Gc.nil H _) (by omega)) ?_
  rintro e t K ⟨rfl, aK, fv, rfl, rows, gk⟩
  simp -implicitDefEqProofs (maxSteps := 5000000) only [go_sem, Nat.reduceShiftRight, Nat.reduceAnd, Nat.reduceBNe, Int.reduceEq, Nat.reduceAdd, Nat.reduceSub, Nat.reduceMul, Nat.reduceLeDiff, reduceIte, reduceCtorEq, Nat.reduceBEq, Nat.reduceEqDiff, outs_normal]
  subst hQ
  refine ⟨fv 3, aK, ⟨rows, gk⟩, ?_⟩
  simp -implicitDefEqProofs (maxSteps := 5000000) only [go_sem, Nat.reduceShiftRight, Nat.reduceAnd, Nat.reduceBNe, Int.reduceEq, Nat.reduceAdd, Nat.reduceSub, Nat.reduceMul, Nat.reduceLeDiff, reduceIte, reduceCtorEq, Nat.reduceBEq, Nat.reduceEqDiff]
 obtain ⟨e', t, K, hr, v', aK, ⟨rows, gk⟩, hf⟩ := key
 obtain ⟨K', e, a, r⟩ := gc_cut g fi aK gk
 exact ⟨v', K', by rw [c11, hr, hf]; exact e, a, r⟩
end
section
variable {H : AHeap} {v w : AV} {L M : List SnS} (g : IsC H v L) (f : IsC H w M) (fL : Fits L) (fM : Fits M)
include g f fL fM
end
end Go.Proofs.Ythhodjcgcgkaaaa.G11
end
section
namespace Go.Proofs.Ythhodjcgcgkaaaa.G11
open Go Go.Proofs.Ythhodjcgcgkaaaa.Eng
theorem findF {H : AHeap} {v : AV} {l : List PrS} (g : IsP H v l) (hl : l.length ≤ 1000000) (b : Int) : (envL prog).call 26 [v, .int .i64 b] H = some (.tup [.int .i64 (fnd l b), .bool (decide (0 ≤ idxS l b))], H) := findC g hl b
theorem fromC {H : AHeap} {v : AV} {L : List SnS} (g : IsC H v L) (i : Int) : (envL prog).call 32 [v, .int .i64 i] H = some (.fn 52 [.ptr (H.length + 1) 0, .ptr H.length 0], H ++ [.rw [v], .rw [.int .i64 i]]) := by
 have hc := g.cell
 rw [c32]
 unfold b32
 simp -implicitDefEqProofs (maxSteps := 5000000) only [go_sem, Nat.reduceShiftRight, Nat.reduceAnd, Nat.reduceBNe, Int.reduceEq, Nat.reduceAdd, Nat.reduceSub, Nat.reduceMul, Nat.reduceLeDiff, reduceIte, reduceCtorEq, Nat.reduceBEq, Nat.reduceEqDiff, wrap64, runC_loop, runC_range, callF_fn, callV_fn, callV_yld, yield_eq, yieldBody, yieldRaw, roundMid, roundEnd, rangeEnd, Bool.not_not, put_cons, put_nil, trim_same, at_zero, at_add, set_zero, set_add, store_one, write_zero, write_add, write_head, write_succ, splice_one, splice_more, List.drop_nil, List.take_nil, cell_int, cell_bool, fillS, splice_one, idxA, Ex.isNormal, List.set_nil, List.length_set, List.all_cons, List.all_nil, Bool.and_self, and_self, true_and, and_true, List.getElem?_nil, Int.reduceLT, Int.reduceLE, Int.reduceToNat, Int.toNat_zero, Int.toNat_one, Int.reduceAdd, Int.reduceSub, Int.reduceMul, Int.reduceNeg, Int.reduceBEq, Int.reduceBNe, Int.reduceGE, Int.reduceGT, Nat.reduceLT, trim_keep, under_fn, under_ptr, under_sl, Nat.lt_irrefl, not_lt_add, trim_tail, keepOk, ABlk.vals, Int.cast_ofNat_Int, decide_true, decide_false, List.all_cons, List.all_nil, Nat.zero_mul, Nat.mul_one, Nat.one_mul, hc.1]
section
variable {H0 : AHeap} {v : AV} {L : List SnS} (g0 : IsC H0 v L) {p q y : Nat} {P : Nat → AHeap → Prop} {Q : AHeap → Prop} (fl : L.length ≤ 100)
 (hP : ∀ i K, P i K → K[p]? = some (.rw [.int .i64 (i : Int)]) ∧ cellsOf K q = some [v] ∧ Adds H0 K)
 (hy : ∀ i K s vc vt, P i K → L[i]? = some s → BS H0 vc s.ch → IsP H0 vt s.tb → ∃ K', ((envL prog).yield y [.int .i64 (i : Int), .agg [.int .i64 s.id, vc, vt]] K = some (.bool true, K') ∧ K'[p]? = some (.rw [.int .i64 (i : Int)]) ∧ P (i + 1) (K'.set p (.rw [.int .i64 ((i + 1 : Nat) : Int)]))) ∨ ((envL prog).yield y [.int .i64 (i : Int), .agg [.int .i64 s.id, vc, vt]] K = some (.bool false, K') ∧ Q K'))
include g0 fl hP hy
set_option maxHeartbeats 4000000 in
theorem fromL (x3 x4 x5 : AV) : ∀ (k i : Nat) (K : AHeap) (j6 j7 j8 j9 j10 j11 j12 j13 j14 j15 j16 j17 j18 j19 : AV), P i K → L.length - i ≤ k →
  Outs (LP1 l52x0 [.yld y, .ptr p 0, .ptr q 0, x3, x4, x5, j6, j7, j8, j9, j10, j11, j12, j13, j14, j15, j16, j17, j18, j19] K) fun e t K' => (e = .exit 0 ∧ ∃ j, L.length ≤ j ∧ i ≤ j ∧ (i ≤ L.length → j = L.length) ∧ P j K') ∨ (e = .ret ∧ Q K') := by
 intro k
 obtain ⟨L0, hL0⟩ : ∃ L, L = LP1 l52x0 := ⟨_, rfl⟩
 have lo := loop_open hL0
 rw [← hL0]
 induction k with
 | zero =>
  intro i K j6 j7 j8 j9 j10 j11 j12 j13 j14 j15 j16 j17 j18 j19 pK hi
  obtain ⟨c0, c1, a0⟩ := hP i K pK
  have c0 := cells_rw c0
  have wl := g0.len
  have hd : decide ((i : Int) < (L.length : Int)) = false := decide_eq_false (by omega)
  rw [lo]
  unfold l52x0
  simp -implicitDefEqProofs (maxSteps := 5000000) only [go_sem, Nat.reduceShiftRight, Nat.reduceAnd, Nat.reduceBNe, Int.reduceEq, Nat.reduceAdd, Nat.reduceSub, Nat.reduceMul, Nat.reduceLeDiff, reduceIte, reduceCtorEq, Nat.reduceBEq, Nat.reduceEqDiff, c0, c1, wl, hd, seqR_exit', outs_normal]
  exact .inl ⟨i, by omega, Nat.le_refl _, fun _ => by omega, pK⟩
 | succ k ih =>
  intro i K j6 j7 j8 j9 j10 j11 j12 j13 j14 j15 j16 j17 j18 j19 pK hi
  obtain ⟨c0, c1, a0⟩ := hP i K pK
  have c0 := cells_rw c0
  have wl := g0.len
  by_cases hlt : i < L.length
  ·have hd : decide ((i : Int) < (L.length : Int)) = true := decide_eq_true (by omega)
   have e2 : IntKind.i64.wrap ((i : Int) + 1) = ((i + 1 : Nat) : Int) := by rw [wrap64 (by omega) (by omega)]; omega
   have hx := List.getElem?_eq_getElem hlt
   generalize L[i] = s at *
   obtain ⟨bb, cs, vc, vt, sb, ix, hc0, h1, h2, h3, ht, hle, hbs, hip⟩ := g0.idx hx
   have hc := a0.cells hc0
   obtain ⟨K', ⟨ey, p', pn⟩ | ⟨ey, qn⟩⟩ := hy i K s vc vt pK hx hbs hip
   ·have cp := cells_rw p'
    have wr : writeN K' p 0 [.int .i64 ((i + 1 : Nat) : Int)] = some (K'.set p (.rw [.int .i64 ((i + 1 : Nat) : Int)])) := by
     rw [write_of p', if_pos ⟨by simp, rfl⟩, splice_one]; rfl
    have key := ih (i + 1) (K'.set p (.rw [.int .i64 ((i + 1 : Nat) : Int)]))
    rw [lo]
    unfold l52x0
    simp -implicitDefEqProofs (maxSteps := 5000000) only [go_sem, Nat.reduceShiftRight, Nat.reduceAnd, Nat.reduceBNe, Int.reduceEq, Nat.reduceAdd, Nat.reduceSub, Nat.reduceMul, Nat.reduceLeDiff, reduceIte, reduceCtorEq, Nat.reduceBEq, Nat.reduceEqDiff, wrap64, runC_loop, runC_range, callF_fn, callV_fn, callV_yld, Bool.not_not, put_cons, put_nil, trim_same, at_zero, at_add, set_zero, set_add, store_one, write_zero, write_add, write_head, write_succ, splice_one, splice_more, List.drop_nil, List.take_nil, cell_int, cell_bool, fillS, splice_one, idxA, Ex.isNormal, List.set_nil, List.length_set, List.all_cons, List.all_nil, Bool.and_self, and_self, true_and, and_true, List.getElem?_nil, Int.reduceLT, Int.reduceLE, Int.reduceToNat, Int.toNat_zero, Int.toNat_one, Int.reduceAdd, Int.reduceSub, Int.reduceMul, Int.reduceNeg, Int.reduceBEq, Int.reduceBNe, Int.reduceGE, Int.reduceGT, Nat.reduceLT, trim_keep, under_fn, under_ptr, under_sl, Nat.lt_irrefl, not_lt_add, trim_tail, keepOk, ABlk.vals, Int.cast_ofNat_Int, decide_true, decide_false, List.all_cons, List.all_nil, Nat.zero_mul, Nat.mul_one, Nat.one_mul, c0, c1, wl, hd, ix, hc, ht, hle, ey, cp, e2, wr]
    refine (key _ _ _ _ _ _ _ _ _ _ _ _ _ _ pn (by omega)).mono fun e t K h => ?_
    rcases h with ⟨he, j, h1, h2, h3, h4⟩ | h
    ·exact .inl ⟨he, j, h1, by omega, fun _ => h3 (by omega), h4⟩
    ·exact .inr h
   ·rw [lo]
    unfold l52x0
    simp -implicitDefEqProofs (maxSteps := 5000000) only [go_sem, Nat.reduceShiftRight, Nat.reduceAnd, Nat.reduceBNe, Int.reduceEq, Nat.reduceAdd, Nat.reduceSub, Nat.reduceMul, Nat.reduceLeDiff, reduceIte, reduceCtorEq, Nat.reduceBEq, Nat.reduceEqDiff, wrap64, runC_loop, runC_range, callF_fn, callV_fn, callV_yld, Bool.not_not, put_cons, put_nil, trim_same, at_zero, at_add, set_zero, set_add, store_one, write_zero, write_add, write_head, write_succ, splice_one, splice_more, List.drop_nil, List.take_nil, cell_int, cell_bool, fillS, splice_one, idxA, Ex.isNormal, List.set_nil, List.length_set, List.all_cons, List.all_nil, Bool.and_self, and_self, true_and, and_true, List.getElem?_nil, Int.reduceLT, Int.reduceLE, Int.reduceToNat, Int.toNat_zero, Int.toNat_one, Int.reduceAdd, Int.reduceSub, Int.reduceMul, Int.reduceNeg, Int.reduceBEq, Int.reduceBNe, Int.reduceGE, Int.reduceGT, Nat.reduceLT, trim_keep, under_fn, under_ptr, under_sl, Nat.lt_irrefl, not_lt_add, trim_tail, keepOk, ABlk.vals, Int.cast_ofNat_Int, decide_true, decide_false, List.all_cons, List.all_nil, Nat.zero_mul, Nat.mul_one, Nat.one_mul, c0, c1, wl, hd, ix, hc, ht, hle, ey, outs_normal]
    exact .inr qn
  ·have hd : decide ((i : Int) < (L.length : Int)) = false := decide_eq_false (by omega)
   rw [lo]
   unfold l52x0
   simp -implicitDefEqProofs (maxSteps := 5000000) only [go_sem, Nat.reduceShiftRight, Nat.reduceAnd, Nat.reduceBNe, Int.reduceEq, Nat.reduceAdd, Nat.reduceSub, Nat.reduceMul, Nat.reduceLeDiff, reduceIte, reduceCtorEq, Nat.reduceBEq, Nat.reduceEqDiff, c0, c1, wl, hd, seqR_exit', outs_normal]
   exact .inl ⟨i, by omega, Nat.le_refl _, fun _ => by omega, pK⟩
theorem fromAll {i : Nat} {K : AHeap} (pK : P i K) : ∃ K', (envL prog).call 52 [.yld y, .ptr p 0, .ptr q 0] K = trim K (some (.tup [], K')) ∧ ((∃ j, L.length ≤ j ∧ i ≤ j ∧ (i ≤ L.length → j = L.length) ∧ P j K') ∨ Q K') := by
 obtain ⟨c0, c1, a0⟩ := hP i K pK
 have c0 := cells_rw c0
 have l0 := fromL g0 fl hP hy (k := L.length) (i := i) (K := K)
 have key : Outs (runC (envL prog) (b52 (envL prog)) ([.yld y, .ptr p 0, .ptr q 0] ++ List.replicate (20 - [AV.yld y, .ptr p 0, .ptr q 0].length) .undef) K) fun e' t K' => ((∃ j, L.length ≤ j ∧ i ≤ j ∧ (i ≤ L.length → j = L.length) ∧ P j K') ∨ Q K') ∧ fin [] (some (e', t, K')) = some (.tup [], K') := by
  unfold b52
  generalize hQ : (fun (e' : Ex) (t : T) (K' : AHeap) => ((∃ j, L.length ≤ j ∧ i ≤ j ∧ (i ≤ L.length → j = L.length) ∧ P j K') ∨ Q K') ∧ fin [] (some (e', t, K')) = some (AV.tup [], K')) = Q1
  have dn : decide ((i : Int) < 0) = false := decide_eq_false (by omega)
  simp -implicitDefEqProofs (maxSteps := 5000000) only [go_sem, Nat.reduceShiftRight, Nat.reduceAnd, Nat.reduceBNe, Int.reduceEq, Nat.reduceAdd, Nat.reduceSub, Nat.reduceMul, Nat.reduceLeDiff, reduceIte, reduceCtorEq, Nat.reduceBEq, Nat.reduceEqDiff, wrap64, runC_loop, runC_range, callF_fn, callV_fn, callV_yld, yield_eq, yieldBody, yieldRaw, roundMid, roundEnd, rangeEnd, Bool.not_not, put_cons, put_nil, trim_same, at_zero, at_add, set_zero, set_add, store_one, write_zero, write_add, write_head, write_succ, splice_one, splice_more, List.drop_nil, List.take_nil, cell_int, cell_bool, fillS, splice_one, idxA, Ex.isNormal, List.set_nil, List.length_set, List.all_cons, List.all_nil, Bool.and_self, and_self, true_and, and_true, List.getElem?_nil, Int.reduceLT, Int.reduceLE, Int.reduceToNat, Int.toNat_zero, Int.toNat_one, Int.reduceAdd, Int.reduceSub, Int.reduceMul, Int.reduceNeg, Int.reduceBEq, Int.reduceBNe, Int.reduceGE, Int.reduceGT, Nat.reduceLT, trim_keep, under_fn, under_ptr, under_sl, Nat.lt_irrefl, not_lt_add, trim_tail, keepOk, ABlk.vals, Int.cast_ofNat_Int, decide_true, decide_false, List.all_cons, List.all_nil, Nat.zero_mul, Nat.mul_one, Nat.one_mul, runC_loop, c0, dn]
  unfold LP1 at l0
  generalize (envL prog).loop (runC (envL prog) (l52x0 (envL prog))) = L0 at l0 ⊢
  refine outs_ctx (fun r => blockR 0 r) (l0 _ _ _ _ _ _ _ _ _ _ _ _ _ _ _ _ _ pK (by omega)) ?_
  rintro e t K' (⟨rfl, h⟩ | ⟨rfl, h⟩)
  ·simp -implicitDefEqProofs (maxSteps := 5000000) only [go_sem, Nat.reduceShiftRight, Nat.reduceAnd, Nat.reduceBNe, Int.reduceEq, Nat.reduceAdd, Nat.reduceSub, Nat.reduceMul, Nat.reduceLeDiff, reduceIte, reduceCtorEq, Nat.reduceBEq, Nat.reduceEqDiff, outs_normal]
   subst hQ
   exact ⟨.inl h, rfl⟩
  ·simp -implicitDefEqProofs (maxSteps := 5000000) only [go_sem, Nat.reduceShiftRight, Nat.reduceAnd, Nat.reduceBNe, Int.reduceEq, Nat.reduceAdd, Nat.reduceSub, Nat.reduceMul, Nat.reduceLeDiff, reduceIte, reduceCtorEq, Nat.reduceBEq, Nat.reduceEqDiff, outs_normal]
   subst hQ
   exact ⟨.inr h, rfl⟩
 obtain ⟨e', t, K', hr, hh, hf⟩ := key
 exact ⟨K', by rw [c52, hr, hf], hh⟩
end
theorem fromNeg {K : AHeap} {p q y : Nat} {i : Int} (hi : i < 0) (c0 : cellsOf K p = some [.int .i64 i]) : (envL prog).call 52 [.yld y, .ptr p 0, .ptr q 0] K = some (.tup [], K) := by
 have dn : decide (i < 0) = true := decide_eq_true hi
 rw [c52]
 unfold b52
 simp -implicitDefEqProofs (maxSteps := 5000000) only [go_sem, Nat.reduceShiftRight, Nat.reduceAnd, Nat.reduceBNe, Int.reduceEq, Nat.reduceAdd, Nat.reduceSub, Nat.reduceMul, Nat.reduceLeDiff, reduceIte, reduceCtorEq, Nat.reduceBEq, Nat.reduceEqDiff, wrap64, runC_loop, runC_range, callF_fn, callV_fn, callV_yld, yield_eq, yieldBody, yieldRaw, roundMid, roundEnd, rangeEnd, Bool.not_not, put_cons, put_nil, trim_same, at_zero, at_add, set_zero, set_add, store_one, write_zero, write_add, write_head, write_succ, splice_one, splice_more, List.drop_nil, List.take_nil, cell_int, cell_bool, fillS, splice_one, idxA, Ex.isNormal, List.set_nil, List.length_set, List.all_cons, List.all_nil, Bool.and_self, and_self, true_and, and_true, List.getElem?_nil, Int.reduceLT, Int.reduceLE, Int.reduceToNat, Int.toNat_zero, Int.toNat_one, Int.reduceAdd, Int.reduceSub, Int.reduceMul, Int.reduceNeg, Int.reduceBEq, Int.reduceBNe, Int.reduceGE, Int.reduceGT, Nat.reduceLT, trim_keep, under_fn, under_ptr, under_sl, Nat.lt_irrefl, not_lt_add, trim_tail, keepOk, ABlk.vals, Int.cast_ofNat_Int, decide_true, decide_false, List.all_cons, List.all_nil, Nat.zero_mul, Nat.mul_one, Nat.one_mul, c0, dn]
end Go.Proofs.Ythhodjcgcgkaaaa.G11
end
section
namespace Go.Proofs.Ythhodjcgcgkaaaa.G11
open Go Go.Proofs.Ythhodjcgcgkaaaa.Eng
noncomputable abbrev HolL (s : LoopState) (e : Ex) (t : T) : ABlk := .loop ⟨s, e, t, [13, 14], kaq12x0, kbq12x0⟩
structure HolY (H : AHeap) (v : AV) (b : Int) (x : Int × Bool) (s : LoopState) (e : Ex) (t : T) (K : AHeap) : Prop where
 old : ∀ b, b < H.length → K[b]? = H[b]?
 len : H.length + 6 ≤ K.length
 blk : K[H.length]? = some (.rw [.int .i64 b])
 at_ : K[H.length + 1]? = some (.rw [.int .i64 x.1])
 ok : K[H.length + 2]? = some (.rw [.bool x.2])
 lb : K[H.length + 3]? = some (.rw [v])
 lp : K[H.length + 5]? = some (HolL s e t)
structure HolP (H : AHeap) (v : AV) (L : List SnS) (b : Int) (ans : Int × Bool) (t : T) (i : Nat) (K : AHeap) : Prop where
 y : HolY H v b (0, false) .ready .normal t K
 ib : K[H.length + 4]? = some (.rw [.int .i64 (i : Int)])
 inv : ans = holdF b (L.drop i)
theorem snAlloc {K : AHeap} {s : SnS} {vc vt : AV} (hbs : BS K vc s.ch) (hip : IsP K vt s.tb) : writeN (K ++ [ABlk.rw [AV.int .i64 0, .nilSl, .nilSl]]) K.length 0 [.int .i64 s.id, vc, vt] = some (K ++ [ABlk.rw [.int .i64 s.id, vc, vt]]) := by
 rw [write_zero, if_pos ⟨by simp, by have := hbs.cell.2; have := hip.cell.2; simp only [List.all_cons, List.all_nil, Bool.and_true, *]; rfl⟩]; rfl
section
variable {H : AHeap} {v : AV} {L : List SnS} (g : IsC H v L) (fi : Fits L) (b : Int)
include g fi
set_option maxHeartbeats 4000000 in
theorem holRound {ans : Int × Bool} {t : T} (ht : t.length = 24) (t5 : getT t 5 = .ptr H.length 0) (t6 : getT t 6 = .ptr (H.length + 1) 0) (t7 : getT t 7 = .ptr (H.length + 2) 0) {i : Nat} {K : AHeap} {s : SnS} {vc vt : AV} (y : HolP H v L b ans t i K) (hx : L[i]? = some s) (hbs : BS K vc s.ch) (hip : IsP K vt s.tb) :
  ∃ K', ((envL prog).yield (H.length + 5) [.int .i64 (i : Int), .agg [.int .i64 s.id, vc, vt]] K = some (.bool true, K') ∧ K'[H.length + 4]? = some (.rw [.int .i64 (i : Int)]) ∧ HolP H v L b ans t (i + 1) (K'.set (H.length + 4) (.rw [.int .i64 ((i + 1 : Nat) : Int)]))) ∨ ((envL prog).yield (H.length + 5) [.int .i64 (i : Int), .agg [.int .i64 s.id, vc, vt]] K = some (.bool false, K') ∧ HolY H v b ans .done .ret t K' ∧ ans.2 = true) := by
 have kl := y.y.len
 have ft := fits_get fi hx
 have lt := (List.getElem?_eq_some_iff.1 hx).1
 have inv := y.inv
 rw [List.drop_eq_getElem_cons lt, Option.some.inj ((List.getElem?_eq_getElem lt).symm.trans hx)] at inv
 have w0 := snAlloc hbs hip
 obtain ⟨Kb, hKb⟩ : ∃ Kb, Kb = (K ++ [ABlk.rw [.int .i64 s.id, vc, vt]]).set (H.length + 5) (HolL .busy .normal t) := ⟨_, rfl⟩
 have lb : Kb.length = K.length + 1 := by rw [hKb]; exact busy_len
 have fb : ∀ b, b < K.length → b ≠ H.length + 5 → Kb[b]? = K[b]? := fun b hb hn => by rw [hKb]; exact busy_at hb hn
 have b0 : Kb[H.length]? = some (.rw [.int .i64 b]) := by rw [fb _ (by omega) (by omega)]; exact y.y.blk
 have b1 : Kb[H.length + 1]? = some (.rw [.int .i64 0]) := by rw [fb _ (by omega) (by omega)]; exact y.y.at_
 have b2 : Kb[H.length + 2]? = some (.rw [.bool false]) := by rw [fb _ (by omega) (by omega)]; exact y.y.ok
 have b5 : Kb[H.length + 5]? = some (HolL .busy .normal t) := by rw [hKb]; exact busy_lp (by omega)
 have b6 : Kb[K.length]? = some (.rw [.int .i64 s.id, vc, vt]) := by rw [hKb]; exact busy_new (by omega)
 have frb : Fr K Kb (fun b => b = H.length + 5) := by rw [hKb]; exact busy_fr
 have ef := findF (hip.fr frb (hip.nl y.y.lp)) (by have := ft.lt; omega) b
 have c0 := cells_rw b0
 have c6 := cells_rw b6
 obtain ⟨x1, hx1⟩ : ∃ x, fnd s.tb b = x := ⟨_, rfl⟩
 obtain ⟨x2, hx2⟩ : ∃ x, decide (0 ≤ idxS s.tb b) = x := ⟨_, rfl⟩
 rw [hx1, hx2] at ef
 have w1 := write_one (y := .int .i64 x1) b1 rfl
 have q2 : (Kb.set (H.length + 1) (.rw [.int .i64 x1]))[H.length + 2]? = some (.rw [.bool false]) := by rw [at_set_ne _ _ _ _ (by omega)]; exact b2
 have w2 := write_one (y := .bool x2) q2 rfl
 obtain ⟨Kc, hKc⟩ : ∃ Kc, Kc = (Kb.set (H.length + 1) (.rw [.int .i64 x1])).set (H.length + 2) (.rw [.bool x2]) := ⟨_, rfl⟩
 rw [← hKc] at w2
 have lc : Kc.length = K.length + 1 := by rw [hKc, List.length_set, List.length_set, lb]
 have r2 : Kc[H.length + 2]? = some (.rw [.bool x2]) := by rw [hKc]; exact at_set _ _ _ (by rw [List.length_set]; omega)
 have r1 : Kc[H.length + 1]? = some (.rw [.int .i64 x1]) := by rw [hKc, at_set_ne _ _ _ _ (by omega)]; exact at_set _ _ _ (by omega)
 have ro : ∀ z, z ≠ H.length + 1 → z ≠ H.length + 2 → Kc[z]? = Kb[z]? := fun z h1 h2 => by rw [hKc, at_set_ne _ _ _ _ h2, at_set_ne _ _ _ _ h1]
 have c2 := cells_rw r2
 have c1 := cells_rw r1
 have w3 := write_one (y := .int .i64 x1) r1 rfl
 have q4 : (Kc.set (H.length + 1) (.rw [.int .i64 x1]))[H.length + 2]? = some (.rw [.bool x2]) := by rw [at_set_ne _ _ _ _ (by omega)]; exact r2
 have w4 := write_one (y := .bool true) q4 rfl
 obtain ⟨Kd, hKd⟩ : ∃ Kd, Kd = (Kc.set (H.length + 1) (.rw [.int .i64 x1])).set (H.length + 2) (.rw [.bool true]) := ⟨_, rfl⟩
 rw [← hKd] at w4
 obtain ⟨e, K2, K4, r, ey, h4⟩ := round_gen (P := prog) (l := H.length + 5) (args := [.int .i64 (i : Int), .agg [.int .i64 s.id, vc, vt]]) (K := K) (eaq12x0 _) (ebq12x0 _) y.y.lp rfl (t1 := ((t.set 13 (.int .i64 (i : Int))).set 14 (.agg [.int .i64 s.id, vc, vt])).set 9 (.ptr K.length 0)) (cs := [.int .i64 s.id, vc, vt]) (by
   unfold aq12x0
   simp -implicitDefEqProofs (maxSteps := 5000000) only [go_sem, Nat.reduceShiftRight, Nat.reduceAnd, Nat.reduceBNe, Int.reduceEq, Nat.reduceAdd, Nat.reduceSub, Nat.reduceMul, Nat.reduceLeDiff, reduceIte, reduceCtorEq, Nat.reduceBEq, Nat.reduceEqDiff, putParams, getT_set, ht, List.length_set, Nat.reduceLT, store_one, cellsA_agg, w0])
  (R := fun e K2 => (x2 = false ∧ e = .normal ∧ K2 = Kc) ∨ (x2 = true ∧ e = .ret ∧ K2 = Kd)) (by
   rw [← hKb]
   unfold bq12x0
   cases x2 <;>
   ·simp -implicitDefEqProofs (maxSteps := 5000000) only [go_sem, Nat.reduceShiftRight, Nat.reduceAnd, Nat.reduceBNe, Int.reduceEq, Nat.reduceAdd, Nat.reduceSub, Nat.reduceMul, Nat.reduceLeDiff, reduceIte, reduceCtorEq, Nat.reduceBEq, Nat.reduceEqDiff, wrap64, runC_loop, runC_range, callF_fn, callV_fn, callV_yld, yield_eq, yieldBody, yieldRaw, roundMid, roundEnd, rangeEnd, Bool.not_not, put_cons, put_nil, trim_same, at_zero, at_add, set_zero, set_add, store_one, write_zero, write_add, write_head, write_succ, splice_one, splice_more, List.drop_nil, List.take_nil, cell_int, cell_bool, fillS, splice_one, idxA, Ex.isNormal, List.set_nil, List.length_set, List.all_cons, List.all_nil, Bool.and_self, and_self, true_and, and_true, List.getElem?_nil, Int.reduceLT, Int.reduceLE, Int.reduceToNat, Int.toNat_zero, Int.toNat_one, Int.reduceAdd, Int.reduceSub, Int.reduceMul, Int.reduceNeg, Int.reduceBEq, Int.reduceBNe, Int.reduceGE, Int.reduceGT, Nat.reduceLT, trim_keep, under_fn, under_ptr, under_sl, Nat.lt_irrefl, not_lt_add, trim_tail, keepOk, ABlk.vals, Int.cast_ofNat_Int, decide_true, decide_false, List.all_cons, List.all_nil, Nat.zero_mul, Nat.mul_one, Nat.one_mul, getT_set, ht, t5, t6, t7, List.length_set, Nat.reduceLT, c0, c6, ef, w1, w2, c2, c1, w3, w4, outs_normal]
    simp) (by
   rintro e K2 (⟨_, _, rfl⟩ | ⟨_, _, rfl⟩)
   ·rw [ro _ (by omega) (by omega)]; exact b5
   ·rw [hKd, at_set_ne _ _ _ _ (by omega), at_set_ne _ _ _ _ (by omega), ro _ (by omega) (by omega)]; exact b5)
 rcases r with ⟨hf, he, hk⟩ | ⟨hf, he, hk⟩
 ·rw [hk] at h4; subst he
  rw [hf] at hx2
  have f0 : x1 = 0 := by rw [← hx1]; unfold fnd; rw [if_neg (of_decide_eq_false hx2)]
  have inv2 : ans = holdF b (L.drop (i + 1)) := by rw [inv, holdF, if_neg (of_decide_eq_false hx2)]
  rw [show Ex.isNormal .normal = true from rfl] at ey h4
  simp only [if_true] at h4
  have l4 := two_len h4 (by rw [List.length_set]; omega)
  have a4 := fun {z} (hz : z < K.length) => two_at h4 hz
  have i4 : K4[H.length + 4]? = some (.rw [.int .i64 (i : Int)]) := by rw [a4 (by omega), at_set_ne _ _ _ _ (by omega), ro _ (by omega) (by omega), fb _ (by omega) (by omega)]; exact y.ib
  refine ⟨K4, .inl ⟨ey, i4, ⟨⟨fun z hz => ?_, by rw [List.length_set]; omega, ?_, ?_, ?_, ?_, ?_⟩, at_set _ _ _ (by omega), inv2⟩⟩⟩
  ·rw [at_set_ne _ _ _ _ (by omega), a4 (by omega), at_set_ne _ _ _ _ (by omega), ro _ (by omega) (by omega), fb _ (by omega) (by omega)]; exact y.y.old z hz
  ·rw [at_set_ne _ _ _ _ (by omega), a4 (by omega), at_set_ne _ _ _ _ (by omega), ro _ (by omega) (by omega)]; exact b0
  ·rw [at_set_ne _ _ _ _ (by omega), a4 (by omega), at_set_ne _ _ _ _ (by omega), r1, f0]
  ·rw [at_set_ne _ _ _ _ (by omega), a4 (by omega), at_set_ne _ _ _ _ (by omega), r2, hf]
  ·rw [at_set_ne _ _ _ _ (by omega), a4 (by omega), at_set_ne _ _ _ _ (by omega), ro _ (by omega) (by omega), fb _ (by omega) (by omega)]; exact y.y.lb
  ·rw [at_set_ne _ _ _ _ (by omega), a4 (by omega), at_set _ _ _ (by omega)]
 ·rw [hk] at h4; subst he
  rw [hf] at hx2
  have inv2 : ans = (x1, true) := by rw [inv, holdF, if_pos (of_decide_eq_true hx2), hx1]
  rw [show Ex.isNormal .ret = false from rfl] at ey h4
  simp only [Bool.false_eq_true, if_false] at h4
  have ld : Kd.length = K.length + 1 := by rw [hKd, List.length_set, List.length_set, lc]
  have l4 := two_len h4 (by rw [List.length_set]; omega)
  have a4 := fun {z} (hz : z < K.length) => two_at h4 hz
  have rd : ∀ z, z ≠ H.length + 1 → z ≠ H.length + 2 → Kd[z]? = Kb[z]? := fun z h1 h2 => by rw [hKd, at_set_ne _ _ _ _ h2, at_set_ne _ _ _ _ h1, ro z h1 h2]
  refine ⟨K4, .inr ⟨ey, ⟨fun z hz => ?_, by omega, ?_, ?_, ?_, ?_, ?_⟩, by rw [inv2]⟩⟩
  ·rw [a4 (by omega), at_set_ne _ _ _ _ (by omega), rd _ (by omega) (by omega), fb _ (by omega) (by omega)]; exact y.y.old z hz
  ·rw [a4 (by omega), at_set_ne _ _ _ _ (by omega), rd _ (by omega) (by omega)]; exact b0
  ·rw [a4 (by omega), at_set_ne _ _ _ _ (by omega), hKd, at_set_ne _ _ _ _ (by omega), at_set _ _ _ (by omega), inv2]
  ·rw [a4 (by omega), at_set_ne _ _ _ _ (by omega), hKd, at_set _ _ _ (by rw [List.length_set]; omega), inv2]
  ·rw [a4 (by omega), at_set_ne _ _ _ _ (by omega), rd _ (by omega) (by omega), fb _ (by omega) (by omega)]; exact y.y.lb
  ·rw [a4 (by omega), at_set _ _ _ (by omega)]
set_option maxHeartbeats 4000000 in
theorem holRange (i : Int) {T : T} (ht : T.length = 24) (t5 : getT T 5 = .ptr H.length 0) (t6 : getT T 6 = .ptr (H.length + 1) 0) (t7 : getT T 7 = .ptr (H.length + 2) 0) (tf : getT T 12 = .fn 52 [.ptr (H.length + 4) 0, .ptr (H.length + 3) 0]) :
  Outs (runC (envL prog) (.range (X 12) [13, 14] kaq12x0 kbq12x0) T (H ++ [ABlk.rw [.int .i64 b], .rw [.int .i64 0], .rw [.bool false], .rw [v], .rw [.int .i64 i]])) fun e t K => t = T ∧ ((e = .normal ∧ holdS L i b = (0, false)) ∨ (e = .ret ∧ (holdS L i b).2 = true)) ∧ HolY H v b (holdS L i b) .exhausted e T K := by
 obtain ⟨G, hG⟩ : ∃ G, G = H ++ [ABlk.rw [.int .i64 b], .rw [.int .i64 0], .rw [.bool false], .rw [v], .rw [.int .i64 i]] := ⟨_, rfl⟩
 obtain ⟨K0, hK0⟩ : ∃ K0, K0 = G ++ [HolL .ready .normal T] := ⟨_, rfl⟩
 have lG : G.length = H.length + 5 := by rw [hG]; simp
 have aH : Adds H K0 := ⟨_, by rw [hK0, hG, List.append_assoc]⟩
 have y0 : HolY H v b (0, false) .ready .normal T K0 := ⟨fun z hz => by rw [hK0, hG, List.getElem?_append_left (by simp; omega), List.getElem?_append_left hz], by rw [hK0, List.length_append, lG]; simp, by rw [hK0, hG]; simp, by rw [hK0, hG]; simp, by rw [hK0, hG]; simp, by rw [hK0, hG]; simp, by rw [hK0, ← lG]; simp⟩
 have ib0 : K0[H.length + 4]? = some (.rw [.int .i64 i]) := by rw [hK0, hG]; simp
 rw [← hG]
 have cf : ∀ K, callF (envL prog) (X 12 T) [.yld G.length] K = (envL prog).call 52 [.yld (H.length + 5), .ptr (H.length + 4) 0, .ptr (H.length + 3) 0] K := fun K => by
  rw [lG, X_ap, tf]; rfl
 have fin : ∀ {e : Ex} {st : LoopState} {K : AHeap} {ans : Int × Bool}, (envL prog).call 52 [.yld (H.length + 5), .ptr (H.length + 4) 0, .ptr (H.length + 3) 0] K0 = some (.tup [], K) → HolY H v b ans st e T K → st ≠ .busy → runC (envL prog) (.range (X 12) [13, 14] kaq12x0 kbq12x0) T G = some (e, T, K.set (H.length + 5) (HolL .exhausted e T)) ∧ HolY H v b ans .exhausted e T (K.set (H.length + 5) (HolL .exhausted e T)) := by
  intro e st K ans hc hy hs
  have hl := hy.len
  have := range_all (E := envL prog) (f := X 12) (ps := [13, 14]) (ka := kaq12x0) (kb := kbq12x0) (t := T) (h := G) (K := K) (e := e) (st := st) (v := .tup []) (by rw [cf]; rw [hK0] at hc; exact hc) (by rw [lG]; exact hy.lp) hs
  rw [lG] at this
  exact ⟨this, fun z hz => by rw [at_set_ne _ _ _ _ (by omega)]; exact hy.old z hz, by rw [List.length_set]; exact hl, by rw [at_set_ne _ _ _ _ (by omega)]; exact hy.blk, by rw [at_set_ne _ _ _ _ (by omega)]; exact hy.at_, by rw [at_set_ne _ _ _ _ (by omega)]; exact hy.ok, by rw [at_set_ne _ _ _ _ (by omega)]; exact hy.lb, at_set _ _ _ (by omega)⟩
 by_cases hi : i < 0
 ·obtain ⟨e1, e2⟩ := fin (fromNeg hi (cells_rw ib0)) y0 (by decide)
  have hs : holdS L i b = (0, false) := by unfold holdS; rw [if_pos hi]
  rw [e1, hs]
  exact ⟨_, _, _, rfl, rfl, .inl ⟨rfl, rfl⟩, e2⟩
 ·obtain ⟨n, rfl⟩ : ∃ n : Nat, i = n := ⟨i.toNat, by omega⟩
  have hs : holdS L (n : Int) b = holdF b (L.drop n) := by unfold holdS; rw [if_neg hi, Int.toNat_natCast]
  have hP : ∀ j K, HolP H v L b (holdS L (n : Int) b) T j K → K[H.length + 4]? = some (.rw [.int .i64 (j : Int)]) ∧ cellsOf K (H.length + 3) = some [v] ∧ Adds H K := fun j K y => ⟨y.ib, cells_rw y.y.lb, Adds.of_get (by have := y.y.len; omega) y.y.old⟩
  obtain ⟨K1, ec, h1⟩ := fromAll g (v := v) (L := L) (p := H.length + 4) (q := H.length + 3) (y := H.length + 5) (P := HolP H v L b (holdS L (n : Int) b) T) (Q := fun K => HolY H v b (holdS L (n : Int) b) .done .ret T K ∧ (holdS L (n : Int) b).2 = true) fi.1 hP (fun j K s vc vt y hx hbs hip => holRound g fi b ht t5 t6 t7 y hx ((hP _ K y).2.2.bs hbs) (hip.adds (hP _ K y).2.2)) (i := n) (K := K0) ⟨y0, ib0, hs⟩
  have l0 : K0.length = H.length + 6 := by rw [hK0, List.length_append, lG]; rfl
  obtain ⟨K4, et, h4⟩ := trim_two K0 (.tup []) K1
  rw [et] at ec
  have cut : ∀ {ans st e}, HolY H v b ans st e T K1 → HolY H v b ans st e T K4 := fun {ans st e} y => by
   have a4 := fun {z} (hz : z < K0.length) => two_at h4 hz
   exact ⟨fun z hz => by rw [a4 (by omega)]; exact y.old z hz, by have := two_len h4 (by have := y.len; omega); omega, by rw [a4 (by omega)]; exact y.blk, by rw [a4 (by omega)]; exact y.at_, by rw [a4 (by omega)]; exact y.ok, by rw [a4 (by omega)]; exact y.lb, by rw [a4 (by omega)]; exact y.lp⟩
  rcases h1 with ⟨j, hj, _, _, yj⟩ | yd
  ·have ha : holdS L (n : Int) b = (0, false) := by rw [yj.inv, List.drop_eq_nil_of_le hj]; rfl
   obtain ⟨e1, e2⟩ := fin ec (cut yj.y) (by decide)
   rw [e1, ha]
   exact ⟨_, _, _, rfl, rfl, .inl ⟨rfl, rfl⟩, e2⟩
  ·obtain ⟨e1, e2⟩ := fin ec (cut yd.1) (by decide)
   rw [e1]
   exact ⟨_, _, _, rfl, rfl, .inr ⟨rfl, yd.2⟩, e2⟩
theorem holderC (i : Int) : (envL prog).call 12 [v, .int .i64 i, .int .i64 b] H = some (.tup [.int .i64 (holdS L i b).1, .bool (holdS L i b).2], H) := by
 have hr := fun T => holRange g fi b i (T := T)
 have ef := fromC (g.adds (⟨[ABlk.rw [.int .i64 b], .rw [.int .i64 0], .rw [.bool false]], rfl⟩ : Adds H _)) i
 have key : Outs (runC (envL prog) (b12 (envL prog)) ([v, .int .i64 i, .int .i64 b] ++ List.replicate (24 - [v, AV.int .i64 i, AV.int .i64 b].length) .undef) H) fun e' t K => Adds H K ∧ fin [.cell 6 1 false, .cell 7 1 false] (some (e', t, K)) = some (.tup [.int .i64 (holdS L i b).1, .bool (holdS L i b).2], K) := by
  unfold b12
  generalize hQ : (fun (e' : Ex) (t : T) (K : AHeap) => Adds H K ∧ fin [.cell 6 1 false, .cell 7 1 false] (some (e', t, K)) = some (AV.tup [.int .i64 (holdS L i b).1, .bool (holdS L i b).2], K)) = Q
  simp -implicitDefEqProofs (maxSteps := 5000000) only [go_sem, Nat.reduceShiftRight, Nat.reduceAnd, Nat.reduceBNe, Int.reduceEq, Nat.reduceAdd, Nat.reduceSub, Nat.reduceMul, Nat.reduceLeDiff, reduceIte, reduceCtorEq, Nat.reduceBEq, Nat.reduceEqDiff, wrap64, runC_loop, callF_fn, callV_fn, callV_yld, Bool.not_not, put_cons, put_nil, trim_same, at_zero, at_add, set_zero, set_add, store_one, write_zero, write_add, write_head, write_succ, splice_one, splice_more, List.drop_nil, List.take_nil, cell_int, cell_bool, fillS, splice_one, idxA, Ex.isNormal, List.set_nil, List.length_set, List.all_cons, List.all_nil, Bool.and_self, and_self, true_and, and_true, List.getElem?_nil, Int.reduceLT, Int.reduceLE, Int.reduceToNat, Int.toNat_zero, Int.toNat_one, Int.reduceAdd, Int.reduceSub, Int.reduceMul, Int.reduceNeg, Int.reduceBEq, Int.reduceBNe, Int.reduceGE, Int.reduceGT, Nat.reduceLT, trim_keep, under_fn, under_ptr, under_sl, Nat.lt_irrefl, not_lt_add, trim_tail, keepOk, ABlk.vals, Int.cast_ofNat_Int, decide_true, decide_false, List.all_cons, List.all_nil, Nat.zero_mul, Nat.mul_one, Nat.one_mul, ef]
  refine outs_ctx (fun r => seqR (blockR 0 r) _) (hr _ rfl rfl rfl rfl rfl) ?_
  rintro e t K ⟨rfl, h, y⟩
  have aK : Adds H K := Adds.of_get (by have := y.len; omega) y.old
  have hl := y.len
  have c1 := cells_rw y.at_
  have c2 := cells_rw y.ok
  rcases h with ⟨rfl, ha⟩ | ⟨rfl, ha⟩
  ·have w1 := write_one (y := .int .i64 0) y.at_ rfl
   have q2 : (K.set (H.length + 1) (.rw [.int .i64 0]))[H.length + 2]? = some (.rw [.bool (holdS L i b).2]) := by rw [at_set_ne _ _ _ _ (by omega)]; exact y.ok
   have w2 := write_one (y := .bool false) q2 rfl
   obtain ⟨Kd, hKd⟩ : ∃ Kd, Kd = (K.set (H.length + 1) (.rw [.int .i64 0])).set (H.length + 2) (.rw [.bool false]) := ⟨_, rfl⟩
   rw [← hKd] at w2
   have d2 := cells_rw (show Kd[H.length + 2]? = some (.rw [.bool false]) by rw [hKd]; exact at_set _ _ _ (by rw [List.length_set]; omega))
   have d1 := cells_rw (show Kd[H.length + 1]? = some (.rw [.int .i64 0]) by rw [hKd, at_set_ne _ _ _ _ (by omega)]; exact at_set _ _ _ (by omega))
   have aD : Adds H Kd := Adds.of_get (by rw [hKd, List.length_set, List.length_set]; omega) fun z hz => by rw [hKd, at_set_ne _ _ _ _ (by omega), at_set_ne _ _ _ _ (by omega)]; exact y.old z hz
   simp -implicitDefEqProofs (maxSteps := 5000000) only [go_sem, Nat.reduceShiftRight, Nat.reduceAnd, Nat.reduceBNe, Int.reduceEq, Nat.reduceAdd, Nat.reduceSub, Nat.reduceMul, Nat.reduceLeDiff, reduceIte, reduceCtorEq, Nat.reduceBEq, Nat.reduceEqDiff, wrap64, runC_loop, runC_range, callF_fn, callV_fn, callV_yld, yield_eq, yieldBody, yieldRaw, roundMid, roundEnd, rangeEnd, Bool.not_not, put_cons, put_nil, trim_same, at_zero, at_add, set_zero, set_add, store_one, write_zero, write_add, write_head, write_succ, splice_one, splice_more, List.drop_nil, List.take_nil, cell_int, cell_bool, fillS, splice_one, idxA, Ex.isNormal, List.set_nil, List.length_set, List.all_cons, List.all_nil, Bool.and_self, and_self, true_and, and_true, List.getElem?_nil, Int.reduceLT, Int.reduceLE, Int.reduceToNat, Int.toNat_zero, Int.toNat_one, Int.reduceAdd, Int.reduceSub, Int.reduceMul, Int.reduceNeg, Int.reduceBEq, Int.reduceBNe, Int.reduceGE, Int.reduceGT, Nat.reduceLT, trim_keep, under_fn, under_ptr, under_sl, Nat.lt_irrefl, not_lt_add, trim_tail, keepOk, ABlk.vals, Int.cast_ofNat_Int, decide_true, decide_false, List.all_cons, List.all_nil, Nat.zero_mul, Nat.mul_one, Nat.one_mul, w1, w2, outs_normal]
   subst hQ
   rw [ha]
   refine ⟨aD, ?_⟩
   simp -implicitDefEqProofs (maxSteps := 5000000) only [go_sem, Nat.reduceShiftRight, Nat.reduceAnd, Nat.reduceBNe, Int.reduceEq, Nat.reduceAdd, Nat.reduceSub, Nat.reduceMul, Nat.reduceLeDiff, reduceIte, reduceCtorEq, Nat.reduceBEq, Nat.reduceEqDiff, wrap64, runC_loop, runC_range, callF_fn, callV_fn, callV_yld, yield_eq, yieldBody, yieldRaw, roundMid, roundEnd, rangeEnd, Bool.not_not, put_cons, put_nil, trim_same, at_zero, at_add, set_zero, set_add, store_one, write_zero, write_add, write_head, write_succ, splice_one, splice_more, List.drop_nil, List.take_nil, cell_int, cell_bool, fillS, splice_one, idxA, Ex.isNormal, List.set_nil, List.length_set, List.all_cons, List.all_nil, Bool.and_self, and_self, true_and, and_true, List.getElem?_nil, Int.reduceLT, Int.reduceLE, Int.reduceToNat, Int.toNat_zero, Int.toNat_one, Int.reduceAdd, Int.reduceSub, Int.reduceMul, Int.reduceNeg, Int.reduceBEq, Int.reduceBNe, Int.reduceGE, Int.reduceGT, Nat.reduceLT, trim_keep, under_fn, under_ptr, under_sl, Nat.lt_irrefl, not_lt_add, trim_tail, keepOk, ABlk.vals, Int.cast_ofNat_Int, decide_true, decide_false, List.all_cons, List.all_nil, Nat.zero_mul, Nat.mul_one, Nat.one_mul, d1, d2]
  ·simp -implicitDefEqProofs (maxSteps := 5000000) only [go_sem, Nat.reduceShiftRight, Nat.reduceAnd, Nat.reduceBNe, Int.reduceEq, Nat.reduceAdd, Nat.reduceSub, Nat.reduceMul, Nat.reduceLeDiff, reduceIte, reduceCtorEq, Nat.reduceBEq, Nat.reduceEqDiff, wrap64, runC_loop, runC_range, callF_fn, callV_fn, callV_yld, yield_eq, yieldBody, yieldRaw, roundMid, roundEnd, rangeEnd, Bool.not_not, put_cons, put_nil, trim_same, at_zero, at_add, set_zero, set_add, store_one, write_zero, write_add, write_head, write_succ, splice_one, splice_more, List.drop_nil, List.take_nil, cell_int, cell_bool, fillS, splice_one, idxA, Ex.isNormal, List.set_nil, List.length_set, List.all_cons, List.all_nil, Bool.and_self, and_self, true_and, and_true, List.getElem?_nil, Int.reduceLT, Int.reduceLE, Int.reduceToNat, Int.toNat_zero, Int.toNat_one, Int.reduceAdd, Int.reduceSub, Int.reduceMul, Int.reduceNeg, Int.reduceBEq, Int.reduceBNe, Int.reduceGE, Int.reduceGT, Nat.reduceLT, trim_keep, under_fn, under_ptr, under_sl, Nat.lt_irrefl, not_lt_add, trim_tail, keepOk, ABlk.vals, Int.cast_ofNat_Int, decide_true, decide_false, List.all_cons, List.all_nil, Nat.zero_mul, Nat.mul_one, Nat.one_mul, outs_normal]
   subst hQ
   refine ⟨aK, ?_⟩
   simp -implicitDefEqProofs (maxSteps := 5000000) only [go_sem, Nat.reduceShiftRight, Nat.reduceAnd, Nat.reduceBNe, Int.reduceEq, Nat.reduceAdd, Nat.reduceSub, Nat.reduceMul, Nat.reduceLeDiff, reduceIte, reduceCtorEq, Nat.reduceBEq, Nat.reduceEqDiff, wrap64, runC_loop, runC_range, callF_fn, callV_fn, callV_yld, yield_eq, yieldBody, yieldRaw, roundMid, roundEnd, rangeEnd, Bool.not_not, put_cons, put_nil, trim_same, at_zero, at_add, set_zero, set_add, store_one, write_zero, write_add, write_head, write_succ, splice_one, splice_more, List.drop_nil, List.take_nil, cell_int, cell_bool, fillS, splice_one, idxA, Ex.isNormal, List.set_nil, List.length_set, List.all_cons, List.all_nil, Bool.and_self, and_self, true_and, and_true, List.getElem?_nil, Int.reduceLT, Int.reduceLE, Int.reduceToNat, Int.toNat_zero, Int.toNat_one, Int.reduceAdd, Int.reduceSub, Int.reduceMul, Int.reduceNeg, Int.reduceBEq, Int.reduceBNe, Int.reduceGE, Int.reduceGT, Nat.reduceLT, trim_keep, under_fn, under_ptr, under_sl, Nat.lt_irrefl, not_lt_add, trim_tail, keepOk, ABlk.vals, Int.cast_ofNat_Int, decide_true, decide_false, List.all_cons, List.all_nil, Nat.zero_mul, Nat.mul_one, Nat.one_mul, c1, c2]
 obtain ⟨e', t, K, hr, aK, hf⟩ := key
 rw [c12, hr, hf]; exact aK.trimS rfl
end
end Go.Proofs.Ythhodjcgcgkaaaa.G11
end
section
namespace Go.Proofs.Ythhodjcgcgkaaaa.G11
open Go Go.Proofs.Ythhodjcgcgkaaaa.Eng
theorem own_ge {H : AHeap} {v : AV} {G : AHeap} {zs : List Int} (o : Bt.Own H v G zs) : ∀ b, slb v = some b → H.length ≤ b := by
 rcases o with ⟨_, ⟨rfl, _⟩ | ⟨rfl, _⟩⟩ | ⟨_, rfl, _⟩
 ·intro b h; cases h
 ·intro b h; injection h with h; omega
 ·intro b h; injection h with h; omega
theorem bs_end {H K : AHeap} {w : AV} {zs : List Int} (a : Adds H K) (g : BS K w zs) (wb : ∀ b, slb w = some b → H.length ≤ b) : ∃ K', trim H (some (w, K)) = some (w, K') ∧ Adds H K' ∧ BS K' w zs := by
 rcases trim_adds (v := w) a with e | ⟨u, e⟩
 ·exact ⟨K, e, a, g⟩
 ·refine ⟨H, e, Adds.refl H, ?_⟩
  rcases g with g | ⟨b, o, l, ex, cs, rfl, _⟩
  ·exact .inl g
  ·have := wb b rfl
   have := slb_under u rfl
   omega
def chgF (j : Int) : List SnS → Int → List Int → List Int
 | [], _, acc => acc
 | s :: L, i, acc => if j ≤ i then acc else chgF j L (i + 1) (Bt.orS acc s.ch)
def chgS (L : List SnS) (i j : Int) : List Int := chgF j (L.drop (max i 0).toNat) (max i 0) []
theorem orS_le {xs ys : List Int} (h1 : xs.length ≤ 1000) (h2 : ys.length ≤ 1000) : (Bt.orS xs ys).length ≤ 1000 := by
 unfold Bt.orS
 split <;> rw [Bt.orL_len] <;> assumption
noncomputable abbrev ChgL (s : LoopState) (e : Ex) (t : T) : ABlk := .loop ⟨s, e, t, [14, 15], kaq19x0, kbq19x0⟩
structure ChgY (H : AHeap) (v : AV) (j : Int) (acc : List Int) (s : LoopState) (e : Ex) (t : T) (w : AV) (K : AHeap) : Prop where
 old : ∀ b, b < H.length → K[b]? = H[b]?
 len : H.length + 5 ≤ K.length
 jb : K[H.length]? = some (.rw [.int .i64 j])
 wb : K[H.length + 1]? = some (.rw [w])
 lb : K[H.length + 2]? = some (.rw [v])
 lp : K[H.length + 4]? = some (ChgL s e t)
 bs : BS K w acc
 bg : ∀ b, slb w = some b → H.length + 5 ≤ b
 al : acc.length ≤ 1000
theorem ChgY.fr {H K K' : AHeap} {v : AV} {j : Int} {acc : List Int} {s s' : LoopState} {e e' : Ex} {t : T} {w : AV} (y : ChgY H v j acc s e t w K) (a : ∀ b, b < H.length + 5 → b ≠ H.length + 3 → b ≠ H.length + 4 → K'[b]? = K[b]?) (l : H.length + 5 ≤ K'.length) (lp : K'[H.length + 4]? = some (ChgL s' e' t)) (bs : BS K' w acc) : ChgY H v j acc s' e' t w K' :=
 ⟨fun b hb => by rw [a b (by omega) (by omega) (by omega)]; exact y.old b hb, l, by rw [a _ (by omega) (by omega) (by omega)]; exact y.jb, by rw [a _ (by omega) (by omega) (by omega)]; exact y.wb, by rw [a _ (by omega) (by omega) (by omega)]; exact y.lb, lp, bs, y.bg, y.al⟩
structure ChgP (H : AHeap) (v : AV) (L : List SnS) (j : Int) (ans : List Int) (t : T) (i : Nat) (K : AHeap) : Prop where
 ex : ∃ w acc, ChgY H v j acc .ready .normal t w K ∧ ans = chgF j (L.drop i) i acc
 ib : K[H.length + 3]? = some (.rw [.int .i64 (i : Int)])
section
variable {H : AHeap} {v : AV} {L : List SnS} (g : IsC H v L) (fi : Fits L) (j : Int)
include g fi
set_option maxHeartbeats 4000000 in
theorem chgRound {ans : List Int} {t : T} (ht : t.length = 24) (t5 : getT t 5 = .ptr H.length 0) (t7 : getT t 7 = .ptr (H.length + 1) 0) {i : Nat} {K : AHeap} {s : SnS} {vc vt : AV} (y : ChgP H v L j ans t i K) (hx : L[i]? = some s) (hbs : BS K vc s.ch) (hip : IsP K vt s.tb) :
  ∃ K', ((envL prog).yield (H.length + 4) [.int .i64 (i : Int), .agg [.int .i64 s.id, vc, vt]] K = some (.bool true, K') ∧ K'[H.length + 3]? = some (.rw [.int .i64 (i : Int)]) ∧ ChgP H v L j ans t (i + 1) (K'.set (H.length + 3) (.rw [.int .i64 ((i + 1 : Nat) : Int)]))) ∨ ((envL prog).yield (H.length + 4) [.int .i64 (i : Int), .agg [.int .i64 s.id, vc, vt]] K = some (.bool false, K') ∧ ∃ w, ChgY H v j ans .done (.exit 0) t w K') := by
 obtain ⟨⟨w, acc, y, inv⟩, ib⟩ := y
 have kl := y.len
 have ft := fits_get fi hx
 have lt := (List.getElem?_eq_some_iff.1 hx).1
 rw [List.drop_eq_getElem_cons lt, Option.some.inj ((List.getElem?_eq_getElem lt).symm.trans hx)] at inv
 have w0 := snAlloc hbs hip
 obtain ⟨Kb, hKb⟩ : ∃ Kb, Kb = (K ++ [ABlk.rw [.int .i64 s.id, vc, vt]]).set (H.length + 4) (ChgL .busy .normal t) := ⟨_, rfl⟩
 have lb : Kb.length = K.length + 1 := by rw [hKb]; exact busy_len
 have fb : ∀ b, b < K.length → b ≠ H.length + 4 → Kb[b]? = K[b]? := fun b hb hn => by rw [hKb]; exact busy_at hb hn
 have b0 : Kb[H.length]? = some (.rw [.int .i64 j]) := by rw [fb _ (by omega) (by omega)]; exact y.jb
 have b1 : Kb[H.length + 1]? = some (.rw [w]) := by rw [fb _ (by omega) (by omega)]; exact y.wb
 have b5 : Kb[H.length + 4]? = some (ChgL .busy .normal t) := by rw [hKb]; exact busy_lp (by omega)
 have b6 : Kb[K.length]? = some (.rw [.int .i64 s.id, vc, vt]) := by rw [hKb]; exact busy_new (by omega)
 have frb : Fr K Kb (fun b => b = H.length + 4) := by rw [hKb]; exact busy_fr
 have bsb := y.bs.fr frb (y.bs.nl y.lp)
 have c0 := cells_rw b0
 have c1 := cells_rw b1
 have c6 := cells_rw b6
 obtain ⟨w', G, ow, eo⟩ := Bt.orC bsb (hbs.fr frb (hbs.nl y.lp)) (by have := y.al; omega) (by have := ft.lc; omega)
 have wg := own_ge ow
 obtain ⟨Kc, hKc⟩ : ∃ Kc, Kc = (Kb ++ G).set (H.length + 1) (.rw [w']) := ⟨_, rfl⟩
 have g1 : (Kb ++ G)[H.length + 1]? = some (.rw [w]) := by rw [List.getElem?_append_left (by omega)]; exact b1
 have w1 := write_one (y := w') g1 (ow.bs.cell).2
 rw [← hKc] at w1
 have cw := ow.bs.cell
 have lc : K.length + 1 ≤ Kc.length := by rw [hKc, List.length_set, List.length_append]; omega
 have bc : BS Kc w' (Bt.orS acc s.ch) := by
  rw [hKc]
  exact ow.bs.fr (Fr.set _ _ (F := fun b => b = H.length + 1) rfl) fun b hb h => by have := wg b hb; omega
 obtain ⟨e, K2, K4, r, ey, h4⟩ := round_gen (P := prog) (l := H.length + 4) (args := [.int .i64 (i : Int), .agg [.int .i64 s.id, vc, vt]]) (K := K) (eaq19x0 _) (ebq19x0 _) y.lp rfl (t1 := (((t.set 14 (.int .i64 (i : Int))).set 15 (.agg [.int .i64 s.id, vc, vt])).set 8 (.int .i64 (i : Int))).set 9 (.ptr K.length 0)) (cs := [.int .i64 s.id, vc, vt]) (by
   unfold aq19x0
   simp -implicitDefEqProofs (maxSteps := 5000000) only [go_sem, Nat.reduceShiftRight, Nat.reduceAnd, Nat.reduceBNe, Int.reduceEq, Nat.reduceAdd, Nat.reduceSub, Nat.reduceMul, Nat.reduceLeDiff, reduceIte, reduceCtorEq, Nat.reduceBEq, Nat.reduceEqDiff, putParams, getT_set, ht, List.length_set, Nat.reduceLT, store_one, cellsA_agg, w0])
  (R := fun e K2 => (¬ j ≤ i ∧ e = .normal ∧ K2 = Kc) ∨ (j ≤ i ∧ e = .exit 0 ∧ K2 = Kb)) (by
   rw [← hKb]
   unfold bq19x0
   by_cases hj : j ≤ i
   ·have dj : decide ((i : Int) ≥ j) = true := decide_eq_true hj
    simp -implicitDefEqProofs (maxSteps := 5000000) only [go_sem, Nat.reduceShiftRight, Nat.reduceAnd, Nat.reduceBNe, Int.reduceEq, Nat.reduceAdd, Nat.reduceSub, Nat.reduceMul, Nat.reduceLeDiff, reduceIte, reduceCtorEq, Nat.reduceBEq, Nat.reduceEqDiff, wrap64, runC_loop, runC_range, callF_fn, callV_fn, callV_yld, yield_eq, yieldBody, yieldRaw, roundMid, roundEnd, rangeEnd, Bool.not_not, put_cons, put_nil, trim_same, at_zero, at_add, set_zero, set_add, store_one, write_zero, write_add, write_head, write_succ, splice_one, splice_more, List.drop_nil, List.take_nil, cell_int, cell_bool, fillS, splice_one, idxA, Ex.isNormal, List.set_nil, List.length_set, List.all_cons, List.all_nil, Bool.and_self, and_self, true_and, and_true, List.getElem?_nil, Int.reduceLT, Int.reduceLE, Int.reduceToNat, Int.toNat_zero, Int.toNat_one, Int.reduceAdd, Int.reduceSub, Int.reduceMul, Int.reduceNeg, Int.reduceBEq, Int.reduceBNe, Int.reduceGE, Int.reduceGT, Nat.reduceLT, trim_keep, under_fn, under_ptr, under_sl, Nat.lt_irrefl, not_lt_add, trim_tail, keepOk, ABlk.vals, Int.cast_ofNat_Int, decide_true, decide_false, List.all_cons, List.all_nil, Nat.zero_mul, Nat.mul_one, Nat.one_mul, getT_set, ht, t5, t7, List.length_set, Nat.reduceLT, c0, dj, outs_normal]
    exact .inr hj
   ·have dj : decide ((i : Int) ≥ j) = false := decide_eq_false hj
    simp -implicitDefEqProofs (maxSteps := 5000000) only [go_sem, Nat.reduceShiftRight, Nat.reduceAnd, Nat.reduceBNe, Int.reduceEq, Nat.reduceAdd, Nat.reduceSub, Nat.reduceMul, Nat.reduceLeDiff, reduceIte, reduceCtorEq, Nat.reduceBEq, Nat.reduceEqDiff, wrap64, runC_loop, runC_range, callF_fn, callV_fn, callV_yld, yield_eq, yieldBody, yieldRaw, roundMid, roundEnd, rangeEnd, Bool.not_not, put_cons, put_nil, trim_same, at_zero, at_add, set_zero, set_add, store_one, write_zero, write_add, write_head, write_succ, splice_one, splice_more, List.drop_nil, List.take_nil, cell_int, cell_bool, fillS, splice_one, idxA, Ex.isNormal, List.set_nil, List.length_set, List.all_cons, List.all_nil, Bool.and_self, and_self, true_and, and_true, List.getElem?_nil, Int.reduceLT, Int.reduceLE, Int.reduceToNat, Int.toNat_zero, Int.toNat_one, Int.reduceAdd, Int.reduceSub, Int.reduceMul, Int.reduceNeg, Int.reduceBEq, Int.reduceBNe, Int.reduceGE, Int.reduceGT, Nat.reduceLT, trim_keep, under_fn, under_ptr, under_sl, Nat.lt_irrefl, not_lt_add, trim_tail, keepOk, ABlk.vals, Int.cast_ofNat_Int, decide_true, decide_false, List.all_cons, List.all_nil, Nat.zero_mul, Nat.mul_one, Nat.one_mul, getT_set, ht, t5, t7, List.length_set, Nat.reduceLT, c0, dj, c1, c6, eo, cw.1, w1, outs_normal]
    exact .inl hj) (by
   rintro e K2 (⟨_, _, rfl⟩ | ⟨_, _, rfl⟩)
   ·rw [hKc, at_set_ne _ _ _ _ (by omega), List.getElem?_append_left (by omega)]; exact b5
   ·exact b5)
 have hK1 : ∀ k, K[H.length + 1]? = some k → ∀ a ∈ k.vals, ∀ x, slb a = some x → x < K.length := fun k hk a ha x hx => by
  rw [y.wb] at hk; injection hk with hk; subst hk
  rw [List.mem_singleton.1 ha] at hx; exact y.bs.lt x hx
 rcases r with ⟨hj, he, hk⟩ | ⟨hj, he, hk⟩
 ·rw [hk] at h4; subst he
  rw [chgF, if_neg hj] at inv
  rw [show Ex.isNormal .normal = true from rfl] at ey h4
  simp only [if_true] at h4
  have l4 := two_len h4 (by rw [List.length_set]; omega)
  have a4 := fun {z} (hz : z < K.length) => two_at h4 hz
  have co : ∀ z, z < K.length → z ≠ H.length + 1 → z ≠ H.length + 4 → Kc[z]? = K[z]? := fun z hz h1 h4 => by rw [hKc, at_set_ne _ _ _ _ h1, List.getElem?_append_left (by omega)]; exact fb z hz h4
  have c3 : (Kc.set (H.length + 4) (ChgL .ready .normal t))[H.length + 1]? = some (.rw [w']) := by rw [at_set_ne _ _ _ _ (by omega), hKc]; exact at_set _ _ _ (by rw [List.length_append]; omega)
  have b3 : BS (Kc.set (H.length + 4) (ChgL .ready .normal t)) w' (Bt.orS acc s.ch) := bc.fr (Fr.set _ _ (F := fun b => b = H.length + 4) rfl) fun b hb h => by have := wg b hb; omega
  have b4 : BS K4 w' (Bt.orS acc s.ch) := two_bs h4 b3 (by omega) c3 (by simp) hK1
  have i4 : K4[H.length + 3]? = some (.rw [.int .i64 (i : Int)]) := by rw [a4 (by omega), at_set_ne _ _ _ _ (by omega), co _ (by omega) (by omega) (by omega)]; exact ib
  refine ⟨K4, .inl ⟨ey, i4, ⟨⟨w', Bt.orS acc s.ch, ⟨fun z hz => ?_, by rw [List.length_set]; omega, ?_, ?_, ?_, ?_, ?_, fun b hb => by have := wg b hb; omega, orS_le y.al ft.lc⟩, inv⟩, at_set _ _ _ (by omega)⟩⟩⟩
  ·rw [at_set_ne _ _ _ _ (by omega), a4 (by omega), at_set_ne _ _ _ _ (by omega), co _ (by omega) (by omega) (by omega)]; exact y.old z hz
  ·rw [at_set_ne _ _ _ _ (by omega), a4 (by omega), at_set_ne _ _ _ _ (by omega), co _ (by omega) (by omega) (by omega)]; exact y.jb
  ·rw [at_set_ne _ _ _ _ (by omega), a4 (by omega)]; exact c3
  ·rw [at_set_ne _ _ _ _ (by omega), a4 (by omega), at_set_ne _ _ _ _ (by omega), co _ (by omega) (by omega) (by omega)]; exact y.lb
  ·rw [at_set_ne _ _ _ _ (by omega), a4 (by omega), at_set _ _ _ (by omega)]
  ·exact b4.fr (Fr.set _ _ (F := fun b => b = H.length + 3) rfl) fun b hb h => by have := wg b hb; omega
 ·rw [hk] at h4; subst he
  rw [chgF, if_pos hj] at inv
  rw [show Ex.isNormal (.exit 0) = false from rfl] at ey h4
  simp only [Bool.false_eq_true, if_false] at h4
  have l4 := two_len h4 (by rw [List.length_set]; omega)
  have a4 := fun {z} (hz : z < K.length) => two_at h4 hz
  have c3 : (Kb.set (H.length + 4) (ChgL .done (.exit 0) t))[H.length + 1]? = some (.rw [w]) := by rw [at_set_ne _ _ _ _ (by omega)]; exact b1
  have b3 : BS (Kb.set (H.length + 4) (ChgL .done (.exit 0) t)) w acc := bsb.fr (Fr.set _ _ (F := fun b => b = H.length + 4) rfl) fun b hb h => by have := y.bg b hb; omega
  have b4 : BS K4 w acc := two_bs h4 b3 (by omega) c3 (by simp) hK1
  refine ⟨K4, .inr ⟨ey, w, ?_⟩⟩
  rw [inv]
  exact y.fr (fun b hb h3 h5 => by rw [a4 (by omega), at_set_ne _ _ _ _ (by omega), fb _ (by omega) (by omega)]) (by omega) (by rw [a4 (by omega), at_set _ _ _ (by omega)]) b4
set_option maxHeartbeats 4000000 in
theorem chgRange (n : Nat) {T : T} (ht : T.length = 24) (t5 : getT T 5 = .ptr H.length 0) (t7 : getT T 7 = .ptr (H.length + 1) 0) (tf : getT T 13 = .fn 52 [.ptr (H.length + 3) 0, .ptr (H.length + 2) 0]) :
  Outs (runC (envL prog) (.range (X 13) [14, 15] kaq19x0 kbq19x0) T (H ++ [ABlk.rw [.int .i64 j], .rw [.nilSl], .rw [v], .rw [.int .i64 (n : Int)]])) fun e t K => t = T ∧ (e = .normal ∨ e = .exit 0) ∧ ∃ w, ChgY H v j (chgF j (L.drop n) n []) .exhausted e T w K := by
 obtain ⟨G, hG⟩ : ∃ G, G = H ++ [ABlk.rw [.int .i64 j], .rw [.nilSl], .rw [v], .rw [.int .i64 (n : Int)]] := ⟨_, rfl⟩
 obtain ⟨K0, hK0⟩ : ∃ K0, K0 = G ++ [ChgL .ready .normal T] := ⟨_, rfl⟩
 have lG : G.length = H.length + 4 := by rw [hG]; simp
 have y0 : ChgY H v j [] .ready .normal T .nilSl K0 := ⟨fun z hz => by rw [hK0, hG, List.getElem?_append_left (by simp; omega), List.getElem?_append_left hz], by rw [hK0, List.length_append, lG]; simp, by rw [hK0, hG]; simp, by rw [hK0, hG]; simp, by rw [hK0, hG]; simp, by rw [hK0, ← lG]; simp, .inl ⟨rfl, rfl⟩, fun b h => (by cases h), by simp⟩
 have ib0 : K0[H.length + 3]? = some (.rw [.int .i64 (n : Int)]) := by rw [hK0, hG]; simp
 rw [← hG]
 have cf : ∀ K, callF (envL prog) (X 13 T) [.yld G.length] K = (envL prog).call 52 [.yld (H.length + 4), .ptr (H.length + 3) 0, .ptr (H.length + 2) 0] K := fun K => by
  rw [lG, X_ap, tf]; rfl
 have hP : ∀ i K, ChgP H v L j (chgF j (L.drop n) n []) T i K → K[H.length + 3]? = some (.rw [.int .i64 (i : Int)]) ∧ cellsOf K (H.length + 2) = some [v] ∧ Adds H K := fun i K y => by
  obtain ⟨⟨w, acc, y, _⟩, ib⟩ := y
  exact ⟨ib, cells_rw y.lb, Adds.of_get (by have := y.len; omega) y.old⟩
 obtain ⟨K1, ec, h1⟩ := fromAll g (v := v) (L := L) (p := H.length + 3) (q := H.length + 2) (y := H.length + 4) (P := ChgP H v L j (chgF j (L.drop n) n []) T) (Q := fun K => ∃ w, ChgY H v j (chgF j (L.drop n) n []) .done (.exit 0) T w K) fi.1 hP (fun i K s vc vt y hx hbs hip => chgRound g fi j ht t5 t7 y hx ((hP _ K y).2.2.bs hbs) (hip.adds (hP _ K y).2.2)) (i := n) (K := K0) ⟨⟨_, _, y0, rfl⟩, ib0⟩
 have l0 : K0.length = H.length + 5 := by rw [hK0, List.length_append, lG]; rfl
 obtain ⟨K4, et, h4⟩ := trim_two K0 (.tup []) K1
 rw [et] at ec
 have hK1 : ∀ k, K0[H.length + 1]? = some k → ∀ a ∈ k.vals, ∀ x, slb a = some x → x < K0.length := fun k hk a ha x hx => by
  rw [y0.wb] at hk; injection hk with hk; subst hk
  rw [List.mem_singleton.1 ha] at hx; cases hx
 have fin : ∀ {e : Ex} {st : LoopState} {w : AV} {acc : List Int}, ChgY H v j acc st e T w K1 → st ≠ .busy → runC (envL prog) (.range (X 13) [14, 15] kaq19x0 kbq19x0) T G = some (e, T, K4.set (H.length + 4) (ChgL .exhausted e T)) ∧ ChgY H v j acc .exhausted e T w (K4.set (H.length + 4) (ChgL .exhausted e T)) := by
  intro e st w acc y hs
  have hl := y.len
  have a4 := fun {z} (hz : z < K0.length) => two_at h4 hz
  have l4 := two_len h4 (by omega)
  have b4 : BS K4 w acc := two_bs h4 y.bs (by omega) y.wb (by simp) hK1
  have := range_all (E := envL prog) (f := X 13) (ps := [14, 15]) (ka := kaq19x0) (kb := kbq19x0) (t := T) (h := G) (K := K4) (e := e) (st := st) (v := .tup []) (by rw [cf]; rw [hK0] at ec; exact ec) (by rw [lG, a4 (by omega)]; exact y.lp) hs
  rw [lG] at this
  refine ⟨this, y.fr (fun b hb h3 h5 => by rw [at_set_ne _ _ _ _ (by omega), a4 (by omega)]) (by rw [List.length_set]; omega) (at_set _ _ _ (by omega)) (b4.fr (Fr.set _ _ (F := fun b => b = H.length + 4) rfl) fun b hb h => by have := y.bg b hb; omega)⟩
 rcases h1 with ⟨i, hi, _, _, ⟨w, acc, yi, inv⟩, _⟩ | ⟨w, yd⟩
 ·have ha : chgF j (L.drop n) n [] = acc := by rw [inv, List.drop_eq_nil_of_le hi]; rfl
  obtain ⟨e1, e2⟩ := fin yi (by decide)
  rw [e1, ha]
  exact ⟨_, _, _, rfl, rfl, .inl rfl, w, e2⟩
 ·obtain ⟨e1, e2⟩ := fin yd (by decide)
  rw [e1]
  exact ⟨_, _, _, rfl, rfl, .inr rfl, w, e2⟩
theorem changedC (i : Int) : ∃ w K, (envL prog).call 19 [v, .int .i64 i, .int .i64 j] H = some (w, K) ∧ Adds H K ∧ BS K w (chgS L i j) := by
 obtain ⟨n, hn⟩ : ∃ n : Nat, max i 0 = n := ⟨(max i 0).toNat, by omega⟩
 have hs : chgS L i j = chgF j (L.drop n) n [] := by unfold chgS; rw [hn, Int.toNat_natCast]
 have hm : (if (0 : Int) > i then 0 else i) = (n : Int) := by
  by_cases h : 0 > i
  ·rw [if_pos h]; omega
  ·rw [if_neg h]; omega
 have hr := fun T => chgRange g fi j n (T := T)
 have ef := fromC (g.adds (⟨[ABlk.rw [.int .i64 j], .rw [.nilSl]], rfl⟩ : Adds H _)) n
 have key : Outs (runC (envL prog) (b19 (envL prog)) ([v, .int .i64 i, .int .i64 j] ++ List.replicate (24 - [v, AV.int .i64 i, AV.int .i64 j].length) .undef) H) fun e' t K => ∃ w, Adds H K ∧ BS K w (chgS L i j) ∧ (∀ b, slb w = some b → H.length ≤ b) ∧ fin [.tmp 6] (some (e', t, K)) = some (w, K) := by
  unfold b19
  generalize hQ : (fun (e' : Ex) (t : T) (K : AHeap) => ∃ w, Adds H K ∧ BS K w (chgS L i j) ∧ (∀ b, slb w = some b → H.length ≤ b) ∧ fin [.tmp 6] (some (e', t, K)) = some (w, K)) = Q
  have mx : maxV [.int .i64 i, .int .i64 0] = some (.int .i64 n) := by rw [← hm]; rfl
  simp -implicitDefEqProofs (maxSteps := 5000000) only [go_sem, Nat.reduceShiftRight, Nat.reduceAnd, Nat.reduceBNe, Int.reduceEq, Nat.reduceAdd, Nat.reduceSub, Nat.reduceMul, Nat.reduceLeDiff, reduceIte, reduceCtorEq, Nat.reduceBEq, Nat.reduceEqDiff, wrap64, runC_loop, callF_fn, callV_fn, callV_yld, Bool.not_not, put_cons, put_nil, trim_same, at_zero, at_add, set_zero, set_add, store_one, write_zero, write_add, write_head, write_succ, splice_one, splice_more, List.drop_nil, List.take_nil, cell_int, cell_bool, fillS, splice_one, idxA, Ex.isNormal, List.set_nil, List.length_set, List.all_cons, List.all_nil, Bool.and_self, and_self, true_and, and_true, List.getElem?_nil, Int.reduceLT, Int.reduceLE, Int.reduceToNat, Int.toNat_zero, Int.toNat_one, Int.reduceAdd, Int.reduceSub, Int.reduceMul, Int.reduceNeg, Int.reduceBEq, Int.reduceBNe, Int.reduceGE, Int.reduceGT, Nat.reduceLT, trim_keep, under_fn, under_ptr, under_sl, Nat.lt_irrefl, not_lt_add, trim_tail, keepOk, ABlk.vals, Int.cast_ofNat_Int, decide_true, decide_false, List.all_cons, List.all_nil, Nat.zero_mul, Nat.mul_one, Nat.one_mul, hm, ef]
  refine outs_ctx (fun r => seqR (blockR 0 r) _) (hr _ rfl rfl rfl rfl) ?_
  rintro e t K ⟨rfl, h, w, y⟩
  have aK : Adds H K := Adds.of_get (by have := y.len; omega) y.old
  have c1 := cells_rw y.wb
  rw [← hs] at y
  rcases h with rfl | rfl <;>
  ·simp -implicitDefEqProofs (maxSteps := 5000000) only [go_sem, Nat.reduceShiftRight, Nat.reduceAnd, Nat.reduceBNe, Int.reduceEq, Nat.reduceAdd, Nat.reduceSub, Nat.reduceMul, Nat.reduceLeDiff, reduceIte, reduceCtorEq, Nat.reduceBEq, Nat.reduceEqDiff, wrap64, runC_loop, runC_range, callF_fn, callV_fn, callV_yld, yield_eq, yieldBody, yieldRaw, roundMid, roundEnd, rangeEnd, Bool.not_not, put_cons, put_nil, trim_same, at_zero, at_add, set_zero, set_add, store_one, write_zero, write_add, write_head, write_succ, splice_one, splice_more, List.drop_nil, List.take_nil, cell_int, cell_bool, fillS, splice_one, idxA, Ex.isNormal, List.set_nil, List.length_set, List.all_cons, List.all_nil, Bool.and_self, and_self, true_and, and_true, List.getElem?_nil, Int.reduceLT, Int.reduceLE, Int.reduceToNat, Int.toNat_zero, Int.toNat_one, Int.reduceAdd, Int.reduceSub, Int.reduceMul, Int.reduceNeg, Int.reduceBEq, Int.reduceBNe, Int.reduceGE, Int.reduceGT, Nat.reduceLT, trim_keep, under_fn, under_ptr, under_sl, Nat.lt_irrefl, not_lt_add, trim_tail, keepOk, ABlk.vals, Int.cast_ofNat_Int, decide_true, decide_false, List.all_cons, List.all_nil, Nat.zero_mul, Nat.mul_one, Nat.one_mul, c1, outs_normal]
   subst hQ
   refine ⟨w, aK, y.bs, fun b hb => by have := y.bg b hb; omega, ?_⟩
   simp -implicitDefEqProofs (maxSteps := 5000000) only [go_sem, Nat.reduceShiftRight, Nat.reduceAnd, Nat.reduceBNe, Int.reduceEq, Nat.reduceAdd, Nat.reduceSub, Nat.reduceMul, Nat.reduceLeDiff, reduceIte, reduceCtorEq, Nat.reduceBEq, Nat.reduceEqDiff, wrap64, runC_loop, runC_range, callF_fn, callV_fn, callV_yld, yield_eq, yieldBody, yieldRaw, roundMid, roundEnd, rangeEnd, Bool.not_not, put_cons, put_nil, trim_same, at_zero, at_add, set_zero, set_add, store_one, write_zero, write_add, write_head, write_succ, splice_one, splice_more, List.drop_nil, List.take_nil, cell_int, cell_bool, fillS, splice_one, idxA, Ex.isNormal, List.set_nil, List.length_set, List.all_cons, List.all_nil, Bool.and_self, and_self, true_and, and_true, List.getElem?_nil, Int.reduceLT, Int.reduceLE, Int.reduceToNat, Int.toNat_zero, Int.toNat_one, Int.reduceAdd, Int.reduceSub, Int.reduceMul, Int.reduceNeg, Int.reduceBEq, Int.reduceBNe, Int.reduceGE, Int.reduceGT, Nat.reduceLT, trim_keep, under_fn, under_ptr, under_sl, Nat.lt_irrefl, not_lt_add, trim_tail, keepOk, ABlk.vals, Int.cast_ofNat_Int, decide_true, decide_false, List.all_cons, List.all_nil, Nat.zero_mul, Nat.mul_one, Nat.one_mul]
 obtain ⟨e', t, K, hr, w, aK, bs, wb, hf⟩ := key
 obtain ⟨K', e, a, b⟩ := bs_end aK bs wb
 exact ⟨w, K', by rw [c19, hr, hf]; exact e, a, b⟩
end
end Go.Proofs.Ythhodjcgcgkaaaa.G11
end
section
namespace Go.Proofs.Ythhodjcgcgkaaaa.G11
open Go Go.Proofs.Ythhodjcgcgkaaaa.Eng
theorem bs_any {K : AHeap} {v : AV} {zs : List Int} {n : Nat} (g : BS K v zs) (h : ∀ b, slb v = some b → n ≤ b) (u : v.under n = true) (H : AHeap) : BS H v zs := by
 rcases g with g | ⟨b, o, l, e, cs, rfl, _⟩
 ·exact .inl g
 ·have := h b rfl; have := slb_under u rfl; omega
theorem isP_any {K : AHeap} {v : AV} {l : List PrS} {n : Nat} (g : IsP K v l) (h : ∀ b, slb v = some b → n ≤ b) (u : v.under n = true) (H : AHeap) : IsP H v l := by
 rcases g with g | ⟨b, c, e, rfl, _⟩
 ·exact .inl g
 ·have := h b rfl; have := slb_under u rfl; omega
structure Owned (H K : AHeap) (s : SnS) (vc vt : AV) : Prop where
 a : Adds H K
 bc : BS K vc s.ch
 pt : IsP K vt s.tb
 gc : ∀ b, slb vc = some b → H.length ≤ b
 gt : ∀ b, slb vt = some b → H.length ≤ b
theorem owned_end {H K : AHeap} {s : SnS} {vc vt : AV} (o : Owned H K s vc vt) : ∃ K', trim H (some (.agg [.int .i64 s.id, vc, vt], K)) = some (.agg [.int .i64 s.id, vc, vt], K') ∧ Owned H K' s vc vt := by
 rcases trim_adds (v := .agg [.int .i64 s.id, vc, vt]) o.a with e | ⟨u, e⟩
 ·exact ⟨K, e, o⟩
 ·have u2 : vc.under H.length = true ∧ vt.under H.length = true := by simpa [AV.under, underAll] using u
  exact ⟨H, e, Adds.refl H, bs_any o.bc o.gc u2.1 H, isP_any o.pt o.gt u2.2 H, o.gc, o.gt⟩
theorem Owned.row {H K : AHeap} {s : SnS} {vc vt : AV} (o : Owned H K s vc vt) : SnR K [.int .i64 s.id, vc, vt] s := ⟨vc, vt, rfl, o.bc, o.pt⟩
theorem Owned.cells {H K : AHeap} {s : SnS} {vc vt : AV} (o : Owned H K s vc vt) : [AV.int .i64 s.id, vc, vt].all AV.isCell = true := o.row.cell
section
variable {H : AHeap} {s : SnS} {vc vt : AV} (bc : BS H vc s.ch) (pt : IsP H vt s.tb) (ft : s.Fit)
include bc pt ft
set_option maxHeartbeats 4000000 in
theorem ownC : ∃ vc' vt' K, (envL prog).call 59 [.agg [.int .i64 s.id, vc, vt]] H = some (.agg [.int .i64 s.id, vc', vt'], K) ∧ Owned H K s vc' vt' := by
 obtain ⟨H2, hH2⟩ : ∃ K, K = H ++ [ABlk.rw [.int .i64 s.id, vc, vt], .rw [.int .i64 0, .nilSl, .nilSl]] := ⟨_, rfl⟩
 have A2 : Adds H H2 := ⟨_, hH2⟩
 have l2 : H2.length = H.length + 2 := by rw [hH2]; simp
 obtain ⟨vc', G, o, ec⟩ := Bt.cloneC (A2.bs bc) (by have := ft.lc; omega)
 have A3 : Adds H2 (H2 ++ G) := ⟨_, rfl⟩
 obtain ⟨vt', K, ed, A4, gt⟩ := cloneC (pt.adds (A2.trans A3)) (by have := ft.lt; omega)
 have og := own_ge o
 have tg := gt.out
 have A24 := A3.trans A4
 have q0 : ∀ {X}, Adds H2 X → X[H.length]? = some (.rw [.int .i64 s.id, vc, vt]) := fun a => a.at (by rw [hH2]; simp)
 have q1 : ∀ {X}, Adds H2 X → X[H.length + 1]? = some (.rw [.int .i64 0, .nilSl, .nilSl]) := fun a => a.at (by rw [hH2]; simp)
 have c0 := cells_rw (q0 (Adds.refl H2))
 have c3 := cells_rw (q0 A3)
 have c4 := cells_rw (q0 A24)
 have kc := (o.bs).cell
 have kt := gt.isP.cell
 have lK : H.length + 2 ≤ K.length := by have := A24.len; omega
 have w1 : writeN K H.length 1 [vc'] = some (K.set H.length (.rw [.int .i64 s.id, vc', vt])) := by
  rw [write_of (q0 A24), if_pos ⟨by simp, by simp [kc.2]⟩, splice_one]; rfl
 have p1 : (K.set H.length (ABlk.rw [.int .i64 s.id, vc', vt]))[H.length]? = some (.rw [.int .i64 s.id, vc', vt]) := at_set _ _ _ (by omega)
 have w2 : writeN (K.set H.length (.rw [.int .i64 s.id, vc', vt])) H.length 2 [vt'] = some ((K.set H.length (.rw [.int .i64 s.id, vc', vt])).set H.length (.rw [.int .i64 s.id, vc', vt'])) := by
  rw [write_of p1, if_pos ⟨by simp, by simp [kt.2]⟩, splice_one]; rfl
 obtain ⟨K1, hK1⟩ : ∃ K1, K1 = (K.set H.length (ABlk.rw [.int .i64 s.id, vc', vt])).set H.length (.rw [.int .i64 s.id, vc', vt']) := ⟨_, rfl⟩
 rw [← hK1] at w2
 have r1 : K1[H.length]? = some (.rw [.int .i64 s.id, vc', vt']) := by rw [hK1]; exact at_set _ _ _ (by rw [List.length_set]; omega)
 have r2 : K1[H.length + 1]? = some (.rw [.int .i64 0, .nilSl, .nilSl]) := by rw [hK1, at_set_ne _ _ _ _ (by omega), at_set_ne _ _ _ _ (by omega)]; exact q1 A24
 have d1 := cells_rw r1
 obtain ⟨K2, hK2⟩ : ∃ K2, K2 = K1.set (H.length + 1) (ABlk.rw [.int .i64 s.id, vc', vt']) := ⟨_, rfl⟩
 have kk : [AV.int .i64 s.id, vc', vt'].all AV.isCell = true := by simp only [List.all_cons, List.all_nil, kc.2, kt.2, Bool.and_true]; rfl
 have w3 : writeN K1 (H.length + 1) 0 [.int .i64 s.id, vc', vt'] = some K2 := by
  rw [write_of r2, if_pos ⟨by simp, kk⟩, hK2]; rfl
 have d2 := cells_rw (show K2[H.length + 1]? = some (.rw [.int .i64 s.id, vc', vt']) by rw [hK2]; exact at_set _ _ _ (by rw [hK1, List.length_set, List.length_set]; omega))
 have fr : Fr K K2 (fun b => b = H.length ∨ b = H.length + 1) := by
  rw [hK2, hK1]
  exact ((Fr.set _ _ (F := fun b => b = H.length ∨ b = H.length + 1) (.inl rfl)).trans (Fr.set _ _ (F := fun b => b = H.length ∨ b = H.length + 1) (.inl rfl)) (fun _ _ h => h)).trans (Fr.set _ _ (F := fun b => b = H.length ∨ b = H.length + 1) (.inr rfl)) (fun _ _ h => h)
 have ow : Owned H K2 s vc' vt' := ⟨fr.old (A2.trans A24) (fun b hb h => by omega), (A4.bs o.bs).fr fr (fun b hb h => by have := og b hb; omega), gt.isP.fr fr (fun b hb h => by have := tg b hb; have := A3.len; omega), fun b hb => by have := og b hb; omega, fun b hb => by have := tg b hb; have := A3.len; omega⟩
 obtain ⟨K', et, o'⟩ := owned_end ow
 refine ⟨vc', vt', K', ?_, o'⟩
 have hH2 := hH2.symm
 have cm := bc.cell
 have ct := pt.cell
 rw [c59]
 unfold b59
 simp -implicitDefEqProofs (maxSteps := 5000000) only [go_sem, Nat.reduceShiftRight, Nat.reduceAnd, Nat.reduceBNe, Int.reduceEq, Nat.reduceAdd, Nat.reduceSub, Nat.reduceMul, Nat.reduceLeDiff, reduceIte, reduceCtorEq, Nat.reduceBEq, Nat.reduceEqDiff, wrap64, runC_loop, runC_range, callF_fn, callV_fn, callV_yld, yield_eq, yieldBody, yieldRaw, roundMid, roundEnd, rangeEnd, Bool.not_not, put_cons, put_nil, trim_same, at_zero, at_add, set_zero, set_add, store_one, write_zero, write_add, write_head, write_succ, splice_one, splice_more, List.drop_nil, List.take_nil, cell_int, cell_bool, fillS, splice_one, idxA, Ex.isNormal, List.set_nil, List.length_set, List.all_cons, List.all_nil, Bool.and_self, and_self, true_and, and_true, List.getElem?_nil, Int.reduceLT, Int.reduceLE, Int.reduceToNat, Int.toNat_zero, Int.toNat_one, Int.reduceAdd, Int.reduceSub, Int.reduceMul, Int.reduceNeg, Int.reduceBEq, Int.reduceBNe, Int.reduceGE, Int.reduceGT, Nat.reduceLT, trim_keep, under_fn, under_ptr, under_sl, Nat.lt_irrefl, not_lt_add, trim_tail, keepOk, ABlk.vals, Int.cast_ofNat_Int, decide_true, decide_false, List.all_cons, List.all_nil, Nat.zero_mul, Nat.mul_one, Nat.one_mul, cellsA_agg, hH2, c0, c3, c4, ec, ed, kc.1, kt.1, w1, w2, d1, w3, d2, et]
end
end Go.Proofs.Ythhodjcgcgkaaaa.G11
end
section
namespace Go.Proofs.Ythhodjcgcgkaaaa.G11
open Go Go.Proofs.Ythhodjcgcgkaaaa.Eng
noncomputable abbrev CopL (s : LoopState) (e : Ex) (t : T) : ABlk := .loop ⟨s, e, t, [8, 9], kaq43x0, kbq43x0⟩
structure CopY (H : AHeap) (v : AV) (L : List SnS) (s : LoopState) (t : T) (w : AV) (rows : List (List AV)) (K : AHeap) : Prop where
 old : ∀ b, b < H.length → K[b]? = H[b]?
 len : H.length + 4 ≤ K.length
 wb : K[H.length]? = some (.rw [w])
 lb : K[H.length + 1]? = some (.rw [v])
 lp : K[H.length + 3]? = some (CopL s .normal t)
 gc : Gc K (H.length + 4) w L rows
 nb : ∀ r ∈ rows, ∀ x ∈ r, ∀ b, slb x = some b → H.length + 4 ≤ b
structure CopP (H : AHeap) (v : AV) (L : List SnS) (t : T) (i : Nat) (K : AHeap) : Prop where
 ex : ∃ w rows, CopY H v (L.take i) .ready t w rows K
 ib : K[H.length + 2]? = some (.rw [.int .i64 (i : Int)])
section
variable {H : AHeap} {v : AV} {L : List SnS} (g : IsC H v L) (fi : Fits L)
include g fi
set_option maxHeartbeats 4000000 in
theorem copRound {t : T} (ht : t.length = 16) (t3 : getT t 3 = .ptr H.length 0) {i : Nat} {K : AHeap} {s : SnS} {vc vt : AV} (y : CopP H v L t i K) (hx : L[i]? = some s) (hbs : BS K vc s.ch) (hip : IsP K vt s.tb) :
  ∃ K', ((envL prog).yield (H.length + 3) [.int .i64 (i : Int), .agg [.int .i64 s.id, vc, vt]] K = some (.bool true, K') ∧ K'[H.length + 2]? = some (.rw [.int .i64 (i : Int)]) ∧ CopP H v L t (i + 1) (K'.set (H.length + 2) (.rw [.int .i64 ((i + 1 : Nat) : Int)]))) ∨ ((envL prog).yield (H.length + 3) [.int .i64 (i : Int), .agg [.int .i64 s.id, vc, vt]] K = some (.bool false, K') ∧ False) := by
 obtain ⟨⟨w, rows, y⟩, ib⟩ := y
 have kl := y.len
 have ft := fits_get fi hx
 have fl := fi.1
 have lt := (List.getElem?_eq_some_iff.1 hx).1
 have tk : L.take (i + 1) = L.take i ++ [s] := by rw [List.take_add_one, hx]; rfl
 have w0 := snAlloc hbs hip
 obtain ⟨Kb, hKb⟩ : ∃ Kb, Kb = (K ++ [ABlk.rw [.int .i64 s.id, vc, vt]]).set (H.length + 3) (CopL .busy .normal t) := ⟨_, rfl⟩
 have lb : Kb.length = K.length + 1 := by rw [hKb]; exact busy_len
 have fb : ∀ b, b < K.length → b ≠ H.length + 3 → Kb[b]? = K[b]? := fun b hb hn => by rw [hKb]; exact busy_at hb hn
 have b0 : Kb[H.length]? = some (.rw [w]) := by rw [fb _ (by omega) (by omega)]; exact y.wb
 have b5 : Kb[H.length + 3]? = some (CopL .busy .normal t) := by rw [hKb]; exact busy_lp (by omega)
 have b6 : Kb[K.length]? = some (.rw [.int .i64 s.id, vc, vt]) := by rw [hKb]; exact busy_new (by omega)
 have frb : Fr K Kb (fun b => b = H.length + 3) := by rw [hKb]; exact busy_fr
 have gb := y.gc.frT frb (fun b hb h => by have := (y.gc.g.out b hb).1; omega) (fun r hr x hx b hb h => by have := y.nb r hr x hx b hb; omega)
 obtain ⟨vc', vt', K1, eo, ow⟩ := ownC (hbs.fr frb (hbs.nl y.lp)) (hip.fr frb (hip.nl y.lp)) ft
 obtain ⟨K2, hK2⟩ : ∃ K2, K2 = K1 ++ [ABlk.rw [.int .i64 s.id, vc', vt']] := ⟨_, rfl⟩
 have A2 : Adds K1 K2 := ⟨_, hK2⟩
 have A02 := ow.a.trans A2
 have c2 : cellsOf K2 K1.length = some [.int .i64 s.id, vc', vt'] := by rw [hK2]; unfold cellsOf; simp
 have l1 := ow.a.len
 have l2 := A02.len
 have wlt := fun b hb => (y.gc.g.out b hb).2
 obtain ⟨w', K3, ep, g3, fr3, sb3, l3, cw, cw'⟩ := Gc.push tySn (by rw [tySb]; omega) (by rw [tySb]; omega) (gb.adds A02) c2 (⟨vc', vt', rfl, A2.bs ow.bc, ow.pt.adds A2⟩ : SnR K2 [.int .i64 s.id, vc', vt'] s) (fun z hz b h h' => by
  have hb := wlt b h'
  simp only [List.mem_cons, List.mem_nil_iff, or_false] at hz
  rcases hz with rfl | rfl | rfl
  ·cases h
  ·have := ow.gc b h; omega
  ·have := ow.gt b h; omega) (by rw [List.length_take]; omega) (by omega)
 rw [← tk] at g3
 have e0 : ∀ {X}, Adds Kb X → X[H.length]? = some (.rw [w]) := fun a => a.at b0
 have c0 := cells_rw b0
 have c01 := cells_rw (e0 ow.a)
 have c02 := cells_rw (e0 A02)
 have wne : ¬ slb w = some H.length := fun h => by have := (y.gc.g.out _ h).1; omega
 have p3 : K3[H.length]? = some (.rw [w]) := by rw [fr3.2 _ (by omega) wne]; exact e0 A02
 have c03 := cells_rw p3
 have w1 := write_one (y := w') p3 cw'
 obtain ⟨Kc, hKc⟩ : ∃ Kc, Kc = K3.set H.length (.rw [w']) := ⟨_, rfl⟩
 rw [← hKc] at w1
 have lc : Kc.length = K3.length := by rw [hKc, List.length_set]
 have wl : ¬ slb w = some (H.length + 3) := fun h => by have := (y.gc.g.out _ h).1; omega
 have co : ∀ z, z < H.length + 4 → z ≠ H.length → Kc[z]? = Kb[z]? := fun z hz h1 => by
  rw [hKc, at_set_ne _ _ _ _ h1, fr3.2 z (by omega) (fun h => by have := (y.gc.g.out _ h).1; omega)]
  obtain ⟨X, hX⟩ := A02
  rw [hX, List.getElem?_append_left (by omega)]
 have hK2 := hK2.symm
 have kc := ow.bc.cell
 have kt := ow.pt.cell
 obtain ⟨e, Kz, K4, r, ey, h4⟩ := round_gen (P := prog) (l := H.length + 3) (args := [.int .i64 (i : Int), .agg [.int .i64 s.id, vc, vt]]) (K := K) (eaq43x0 _) (ebq43x0 _) y.lp rfl (t1 := ((t.set 8 (.int .i64 (i : Int))).set 9 (.agg [.int .i64 s.id, vc, vt])).set 5 (.ptr K.length 0)) (cs := [.int .i64 s.id, vc, vt]) (by
   unfold aq43x0
   simp -implicitDefEqProofs (maxSteps := 5000000) only [go_sem, Nat.reduceShiftRight, Nat.reduceAnd, Nat.reduceBNe, Int.reduceEq, Nat.reduceAdd, Nat.reduceSub, Nat.reduceMul, Nat.reduceLeDiff, reduceIte, reduceCtorEq, Nat.reduceBEq, Nat.reduceEqDiff, putParams, getT_set, ht, List.length_set, Nat.reduceLT, store_one, cellsA_agg, w0])
  (R := fun e K2 => e = .normal ∧ K2 = Kc) (by
   rw [← hKb]
   have c6 := cells_rw b6
   unfold bq43x0
   simp -implicitDefEqProofs (maxSteps := 5000000) only [go_sem, Nat.reduceShiftRight, Nat.reduceAnd, Nat.reduceBNe, Int.reduceEq, Nat.reduceAdd, Nat.reduceSub, Nat.reduceMul, Nat.reduceLeDiff, reduceIte, reduceCtorEq, Nat.reduceBEq, Nat.reduceEqDiff, wrap64, runC_loop, runC_range, callF_fn, callV_fn, callV_yld, yield_eq, yieldBody, yieldRaw, roundMid, roundEnd, rangeEnd, Bool.not_not, put_cons, put_nil, trim_same, at_zero, at_add, set_zero, set_add, store_one, write_zero, write_add, write_head, write_succ, splice_one, splice_more, List.drop_nil, List.take_nil, cell_int, cell_bool, fillS, splice_one, idxA, Ex.isNormal, List.set_nil, List.length_set, List.all_cons, List.all_nil, Bool.and_self, and_self, true_and, and_true, List.getElem?_nil, Int.reduceLT, Int.reduceLE, Int.reduceToNat, Int.toNat_zero, Int.toNat_one, Int.reduceAdd, Int.reduceSub, Int.reduceMul, Int.reduceNeg, Int.reduceBEq, Int.reduceBNe, Int.reduceGE, Int.reduceGT, Nat.reduceLT, trim_keep, under_fn, under_ptr, under_sl, Nat.lt_irrefl, not_lt_add, trim_tail, keepOk, ABlk.vals, Int.cast_ofNat_Int, decide_true, decide_false, List.all_cons, List.all_nil, Nat.zero_mul, Nat.mul_one, Nat.one_mul, getT_set, ht, t3, List.length_set, Nat.reduceLT, c0, c6, eo, cellsA_agg, hK2, c01, c02, c03, ep, cw, w1, outs_normal]) (by
   rintro e K2 ⟨_, rfl⟩
   rw [co _ (by omega) (by omega)]; exact b5)
 obtain ⟨he, hk⟩ := r
 rw [hk] at h4; subst he
 rw [show Ex.isNormal .normal = true from rfl] at ey h4
 simp only [if_true] at h4
 have c3 : (Kc.set (H.length + 3) (CopL .ready .normal t))[H.length]? = some (.rw [w']) := by rw [at_set_ne _ _ _ _ (by omega), hKc]; exact at_set _ _ _ (by omega)
 have e4 : K4 = Kc.set (H.length + 3) (CopL .ready .normal t) := by
  rcases h4 with h | ⟨t', _⟩
  ·exact h
  ·exfalso
   have := tr_slb t' (b := H.length) (by omega) c3 (a := w') (by simp) (fun k hk a ha x hx => by
    rw [y.wb] at hk; injection hk with hk; subst hk
    rw [List.mem_singleton.1 ha] at hx; exact wlt x hx) _ sb3
   omega
 obtain ⟨K5, hK5⟩ : ∃ K5, K5 = K4.set (H.length + 2) (.rw [.int .i64 ((i + 1 : Nat) : Int)]) := ⟨_, rfl⟩
 have at5 : ∀ z, z < H.length + 4 → z ≠ H.length → z ≠ H.length + 2 → z ≠ H.length + 3 → K5[z]? = K[z]? := fun z hz h0 h2 h3 => by
  rw [hK5, at_set_ne _ _ _ _ h2, e4, at_set_ne _ _ _ _ h3, co z hz h0]; exact fb z (by omega) h3
 have fr5 : Fr K3 K5 (fun b => b = H.length ∨ b = H.length + 3 ∨ b = H.length + 2) := by
  rw [hK5, e4, hKc]
  exact ((Fr.set _ _ (F := fun b => b = H.length ∨ b = H.length + 3 ∨ b = H.length + 2) (.inl rfl)).trans (Fr.set _ _ (F := fun b => b = H.length ∨ b = H.length + 3 ∨ b = H.length + 2) (.inr (.inl rfl))) (fun _ _ h => h)).trans (Fr.set _ _ (F := fun b => b = H.length ∨ b = H.length + 3 ∨ b = H.length + 2) (.inr (.inr rfl))) (fun _ _ h => h)
 have nb' : ∀ r ∈ rows ++ [[AV.int .i64 s.id, vc', vt']], ∀ x ∈ r, ∀ b, slb x = some b → H.length + 4 ≤ b := fun r hr x hx b hb => by
  rcases List.mem_append.1 hr with hr | hr
  ·exact y.nb r hr x hx b hb
  ·rw [List.mem_singleton.1 hr] at hx
   simp only [List.mem_cons, List.mem_nil_iff, or_false] at hx
   rcases hx with rfl | rfl | rfl
   ·cases hb
   ·have := ow.gc b hb; omega
   ·have := ow.gt b hb; omega
 have g5 := g3.frT fr5 (fun b hb h => by have := (g3.g.out b hb).1; omega) (fun r hr x hx b hb h => by have := nb' r hr x hx b hb; omega)
 have l5 : K5.length = K3.length := by rw [hK5, List.length_set, e4, List.length_set, lc]
 have i4 : K4[H.length + 2]? = some (.rw [.int .i64 (i : Int)]) := by rw [e4, at_set_ne _ _ _ _ (by omega), co _ (by omega) (by omega), fb _ (by omega) (by omega)]; exact ib
 refine ⟨K4, .inl ⟨ey, i4, ?_⟩⟩
 rw [← hK5]
 refine ⟨⟨w', _, ⟨fun z hz => by rw [at5 z (by omega) (by omega) (by omega) (by omega)]; exact y.old z hz, by omega, ?_, by rw [at5 _ (by omega) (by omega) (by omega) (by omega)]; exact y.lb, ?_, g5, nb'⟩⟩, ?_⟩
 ·rw [hK5, at_set_ne _ _ _ _ (by omega), e4]; exact c3
 ·rw [hK5, at_set_ne _ _ _ _ (by omega), e4]; exact at_set _ _ _ (by omega)
 ·rw [hK5]; exact at_set _ _ _ (by rw [e4, List.length_set]; omega)
set_option maxHeartbeats 4000000 in
theorem copRange {T : T} (ht : T.length = 16) (t3 : getT T 3 = .ptr H.length 0) (tf : getT T 7 = .fn 52 [.ptr (H.length + 2) 0, .ptr (H.length + 1) 0]) :
  Outs (runC (envL prog) (.range (X 7) [8, 9] kaq43x0 kbq43x0) T (H ++ [ABlk.rw [.nilSl], .rw [v], .rw [.int .i64 0]])) fun e t K => t = T ∧ e = .normal ∧ ∃ w rows, CopY H v L .exhausted T w rows K := by
 obtain ⟨G, hG⟩ : ∃ G, G = H ++ [ABlk.rw [.nilSl], .rw [v], .rw [.int .i64 0]] := ⟨_, rfl⟩
 obtain ⟨K0, hK0⟩ : ∃ K0, K0 = G ++ [CopL .ready .normal T] := ⟨_, rfl⟩
 have lG : G.length = H.length + 3 := by rw [hG]; simp
 have y0 : CopY H v (L.take 0) .ready T .nilSl [] K0 := ⟨fun z hz => by rw [hK0, hG, List.getElem?_append_left (by simp; omega), List.getElem?_append_left hz], by rw [hK0, List.length_append, lG]; simp, by rw [hK0, hG]; simp, by rw [hK0, hG]; simp, by rw [hK0, ← lG]; simp, Gc.nil _ _, fun r h => (by cases h)⟩
 have ib0 : K0[H.length + 2]? = some (.rw [.int .i64 ((0 : Nat) : Int)]) := by rw [hK0, hG]; simp
 rw [← hG]
 have cf : ∀ K, callF (envL prog) (X 7 T) [.yld G.length] K = (envL prog).call 52 [.yld (H.length + 3), .ptr (H.length + 2) 0, .ptr (H.length + 1) 0] K := fun K => by
  rw [lG, X_ap, tf]; rfl
 have hP : ∀ i K, CopP H v L T i K → K[H.length + 2]? = some (.rw [.int .i64 (i : Int)]) ∧ cellsOf K (H.length + 1) = some [v] ∧ Adds H K := fun i K y => by
  obtain ⟨⟨w, rows, y⟩, ib⟩ := y
  exact ⟨ib, cells_rw y.lb, Adds.of_get (by have := y.len; omega) y.old⟩
 obtain ⟨K1, ec, h1⟩ := fromAll g (v := v) (L := L) (p := H.length + 2) (q := H.length + 1) (y := H.length + 3) (P := CopP H v L T) (Q := fun _ => False) fi.1 hP (fun i K s vc vt y hx hbs hip => copRound g fi ht t3 y hx ((hP _ K y).2.2.bs hbs) (hip.adds (hP _ K y).2.2)) (i := 0) (K := K0) ⟨⟨_, _, y0⟩, ib0⟩
 have l0 : K0.length = H.length + 4 := by rw [hK0, List.length_append, lG]; rfl
 rcases h1 with ⟨j, hj, _, hj2, ⟨w, rows, y⟩, _⟩ | h
 rotate_left
 ·exact h.elim
 obtain rfl : j = L.length := hj2 (by omega)
 rw [List.take_length] at y
 obtain ⟨K4, et, h4⟩ := trim_two K0 (.tup []) K1
 rw [et] at ec
 have hl := y.len
 have a4 := fun {z} (hz : z < K0.length) => two_at h4 hz
 have l4 := two_len h4 (by omega)
 have hK1 : ∀ k, K0[H.length]? = some k → ∀ a ∈ k.vals, ∀ x, slb a = some x → x < K0.length := fun k hk a ha x hx => by
  rw [y0.wb] at hk; injection hk with hk; subst hk
  rw [List.mem_singleton.1 ha] at hx; cases hx
 have g4 : ∃ rows, Gc K4 (H.length + 4) w L rows ∧ ∀ r ∈ rows, ∀ x ∈ r, ∀ b, slb x = some b → H.length + 4 ≤ b := by
  rcases h4 with rfl | ⟨t', rfl⟩
  ·exact ⟨rows, y.gc, y.nb⟩
  ·rcases y.gc.g with ⟨rfl, rfl⟩ | ⟨_, b, hb, rfl, _⟩
   ·have : L = [] := List.length_eq_zero_iff.1 y.gc.ch.len.symm
    subst this; exact ⟨[], Gc.nil _ _, fun r h => by cases h⟩
   ·have := tr_slb t' (b := H.length) (by omega) y.wb (a := .sl b 0 3 rows.length rows.length false) (by simp) hK1 b rfl
    omega
 obtain ⟨rows, g4, n4⟩ := g4
 have := range_all (E := envL prog) (f := X 7) (ps := [8, 9]) (ka := kaq43x0) (kb := kbq43x0) (t := T) (h := G) (K := K4) (e := .normal) (st := .ready) (v := .tup []) (by rw [cf]; rw [hK0] at ec; exact ec) (by rw [lG, a4 (by omega)]; exact y.lp) (by decide)
 rw [lG] at this
 rw [this]
 refine ⟨_, _, _, rfl, rfl, rfl, w, rows, ⟨fun z hz => by rw [at_set_ne _ _ _ _ (by omega), a4 (by omega)]; exact y.old z hz, by rw [List.length_set]; omega, by rw [at_set_ne _ _ _ _ (by omega), a4 (by omega)]; exact y.wb, by rw [at_set_ne _ _ _ _ (by omega), a4 (by omega)]; exact y.lb, at_set _ _ _ (by omega), ?_, n4⟩⟩
 exact g4.frT (Fr.set _ _ (F := fun b => b = H.length + 3) rfl) (fun b hb h => by have := (g4.g.out b hb).1; omega) (fun r hr x hx b hb h => by have := n4 r hr x hx b hb; omega)
theorem copiesC : ∃ v' K, (envL prog).call 43 [v] H = some (v', K) ∧ Adds H K ∧ ∃ rows, Gc K H.length v' L rows := by
 have hr := fun T => copRange g fi (T := T)
 have ef := fromC (g.adds (⟨[ABlk.rw [.nilSl]], rfl⟩ : Adds H _)) 0
 have key : Outs (runC (envL prog) (b43 (envL prog)) ([v] ++ List.replicate (16 - [v].length) .undef) H) fun e' t K => ∃ w, Adds H K ∧ (∃ rows, Gc K H.length w L rows) ∧ fin [.tmp 2] (some (e', t, K)) = some (w, K) := by
  unfold b43
  generalize hQ : (fun (e' : Ex) (t : T) (K : AHeap) => ∃ w, Adds H K ∧ (∃ rows, Gc K H.length w L rows) ∧ fin [.tmp 2] (some (e', t, K)) = some (w, K)) = Q
  simp -implicitDefEqProofs (maxSteps := 5000000) only [go_sem, Nat.reduceShiftRight, Nat.reduceAnd, Nat.reduceBNe, Int.reduceEq, Nat.reduceAdd, Nat.reduceSub, Nat.reduceMul, Nat.reduceLeDiff, reduceIte, reduceCtorEq, Nat.reduceBEq, Nat.reduceEqDiff, wrap64, runC_loop, callF_fn, callV_fn, callV_yld, Bool.not_not, put_cons, put_nil, trim_same, at_zero, at_add, set_zero, set_add, store_one, write_zero, write_add, write_head, write_succ, splice_one, splice_more, List.drop_nil, List.take_nil, cell_int, cell_bool, fillS, splice_one, idxA, Ex.isNormal, List.set_nil, List.length_set, List.all_cons, List.all_nil, Bool.and_self, and_self, true_and, and_true, List.getElem?_nil, Int.reduceLT, Int.reduceLE, Int.reduceToNat, Int.toNat_zero, Int.toNat_one, Int.reduceAdd, Int.reduceSub, Int.reduceMul, Int.reduceNeg, Int.reduceBEq, Int.reduceBNe, Int.reduceGE, Int.reduceGT, Nat.reduceLT, trim_keep, under_fn, under_ptr, under_sl, Nat.lt_irrefl, not_lt_add, trim_tail, keepOk, ABlk.vals, Int.cast_ofNat_Int, decide_true, decide_false, List.all_cons, List.all_nil, Nat.zero_mul, Nat.mul_one, Nat.one_mul, ef]
  refine outs_ctx (fun r => seqR (blockR 0 r) _) (hr _ rfl rfl rfl) ?_
  rintro e t K ⟨rfl, rfl, w, rows, y⟩
  have aK : Adds H K := Adds.of_get (by have := y.len; omega) y.old
  have c1 := cells_rw y.wb
  simp -implicitDefEqProofs (maxSteps := 5000000) only [go_sem, Nat.reduceShiftRight, Nat.reduceAnd, Nat.reduceBNe, Int.reduceEq, Nat.reduceAdd, Nat.reduceSub, Nat.reduceMul, Nat.reduceLeDiff, reduceIte, reduceCtorEq, Nat.reduceBEq, Nat.reduceEqDiff, wrap64, runC_loop, runC_range, callF_fn, callV_fn, callV_yld, yield_eq, yieldBody, yieldRaw, roundMid, roundEnd, rangeEnd, Bool.not_not, put_cons, put_nil, trim_same, at_zero, at_add, set_zero, set_add, store_one, write_zero, write_add, write_head, write_succ, splice_one, splice_more, List.drop_nil, List.take_nil, cell_int, cell_bool, fillS, splice_one, idxA, Ex.isNormal, List.set_nil, List.length_set, List.all_cons, List.all_nil, Bool.and_self, and_self, true_and, and_true, List.getElem?_nil, Int.reduceLT, Int.reduceLE, Int.reduceToNat, Int.toNat_zero, Int.toNat_one, Int.reduceAdd, Int.reduceSub, Int.reduceMul, Int.reduceNeg, Int.reduceBEq, Int.reduceBNe, Int.reduceGE, Int.reduceGT, Nat.reduceLT, trim_keep, under_fn, under_ptr, under_sl, Nat.lt_irrefl, not_lt_add, trim_tail, keepOk, ABlk.vals, Int.cast_ofNat_Int, decide_true, decide_false, List.all_cons, List.all_nil, Nat.zero_mul, Nat.mul_one, Nat.one_mul, c1, outs_normal]
  subst hQ
  refine ⟨w, aK, ⟨rows, y.gc.low (by omega)⟩, ?_⟩
  simp -implicitDefEqProofs (maxSteps := 5000000) only [go_sem, Nat.reduceShiftRight, Nat.reduceAnd, Nat.reduceBNe, Int.reduceEq, Nat.reduceAdd, Nat.reduceSub, Nat.reduceMul, Nat.reduceLeDiff, reduceIte, reduceCtorEq, Nat.reduceBEq, Nat.reduceEqDiff, wrap64, runC_loop, runC_range, callF_fn, callV_fn, callV_yld, yield_eq, yieldBody, yieldRaw, roundMid, roundEnd, rangeEnd, Bool.not_not, put_cons, put_nil, trim_same, at_zero, at_add, set_zero, set_add, store_one, write_zero, write_add, write_head, write_succ, splice_one, splice_more, List.drop_nil, List.take_nil, cell_int, cell_bool, fillS, splice_one, idxA, Ex.isNormal, List.set_nil, List.length_set, List.all_cons, List.all_nil, Bool.and_self, and_self, true_and, and_true, List.getElem?_nil, Int.reduceLT, Int.reduceLE, Int.reduceToNat, Int.toNat_zero, Int.toNat_one, Int.reduceAdd, Int.reduceSub, Int.reduceMul, Int.reduceNeg, Int.reduceBEq, Int.reduceBNe, Int.reduceGE, Int.reduceGT, Nat.reduceLT, trim_keep, under_fn, under_ptr, under_sl, Nat.lt_irrefl, not_lt_add, trim_tail, keepOk, ABlk.vals, Int.cast_ofNat_Int, decide_true, decide_false, List.all_cons, List.all_nil, Nat.zero_mul, Nat.mul_one, Nat.one_mul]
 obtain ⟨e', t, K, hr, w, aK, ⟨rows, gk⟩, hf⟩ := key
 obtain ⟨K', e, a, r⟩ := gc_cut g fi aK gk
 exact ⟨w, K', by rw [c43, hr, hf]; exact e, a, r⟩
end
end Go.Proofs.Ythhodjcgcgkaaaa.G11
end
section
namespace Go.Proofs.Ythhodjcgcgkaaaa.G11
open Go Go.Proofs.Ythhodjcgcgkaaaa.Eng
theorem chR_app {H : AHeap} {r1 r2 : List (List AV)} {L1 L2 : List SnS} (a : ChR H r1 L1) (b : ChR H r2 L2) : ChR H (r1 ++ r2) (L1 ++ L2) := by
 refine ⟨by rw [List.length_append, List.length_append, a.len, b.len], fun i r s h1 h2 => ?_⟩
 by_cases hi : i < r1.length
 ·rw [List.getElem?_append_left hi] at h1
  rw [List.getElem?_append_left (by rw [← a.len]; exact hi)] at h2
  exact a.el i r s h1 h2
 ·rw [List.getElem?_append_right (by omega)] at h1
  rw [List.getElem?_append_right (by rw [← a.len]; omega), ← a.len] at h2
  exact b.el _ r s h1 h2
theorem chR_take {H : AHeap} {r : List (List AV)} {L : List SnS} (a : ChR H r L) (n : Nat) : ChR H (r.take n) (L.take n) := by
 refine ⟨by rw [List.length_take, List.length_take, a.len], fun i x s h1 h2 => ?_⟩
 rw [List.getElem?_take] at h1 h2
 split at h1
 ·rw [if_pos (by assumption)] at h2; exact a.el i x s h1 h2
 ·cases h1
theorem chR_drop {H : AHeap} {r : List (List AV)} {L : List SnS} (a : ChR H r L) (n : Nat) : ChR H (r.drop n) (L.drop n) := by
 refine ⟨by rw [List.length_drop, List.length_drop, a.len], fun i x s h1 h2 => ?_⟩
 rw [List.getElem?_drop] at h1 h2
 exact a.el _ x s h1 h2
theorem chR_one {H : AHeap} {r : List AV} {s : SnS} (g : SnR H r s) : ChR H [r] [s] := by
 refine ⟨rfl, fun i x y h1 h2 => ?_⟩
 cases i with
 | zero =>
  simp only [List.getElem?_cons_zero, Option.some.injEq] at h1 h2
  subst h1; subst h2; exact g
 | succ i => simp at h1
def joinS (a b : SnS) : SnS := ⟨a.id, Bt.orS a.ch b.ch, (tmerge a.tb b.tb a.tb []).1⟩
def dropN (L : List SnS) : Nat → List SnS
 | 0 => L.drop 1
 | k + 1 => match L[k]?, L[k + 1]? with
  | some a, some b => L.take k ++ joinS a b :: L.drop (k + 2)
  | _, _ => L
def dropS (L : List SnS) (i : Int) : List SnS := if i < 0 ∨ (L.length : Int) ≤ i then L else dropN L i.toNat
def cutS (L : List SnS) (i : Int) : List SnS := if i < 0 ∨ (L.length : Int) ≤ i then L else
 match L[i.toNat]? with
 | some s => L.take i.toNat ++ [⟨s.id, List.replicate s.ch.length 0, []⟩]
 | none => L
def zeroR : List AV := [.int .i64 0, .nilSl, .nilSl]
theorem deleteC {K : AHeap} {b : Nat} {rows : List (List AV)} (hb : K[b]? = some (.rw rows.flatten)) (h3 : ∀ r ∈ rows, r.length = 3) (hc : ∀ r ∈ rows, r.all AV.isCell = true) {i : Nat} (hi : i < rows.length) (hn : rows.length ≤ 1000) :
  ∃ K', (envL prog).call 45 [.sl b 0 3 rows.length rows.length false, .int .i64 (i : Int), .int .i64 ((i + 1 : Nat) : Int)] K = some (.sl b 0 3 (rows.length - 1) rows.length false, K') ∧ K'.length = K.length ∧ K'[b]? = some (.rw ((rows.take i ++ rows.drop (i + 1)).flatten ++ zeroR)) ∧ ∀ z, z ≠ b → K'[z]? = K[z]? := by
 have lb := lt_of_at hb
 have hl := rows_len h3
 have z1 : zeroR.length = 3 := rfl
 have sl1 : sliceS 3 (.sl b 0 3 rows.length rows.length false) (some (.int .i64 (i : Int))) (some (.int .i64 ((i + 1 : Nat) : Int))) (some (.int .i64 (rows.length : Int))) = some (.sl b (0 + i * 3) 3 (i + 1 - i) (rows.length - i) true) := by
  simp only [sliceS, asI, Option.bind_some]
  rw [if_neg (by simp), if_pos ⟨rfl, by omega, by omega, by omega, by omega⟩]
  simp only [Int.toNat_natCast]
 have neq : ((i : Int) == ((i + 1 : Nat) : Int)) = false := by rw [beq_eq_false_iff_ne]; omega
 have sl2 := sl_to (sz := 3) (b := b) (off := 0) (len := rows.length) (cp := rows.length) (u := i) (ex := false) (by omega)
 have sl3 := sl_from (sz := 3) (b := b) (off := 0) (len := rows.length) (cp := rows.length) (i := i + 1) (ex := false) (by omega) (by omega)
 have e0 : rows = rows.take i ++ rows[i] :: rows.drop (i + 1) := by rw [← List.drop_eq_getElem_cons hi, List.take_append_drop]
 obtain ⟨last, hlast⟩ : ∃ x, x = rows[rows.length - 1] := ⟨_, rfl⟩
 have l3 : last.length = 3 := by rw [hlast]; exact h3 _ (List.getElem_mem _)
 have tl : (rows.take i).length = i := by rw [List.length_take]; omega
 have dl : (rows.drop (i + 1)).length = rows.length - (i + 1) := List.length_drop
 have t3 : (rows.take i).flatten.length = i * 3 := by rw [rows_len (fun r hr => h3 r (List.mem_of_mem_take hr)), tl]
 have d3 : (rows.drop (i + 1)).flatten.length = (rows.length - (i + 1)) * 3 := by rw [rows_len (fun r hr => h3 r (List.mem_of_mem_drop hr)), dl]
 have step : ∃ K1, app (ty 3 true 56 [.int .i64 0, .nilSl, .nilSl]) (.sl b 0 3 i rows.length false) (.sl b (0 + (i + 1) * 3) 3 (rows.length - (i + 1)) (rows.length - (i + 1)) false) K = some (.sl b 0 3 (rows.length - 1) rows.length false, K1) ∧ K1.length = K.length ∧ K1[b]? = some (.rw ((rows.take i ++ rows.drop (i + 1)).flatten ++ last)) ∧ ∀ z, z ≠ b → K1[z]? = K[z]? := by
  have hr : readN K b (0 + (i + 1) * 3) ((rows.length - (i + 1)) * 3) = some (rows.drop (i + 1)).flatten := by
   unfold readN
   rw [cells_rw hb, Option.bind_some, if_pos (by omega), Nat.zero_add]
   have e1 : rows.flatten = (rows.take (i + 1)).flatten ++ (rows.drop (i + 1)).flatten := by rw [← List.flatten_append, List.take_append_drop]
   have e2 : (rows.take (i + 1)).flatten.length = (i + 1) * 3 := by rw [rows_len (fun r hr => h3 r (List.mem_of_mem_take hr)), List.length_take]; congr 1; omega
   rw [e1, ← e2, List.drop_left, List.take_of_length_le (by omega)]
  unfold app srcLen srcCells
  simp only [Option.bind_some, show (ty 3 true 56 [AV.int .i64 0, .nilSl, .nilSl]).size = 3 from rfl, if_true, hr]
  unfold appendV
  simp only [show (ty 3 true 56 [AV.int .i64 0, .nilSl, .nilSl]).size = 3 from rfl]
  rw [if_neg (by simp)]
  by_cases hz : rows.length - (i + 1) = 0
  ·have hii : i = rows.length - 1 := by omega
   rw [if_pos hz]
   refine ⟨K, by rw [hii], rfl, ?_, fun _ _ => rfl⟩
   have : rows.drop (i + 1) = [] := List.drop_eq_nil_of_le (by omega)
   rw [this, List.append_nil, hb]
   congr 2
   have e1 : rows.flatten = (rows.take i).flatten ++ (rows[i] :: rows.drop (i + 1)).flatten := by rw [← List.flatten_append, ← e0]
   rw [e1, this, hlast]
   simp only [List.flatten_cons, List.flatten_nil, List.append_nil]
   congr 2
  ·rw [if_neg hz, if_pos (by omega)]
   have lx : 0 + i * 3 + (rows.drop (i + 1)).flatten.length ≤ rows.flatten.length := by rw [d3, hl, Nat.zero_add, ← Nat.add_mul]; exact Nat.mul_le_mul_right 3 (by omega)
   rw [write_of hb, if_pos ⟨lx, by
    rw [List.all_eq_true]; intro x hx
    obtain ⟨r, hr, hx⟩ := List.mem_flatten.1 hx
    exact List.all_eq_true.1 (hc r (List.mem_of_mem_drop hr)) x hx⟩]
   refine ⟨K.set b (.rw (splice rows.flatten (0 + i * 3) (rows.drop (i + 1)).flatten)), by rw [show i + (rows.length - (i + 1)) = rows.length - 1 by omega]; rfl, by rw [List.length_set], ?_, fun z hz => at_set_ne _ _ _ _ hz⟩
   ·have : i + (rows.length - (i + 1)) = rows.length - 1 := by omega
    rw [at_set _ _ _ lb, splice_long _ _ _ (by rw [d3]; omega)]
    congr 2
    rw [Nat.zero_add, d3, show i * 3 + (rows.length - (i + 1)) * 3 = (rows.length - 1) * 3 by rw [← Nat.add_mul]; congr 1]
    have e1 : rows.flatten = (rows.take i).flatten ++ (rows[i] :: rows.drop (i + 1)).flatten := by rw [← List.flatten_append, ← e0]
    have e2 : rows.flatten = (rows.take (rows.length - 1)).flatten ++ last := by
     have : rows = rows.take (rows.length - 1) ++ [last] := by
      rw [hlast, List.take_append_getElem, show rows.length - 1 + 1 = rows.length by omega, List.take_length]
     conv => lhs; rw [this]
     rw [List.flatten_append]; simp
    have l2 : (rows.take (rows.length - 1)).flatten.length = (rows.length - 1) * 3 := by rw [rows_len (fun r hr => h3 r (List.mem_of_mem_take hr)), List.length_take]; congr 1; omega
    rw [List.flatten_append]
    congr 1
    ·congr 1
     rw [e1, ← t3, List.take_left]
    ·rw [e2, ← l2, List.drop_left]
 obtain ⟨K1, ea, l1, b1, o1⟩ := step
 have fl : (rows.take i ++ rows.drop (i + 1)).flatten.length = (rows.length - 1) * 3 := by
  rw [List.flatten_append, List.length_append, t3, d3, ← Nat.add_mul]; congr 1; omega
 have sl4 : sliceS 3 (.sl b 0 3 (rows.length - 1) rows.length false) (some (.int .i64 ((rows.length - 1 : Nat) : Int))) (some (.int .i64 (rows.length : Int))) none = some (.sl b (0 + (rows.length - 1) * 3) 3 1 (rows.length - (rows.length - 1)) false) := by
  simp only [sliceS, asI, Option.bind_some]
  rw [if_neg (by simp), if_pos ⟨by omega, by omega, by omega⟩]
  simp only [Int.toNat_natCast]
  rw [show rows.length - (rows.length - 1) = 1 by omega]
 have ec : clearV (ty 3 true 56 [.int .i64 0, .nilSl, .nilSl]) (.sl b (0 + (rows.length - 1) * 3) 3 1 (rows.length - (rows.length - 1)) false) K1 = some (.tup [], K1.set b (.rw ((rows.take i ++ rows.drop (i + 1)).flatten ++ zeroR))) := by
  unfold clearV
  simp only [show (ty 3 true 56 [AV.int .i64 0, .nilSl, .nilSl]).size = 3 from rfl]
  rw [if_neg (by simp), if_neg (by simp), show (List.replicate 1 (ty 3 true 56 [AV.int .i64 0, .nilSl, .nilSl]).zero).flatten = zeroR from rfl]
  rw [write_of b1, if_pos ⟨by rw [List.length_append, fl, z1, l3]; omega, rfl⟩, splice_long _ _ _ (by rw [z1]; omega)]
  generalize (rows.take i ++ rows.drop (i + 1)).flatten = Y at *
  have ed : (Y ++ last).drop (Y.length + zeroR.length) = [] := List.drop_eq_nil_of_le (by rw [List.length_append, z1, l3]; exact Nat.le_refl _)
  rw [Nat.zero_add, ← fl, List.take_left, ed, List.append_nil]
  rfl
 refine ⟨_, ?_, by rw [List.length_set, l1], at_set _ _ _ (by omega), fun z hz => by rw [at_set_ne _ _ _ _ hz]; exact o1 z hz⟩
 rw [Nat.zero_add] at sl3 sl4 ec ea sl1
 rw [c45]
 unfold b45
 simp -implicitDefEqProofs (maxSteps := 5000000) only [go_sem, Nat.reduceShiftRight, Nat.reduceAnd, Nat.reduceBNe, Int.reduceEq, Nat.reduceAdd, Nat.reduceSub, Nat.reduceMul, Nat.reduceLeDiff, reduceIte, reduceCtorEq, Nat.reduceBEq, Nat.reduceEqDiff, wrap64, runC_loop, runC_range, callF_fn, callV_fn, callV_yld, yield_eq, yieldBody, yieldRaw, roundMid, roundEnd, rangeEnd, Bool.not_not, put_cons, put_nil, trim_same, at_zero, at_add, set_zero, set_add, store_one, write_zero, write_add, write_head, write_succ, splice_one, splice_more, List.drop_nil, List.take_nil, cell_int, cell_bool, fillS, splice_one, idxA, Ex.isNormal, List.set_nil, List.length_set, List.all_cons, List.all_nil, Bool.and_self, and_self, true_and, and_true, List.getElem?_nil, Int.reduceLT, Int.reduceLE, Int.reduceToNat, Int.toNat_zero, Int.toNat_one, Int.reduceAdd, Int.reduceSub, Int.reduceMul, Int.reduceNeg, Int.reduceBEq, Int.reduceBNe, Int.reduceGE, Int.reduceGT, Nat.reduceLT, trim_keep, under_fn, under_ptr, under_sl, Nat.lt_irrefl, not_lt_add, trim_tail, keepOk, ABlk.vals, Int.cast_ofNat_Int, decide_true, decide_false, List.all_cons, List.all_nil, Nat.zero_mul, Nat.mul_one, Nat.one_mul, sl1, neq, sl2, sl3, ea, sl4, ec]
 exact trim_same (by rw [List.length_set, l1])
end Go.Proofs.Ythhodjcgcgkaaaa.G11
end
section
namespace Go.Proofs.Ythhodjcgcgkaaaa.G11
open Go Go.Proofs.Ythhodjcgcgkaaaa.Eng
theorem snR_pat {H : AHeap} {r : List AV} {s : SnS} (g : SnR H r s) : ∃ vc vt, r = [.int .i64 s.id, vc, vt] ∧ BS H vc s.ch ∧ IsP H vt s.tb := g
theorem gc_sl {H : AHeap} {B : Nat} {v : AV} {L : List SnS} {rows : List (List AV)} (g : Gc H B v L rows) (h : L ≠ []) : ∃ b, B ≤ b ∧ v = .sl b 0 3 L.length L.length false ∧ H[b]? = some (.rw rows.flatten) := by
 rcases g.g with ⟨rfl, rfl⟩ | ⟨_, b, hb, rfl, hH⟩
 ·exact absurd (List.length_eq_zero_iff.1 g.ch.len.symm) h
 ·exact ⟨b, hb, by rw [g.ch.len], hH⟩
theorem chR_cells {H : AHeap} {rows : List (List AV)} {L : List SnS} (g : ChR H rows L) : ∀ r ∈ rows, r.all AV.isCell = true := fun r hr => by obtain ⟨s, _, q⟩ := g.row hr; exact q.cell
theorem sl_end {H K : AHeap} {b o z n c : Nat} {e : Bool} (hb : H.length ≤ b) (a : Adds H K) : trim H (some (.sl b o z n c e, K)) = some (.sl b o z n c e, K) := by
 rcases trim_adds (v := .sl b o z n c e) a with h | ⟨u, _⟩
 ·exact h
 ·have := slb_under u rfl; omega
section
variable {H : AHeap} {v : AV} {L : List SnS} (g : IsC H v L) (fi : Fits L)
include g fi
set_option maxHeartbeats 8000000 in
theorem cutC (i : Int) : ∃ w K, (envL prog).call 24 [v, .int .i64 i] H = some (w, K) ∧ Adds H K ∧ IsC K w (cutS L i) := by
 obtain ⟨x, K, ec, A, rows, gk⟩ := copiesC g fi
 have wl := gk.isC.len
 have fl := fi.1
 by_cases h0 : i < 0
 ·have d0 := decide_eq_true h0
  have hs : cutS L i = L := by unfold cutS; rw [if_pos (.inl h0)]
  rw [hs]
  obtain ⟨K', e, a, rows, r⟩ := gc_cut g fi A gk
  refine ⟨x, K', ?_, a, r.isC⟩
  rw [c24]
  unfold b24
  simp -implicitDefEqProofs (maxSteps := 5000000) only [go_sem, Nat.reduceShiftRight, Nat.reduceAnd, Nat.reduceBNe, Int.reduceEq, Nat.reduceAdd, Nat.reduceSub, Nat.reduceMul, Nat.reduceLeDiff, reduceIte, reduceCtorEq, Nat.reduceBEq, Nat.reduceEqDiff, wrap64, runC_loop, runC_range, callF_fn, callV_fn, callV_yld, yield_eq, yieldBody, yieldRaw, roundMid, roundEnd, rangeEnd, Bool.not_not, put_cons, put_nil, trim_same, at_zero, at_add, set_zero, set_add, store_one, write_zero, write_add, write_head, write_succ, splice_one, splice_more, List.drop_nil, List.take_nil, cell_int, cell_bool, fillS, splice_one, idxA, Ex.isNormal, List.set_nil, List.length_set, List.all_cons, List.all_nil, Bool.and_self, and_self, true_and, and_true, List.getElem?_nil, Int.reduceLT, Int.reduceLE, Int.reduceToNat, Int.toNat_zero, Int.toNat_one, Int.reduceAdd, Int.reduceSub, Int.reduceMul, Int.reduceNeg, Int.reduceBEq, Int.reduceBNe, Int.reduceGE, Int.reduceGT, Nat.reduceLT, trim_keep, under_fn, under_ptr, under_sl, Nat.lt_irrefl, not_lt_add, trim_tail, keepOk, ABlk.vals, Int.cast_ofNat_Int, decide_true, decide_false, List.all_cons, List.all_nil, Nat.zero_mul, Nat.mul_one, Nat.one_mul, ec, d0, e]
 have d0 := decide_eq_false h0
 by_cases h1 : i ≥ (L.length : Int)
 ·have d1 := decide_eq_true h1
  have hs : cutS L i = L := by unfold cutS; rw [if_pos (.inr h1)]
  rw [hs]
  obtain ⟨K', e, a, rows, r⟩ := gc_cut g fi A gk
  refine ⟨x, K', ?_, a, r.isC⟩
  rw [c24]
  unfold b24
  simp -implicitDefEqProofs (maxSteps := 5000000) only [go_sem, Nat.reduceShiftRight, Nat.reduceAnd, Nat.reduceBNe, Int.reduceEq, Nat.reduceAdd, Nat.reduceSub, Nat.reduceMul, Nat.reduceLeDiff, reduceIte, reduceCtorEq, Nat.reduceBEq, Nat.reduceEqDiff, wrap64, runC_loop, runC_range, callF_fn, callV_fn, callV_yld, yield_eq, yieldBody, yieldRaw, roundMid, roundEnd, rangeEnd, Bool.not_not, put_cons, put_nil, trim_same, at_zero, at_add, set_zero, set_add, store_one, write_zero, write_add, write_head, write_succ, splice_one, splice_more, List.drop_nil, List.take_nil, cell_int, cell_bool, fillS, splice_one, idxA, Ex.isNormal, List.set_nil, List.length_set, List.all_cons, List.all_nil, Bool.and_self, and_self, true_and, and_true, List.getElem?_nil, Int.reduceLT, Int.reduceLE, Int.reduceToNat, Int.toNat_zero, Int.toNat_one, Int.reduceAdd, Int.reduceSub, Int.reduceMul, Int.reduceNeg, Int.reduceBEq, Int.reduceBNe, Int.reduceGE, Int.reduceGT, Nat.reduceLT, trim_keep, under_fn, under_ptr, under_sl, Nat.lt_irrefl, not_lt_add, trim_tail, keepOk, ABlk.vals, Int.cast_ofNat_Int, decide_true, decide_false, List.all_cons, List.all_nil, Nat.zero_mul, Nat.mul_one, Nat.one_mul, ec, d0, wl, d1, e]
 have d1 := decide_eq_false h1
 obtain ⟨n, rfl⟩ : ∃ n : Nat, i = n := ⟨i.toNat, by omega⟩
 have hn : n < L.length := by omega
 have hx := List.getElem?_eq_getElem hn
 have hs : cutS L (n : Int) = L.take n ++ [⟨L[n].id, List.replicate L[n].ch.length 0, []⟩] := by unfold cutS; rw [if_neg (by omega), Int.toNat_natCast, hx]
 have ft := fits_get fi hx
 rw [hs]
 generalize L[n] = s at *
 obtain ⟨b, hb, rfl, hH⟩ := gc_sl gk (fun e => by rw [e] at hn; simp at hn)
 obtain ⟨r, hr, gr⟩ := gk.ch.get hx
 obtain ⟨vc, vt, rfl, bc, pt⟩ := snR_pat gr
 have lr := gk.ch.len
 have h3 := gk.ch.len3
 have lb := lt_of_at hH
 obtain ⟨bb, cs, vc', vt', sb, ix, hc, q1, q2, q3, ht, hle, _⟩ := gk.isC.idx hx
 injection sb with sb; subst sb
 have ecs : cs = rows.flatten := by have := (cells_rw hH).symm.trans hc; injection this with this; exact this.symm
 subst ecs
 have ev : vc' = vc := by
  have := rows_get h3 hr 1 (by omega)
  rw [q2] at this; simpa using this
 subst ev
 have wc := bc.len
 have mk := Bt.make8 s.ch.length (by have := ft.lc; omega) K
 obtain ⟨K1, hK1⟩ : ∃ K1, K1 = K ++ [ABlk.rw (u8s (List.replicate s.ch.length 0))] := ⟨_, rfl⟩
 have A1 : Adds K K1 := ⟨_, hK1⟩
 rw [← hK1] at mk
 have b1 : K1[b]? = some (.rw rows.flatten) := A1.at hH
 have c1 := cells_rw b1
 have w1 : writeN K1 b (n * 3 + 1) [.sl K.length 0 1 s.ch.length s.ch.length true] = some (K1.set b (.rw (rows.set n [.int .i64 s.id, .sl K.length 0 1 s.ch.length s.ch.length true, vt]).flatten)) := by
  rw [write_of b1, if_pos ⟨by show n * 3 + 1 + 1 ≤ _; rw [rows_len h3]; omega, rfl⟩, splice_one, rows_set h3 hr 1 _ (by omega)]; rfl
 obtain ⟨rows1, hr1⟩ : ∃ r, r = rows.set n [AV.int .i64 s.id, .sl K.length 0 1 s.ch.length s.ch.length true, vt] := ⟨_, rfl⟩
 rw [← hr1] at w1
 have h31 : ∀ r ∈ rows1, r.length = 3 := fun r h => by
  rw [hr1] at h
  rcases List.mem_or_eq_of_mem_set h with h | h
  ·exact h3 r h
  ·rw [h]; rfl
 have hn1 : n < rows.length := by omega
 have g1 : rows1[n]? = some [AV.int .i64 s.id, .sl K.length 0 1 s.ch.length s.ch.length true, vt] := by rw [hr1]; simp [hn1]
 have l1 : rows1.length = rows.length := by rw [hr1, List.length_set]
 have b2 : (K1.set b (ABlk.rw rows1.flatten))[b]? = some (.rw rows1.flatten) := at_set _ _ _ (lt_of_at b1)
 have c2 := cells_rw b2
 have w2 : writeN (K1.set b (.rw rows1.flatten)) b (n * 3 + 2) [.nilSl] = some ((K1.set b (.rw rows1.flatten)).set b (.rw (rows1.set n [.int .i64 s.id, .sl K.length 0 1 s.ch.length s.ch.length true, .nilSl]).flatten)) := by
  have := rows_len h31
  rw [write_of b2, if_pos ⟨by show n * 3 + 2 + 1 ≤ _; rw [rows_len h31]; omega, rfl⟩, splice_one, rows_set h31 g1 2 _ (by omega)]; rfl
 obtain ⟨K2, hK2⟩ : ∃ K2, K2 = (K1.set b (ABlk.rw rows1.flatten)).set b (.rw (rows1.set n [AV.int .i64 s.id, .sl K.length 0 1 s.ch.length s.ch.length true, .nilSl]).flatten) := ⟨_, rfl⟩
 rw [← hK2] at w2
 have sl := sl_to (sz := 3) (b := b) (off := 0) (len := L.length) (cp := L.length) (u := n + 1) (ex := false) (by omega)
 have ix2 := idx_nat b 3 (n + 1) L.length n false .i64 (by omega) (by omega)
 have e2 : IntKind.i64.wrap ((n : Int) + 1) = ((n + 1 : Nat) : Int) := by rw [wrap64 (by omega) (by omega)]; omega
 have fr : Fr K1 K2 (fun z => z = b) := by
  rw [hK2]
  exact (Fr.set _ _ (F := fun z => z = b) rfl).trans (Fr.set _ _ (F := fun z => z = b) rfl) (fun _ _ h => h)
 have aK : Adds H K2 := fr.old (A.trans A1) fun z hz h => by omega
 have tr := sl_end (o := 0) (z := 3) (n := n + 1) (c := L.length) (e := false) hb aK
 refine ⟨.sl b 0 3 (n + 1) L.length false, K2, ?_, aK, ?_⟩
 ·have mk' : makeSliceV (ty 1 false 1 [AV.int .u8 0]) (.int .i64 (s.ch.length : Int)) (.int .i64 (s.ch.length : Int)) K = some (.sl K.length 0 1 s.ch.length s.ch.length true, K1) := mk
  rw [c24]
  unfold b24
  simp -implicitDefEqProofs (maxSteps := 5000000) only [go_sem, Nat.reduceShiftRight, Nat.reduceAnd, Nat.reduceBNe, Int.reduceEq, Nat.reduceAdd, Nat.reduceSub, Nat.reduceMul, Nat.reduceLeDiff, reduceIte, reduceCtorEq, Nat.reduceBEq, Nat.reduceEqDiff, wrap64, runC_loop, runC_range, callF_fn, callV_fn, callV_yld, yield_eq, yieldBody, yieldRaw, roundMid, roundEnd, rangeEnd, Bool.not_not, put_cons, put_nil, trim_same, at_zero, at_add, set_zero, set_add, store_one, write_zero, write_add, write_head, write_succ, splice_one, splice_more, List.drop_nil, List.take_nil, cell_int, cell_bool, fillS, splice_one, idxA, Ex.isNormal, List.set_nil, List.length_set, List.all_cons, List.all_nil, Bool.and_self, and_self, true_and, and_true, List.getElem?_nil, Int.reduceLT, Int.reduceLE, Int.reduceToNat, Int.toNat_zero, Int.toNat_one, Int.reduceAdd, Int.reduceSub, Int.reduceMul, Int.reduceNeg, Int.reduceBEq, Int.reduceBNe, Int.reduceGE, Int.reduceGT, Nat.reduceLT, trim_keep, under_fn, under_ptr, under_sl, Nat.lt_irrefl, not_lt_add, trim_tail, keepOk, ABlk.vals, Int.cast_ofNat_Int, decide_true, decide_false, List.all_cons, List.all_nil, Nat.zero_mul, Nat.mul_one, Nat.one_mul, ec, d0, wl, d1, e2, sl, ix2, hc, q2, wc, mk', c1, w1, c2, w2, tr]
 ·refine .inr ⟨b, L.length, false, rows.take n ++ [[AV.int .i64 s.id, .sl K.length 0 1 s.ch.length s.ch.length true, .nilSl]], (rows.drop (n + 1)).flatten, by simp; omega, by simp; omega, ?_, ?_⟩
  ·rw [cells_rw (show K2[b]? = _ by rw [hK2]; exact at_set _ _ _ (by rw [List.length_set]; exact lt_of_at b1)), ← List.flatten_append]
   congr 2
   rw [hr1, List.set_set, List.set_eq_take_append_cons_drop, if_pos hn1, List.append_assoc]; rfl
  ·have nb : ∀ r ∈ rows, ∀ x ∈ r, ∀ z, slb x = some z → ¬ z = b := fun r hr x hx z hz h => gk.ap r hr x hx z hz (by rw [h]; rfl)
   refine chR_app (chR_take ((gk.ch.adds A1).fr fr nb) n) (chR_one ⟨_, _, rfl, ?_, .inl ⟨rfl, rfl⟩⟩)
   have : BS K1 (.sl K.length 0 1 (List.replicate s.ch.length (0 : Int)).length s.ch.length true) (List.replicate s.ch.length 0) := BS.block (by rw [hK1]; simp)
   rw [List.length_replicate] at this
   exact this.fr fr fun z hz h => by injection hz with hz; omega
set_option maxHeartbeats 8000000 in
theorem dropC (i : Int) : ∃ w K, callBody prog (envX prog X3) 22 [v, .int .i64 i] H = some (w, K) ∧ Adds H K ∧ IsC K w (dropS L i) := by
 obtain ⟨x, K, ec, A, rows, gk⟩ := copiesC g fi
 have wl := gk.isC.len
 have fl := fi.1
 by_cases h0 : i < 0
 ·have d0 := decide_eq_true h0
  have hs : dropS L i = L := by unfold dropS; rw [if_pos (.inl h0)]
  rw [hs]
  obtain ⟨K', e, a, rows, r⟩ := gc_cut g fi A gk
  refine ⟨x, K', ?_, a, r.isC⟩
  rw [d22]
  unfold b22
  simp -implicitDefEqProofs (maxSteps := 5000000) only [go_sem, Nat.reduceShiftRight, Nat.reduceAnd, Nat.reduceBNe, Int.reduceEq, Nat.reduceAdd, Nat.reduceSub, Nat.reduceMul, Nat.reduceLeDiff, reduceIte, reduceCtorEq, Nat.reduceBEq, Nat.reduceEqDiff, wrap64, runC_loop, runC_range, callF_fn, callV_fn, callV_yld, yield_eq, yieldBody, yieldRaw, roundMid, roundEnd, rangeEnd, Bool.not_not, put_cons, put_nil, trim_same, at_zero, at_add, set_zero, set_add, store_one, write_zero, write_add, write_head, write_succ, splice_one, splice_more, List.drop_nil, List.take_nil, cell_int, cell_bool, fillS, splice_one, idxA, Ex.isNormal, List.set_nil, List.length_set, List.all_cons, List.all_nil, Bool.and_self, and_self, true_and, and_true, List.getElem?_nil, Int.reduceLT, Int.reduceLE, Int.reduceToNat, Int.toNat_zero, Int.toNat_one, Int.reduceAdd, Int.reduceSub, Int.reduceMul, Int.reduceNeg, Int.reduceBEq, Int.reduceBNe, Int.reduceGE, Int.reduceGT, Nat.reduceLT, trim_keep, under_fn, under_ptr, under_sl, Nat.lt_irrefl, not_lt_add, trim_tail, keepOk, ABlk.vals, Int.cast_ofNat_Int, decide_true, decide_false, List.all_cons, List.all_nil, Nat.zero_mul, Nat.mul_one, Nat.one_mul, x3_call, ec, d0, e]
 have d0 := decide_eq_false h0
 by_cases h1 : i ≥ (L.length : Int)
 ·have d1 := decide_eq_true h1
  have hs : dropS L i = L := by unfold dropS; rw [if_pos (.inr h1)]
  rw [hs]
  obtain ⟨K', e, a, rows, r⟩ := gc_cut g fi A gk
  refine ⟨x, K', ?_, a, r.isC⟩
  rw [d22]
  unfold b22
  simp -implicitDefEqProofs (maxSteps := 5000000) only [go_sem, Nat.reduceShiftRight, Nat.reduceAnd, Nat.reduceBNe, Int.reduceEq, Nat.reduceAdd, Nat.reduceSub, Nat.reduceMul, Nat.reduceLeDiff, reduceIte, reduceCtorEq, Nat.reduceBEq, Nat.reduceEqDiff, wrap64, runC_loop, runC_range, callF_fn, callV_fn, callV_yld, yield_eq, yieldBody, yieldRaw, roundMid, roundEnd, rangeEnd, Bool.not_not, put_cons, put_nil, trim_same, at_zero, at_add, set_zero, set_add, store_one, write_zero, write_add, write_head, write_succ, splice_one, splice_more, List.drop_nil, List.take_nil, cell_int, cell_bool, fillS, splice_one, idxA, Ex.isNormal, List.set_nil, List.length_set, List.all_cons, List.all_nil, Bool.and_self, and_self, true_and, and_true, List.getElem?_nil, Int.reduceLT, Int.reduceLE, Int.reduceToNat, Int.toNat_zero, Int.toNat_one, Int.reduceAdd, Int.reduceSub, Int.reduceMul, Int.reduceNeg, Int.reduceBEq, Int.reduceBNe, Int.reduceGE, Int.reduceGT, Nat.reduceLT, trim_keep, under_fn, under_ptr, under_sl, Nat.lt_irrefl, not_lt_add, trim_tail, keepOk, ABlk.vals, Int.cast_ofNat_Int, decide_true, decide_false, List.all_cons, List.all_nil, Nat.zero_mul, Nat.mul_one, Nat.one_mul, x3_call, ec, d0, wl, d1, e]
 have d1 := decide_eq_false h1
 obtain ⟨n, rfl⟩ : ∃ n : Nat, i = n := ⟨i.toNat, by omega⟩
 have hn : n < L.length := by omega
 have hs : dropS L (n : Int) = dropN L n := by unfold dropS; rw [if_neg (by omega), Int.toNat_natCast]
 rw [hs]
 obtain ⟨b, hb, rfl, hH⟩ := gc_sl gk (fun e => by rw [e] at hn; simp at hn)
 have lr := gk.ch.len
 have h3 := gk.ch.len3
 have lb := lt_of_at hH
 have e2 : IntKind.i64.wrap ((n : Int) + 1) = ((n + 1 : Nat) : Int) := by rw [wrap64 (by omega) (by omega)]; omega
 have nb : ∀ r ∈ rows, ∀ x ∈ r, ∀ z, slb x = some z → ¬ z = b := fun r hr x hx z hz h => gk.ap r hr x hx z hz (by rw [h]; rfl)
 cases n with
 | zero =>
  have dg : decide (((0 : Nat) : Int) > 0) = false := rfl
  obtain ⟨K', ed, l', b', o'⟩ := deleteC hH h3 (chR_cells gk.ch) (i := 0) (by omega) (by omega)
  have fr : Fr K K' (fun z => z = b) := ⟨by omega, fun z hz hn => o' z hn⟩
  have aK : Adds H K' := fr.old A fun z hz h => by omega
  rw [lr, show ((0 : Nat) : Int) = 0 from rfl, show ((0 + 1 : Nat) : Int) = 1 from rfl] at ed
  rw [show ((0 : Nat) : Int) = 0 from rfl] at d1
  have tr := sl_end (o := 0) (z := 3) (n := L.length - 1) (c := L.length) (e := false) hb aK
  refine ⟨_, K', ?_, aK, .inr ⟨b, L.length, false, rows.take 0 ++ rows.drop (0 + 1), zeroR, by unfold dropN; rw [List.length_drop], by unfold dropN; rw [List.length_drop]; omega, cells_rw b', ?_⟩⟩
  ·rw [d22]
   unfold b22
   simp -implicitDefEqProofs (maxSteps := 5000000) only [go_sem, Nat.reduceShiftRight, Nat.reduceAnd, Nat.reduceBNe, Int.reduceEq, Nat.reduceAdd, Nat.reduceSub, Nat.reduceMul, Nat.reduceLeDiff, reduceIte, reduceCtorEq, Nat.reduceBEq, Nat.reduceEqDiff, wrap64, runC_loop, runC_range, callF_fn, callV_fn, callV_yld, yield_eq, yieldBody, yieldRaw, roundMid, roundEnd, rangeEnd, Bool.not_not, put_cons, put_nil, trim_same, at_zero, at_add, set_zero, set_add, store_one, write_zero, write_add, write_head, write_succ, splice_one, splice_more, List.drop_nil, List.take_nil, cell_int, cell_bool, fillS, splice_one, idxA, Ex.isNormal, List.set_nil, List.length_set, List.all_cons, List.all_nil, Bool.and_self, and_self, true_and, and_true, List.getElem?_nil, Int.reduceLT, Int.reduceLE, Int.reduceToNat, Int.toNat_zero, Int.toNat_one, Int.reduceAdd, Int.reduceSub, Int.reduceMul, Int.reduceNeg, Int.reduceBEq, Int.reduceBNe, Int.reduceGE, Int.reduceGT, Nat.reduceLT, trim_keep, under_fn, under_ptr, under_sl, Nat.lt_irrefl, not_lt_add, trim_tail, keepOk, ABlk.vals, Int.cast_ofNat_Int, decide_true, decide_false, List.all_cons, List.all_nil, Nat.zero_mul, Nat.mul_one, Nat.one_mul, x3_call, ec, d0, wl, d1, dg, e2, ed]
   exact tr
  ·exact (chR_drop (gk.ch.fr fr nb) 1)
 | succ k =>
  have dg : decide (((k + 1 : Nat) : Int) > 0) = true := decide_eq_true (by omega)
  have e1 : IntKind.i64.wrap (((k + 1 : Nat) : Int) - 1) = (k : Int) := by rw [wrap64 (by omega) (by omega)]; omega
  have hk : k < L.length := by omega
  have hx := List.getElem?_eq_getElem hk
  have hy := List.getElem?_eq_getElem hn
  have f1 := fits_get fi hx
  have f2 := fits_get fi hy
  have hd : dropN L (k + 1) = L.take k ++ joinS L[k] L[k + 1] :: L.drop (k + 2) := by simp only [dropN, hx, hy]
  rw [hd]
  generalize L[k] = s at *
  generalize L[k + 1] = u at *
  obtain ⟨r, hr, gr⟩ := gk.ch.get hx
  obtain ⟨vc, vt, rfl, bc, pt⟩ := snR_pat gr
  obtain ⟨ru, hru, gu⟩ := gk.ch.get hy
  obtain ⟨uc, ut, rfl, bu, pu⟩ := snR_pat gu
  have cu := gu.cell
  have hl := rows_len h3
  have ixk := idx_nat b 3 L.length L.length k false .i64 (by omega) hk
  have ixn := idx_nat b 3 L.length L.length (k + 1) false .i64 (by omega) hn
  have cH := cells_rw hH
  have tku : (rows.flatten.drop ((k + 1) * 3)).take 3 = [.int .i64 u.id, uc, ut] := rows_take h3 hru
  have hle : (k + 1) * 3 + 3 ≤ rows.flatten.length := by rw [hl]; omega
  obtain ⟨K1, hK1⟩ : ∃ K1, K1 = K ++ [ABlk.rw [.int .i64 u.id, uc, ut]] := ⟨_, rfl⟩
  have A1 : Adds K K1 := ⟨_, hK1⟩
  have w0 : writeN (K ++ [ABlk.rw [AV.int .i64 0, .nilSl, .nilSl]]) K.length 0 [.int .i64 u.id, uc, ut] = some K1 := by
   rw [write_zero, if_pos ⟨by simp, cu⟩, hK1]; rfl
  have b1 : K1[b]? = some (.rw rows.flatten) := A1.at hH
  have c1 := cells_rw b1
  have n1 : cellsOf K1 K.length = some [.int .i64 u.id, uc, ut] := by rw [hK1]; unfold cellsOf; simp
  have m1 : rows.flatten[k * 3 + 1]? = some vc := by rw [rows_get h3 hr 1 (by omega)]; rfl
  obtain ⟨w1, G, ow, eo⟩ := Bt.orC (A1.bs bc) (A1.bs bu) (by have := f1.lc; omega) (by have := f2.lc; omega)
  have wg := own_ge ow
  have lK1 : K1.length = K.length + 1 := by rw [hK1]; simp
  have cw := ow.bs.cell
  obtain ⟨K2, hK2⟩ : ∃ K2, K2 = K1 ++ G := ⟨_, rfl⟩
  have A2 : Adds K1 K2 := ⟨_, hK2⟩
  have bw : BS K2 w1 (Bt.orS s.ch u.ch) := by rw [hK2]; exact ow.bs
  rw [← hK2] at eo
  have b2 : K2[b]? = some (.rw rows.flatten) := A2.at b1
  have wr1 : writeN K2 b (k * 3 + 1) [w1] = some (K2.set b (.rw (rows.set k [.int .i64 s.id, w1, vt]).flatten)) := by
   rw [write_of b2, if_pos ⟨by show k * 3 + 1 + 1 ≤ _; rw [rows_len h3]; omega, by simp [cw.2]⟩, splice_one, rows_set h3 hr 1 _ (by omega)]; rfl
  obtain ⟨rows1, hr1⟩ : ∃ r, r = rows.set k [AV.int .i64 s.id, w1, vt] := ⟨_, rfl⟩
  rw [← hr1] at wr1
  have h31 : ∀ r ∈ rows1, r.length = 3 := fun r h => by
   rw [hr1] at h
   rcases List.mem_or_eq_of_mem_set h with h | h
   ·exact h3 r h
   ·rw [h]; rfl
  have hkr : k < rows.length := by omega
  have g1 : rows1[k]? = some [AV.int .i64 s.id, w1, vt] := by rw [hr1]; simp [hkr]
  have l1 : rows1.length = rows.length := by rw [hr1, List.length_set]
  have hl1 := rows_len h31
  obtain ⟨K3, hK3⟩ : ∃ K3, K3 = K2.set b (ABlk.rw rows1.flatten) := ⟨_, rfl⟩
  rw [← hK3] at wr1
  have lb2 : b < K2.length := lt_of_at b2
  have b3 : K3[b]? = some (.rw rows1.flatten) := by rw [hK3]; exact at_set _ _ _ lb2
  have c3 := cells_rw b3
  have m3 : rows1.flatten[k * 3 + 2]? = some vt := by rw [rows_get h31 g1 2 (by omega)]; rfl
  have fr3 : Fr K2 K3 (fun z => z = b) := by rw [hK3]; exact Fr.set _ _ (F := fun z => z = b) rfl
  have nK : K.length ≠ b := by omega
  have n3 : cellsOf K3 K.length = some [.int .i64 u.id, uc, ut] := fr3.cells (A2.cells n1) nK
  have nbr := fun z hz => nb _ (List.mem_of_getElem? hr) vt (by simp) z hz
  have nbu := fun z hz => nb _ (List.mem_of_getElem? hru) ut (by simp) z hz
  have pt3 : IsP K3 vt s.tb := ((pt.adds A1).adds A2).fr fr3 nbr
  have pu3 : IsP K3 ut u.tb := ((pu.adds A1).adds A2).fr fr3 nbu
  obtain ⟨v4, v5, K4, em, A4, g4, g5⟩ := mergeC pt3 f1.lt pu3 f2.lt
  have em := x3_merge em
  have b4 : K4[b]? = some (.rw rows1.flatten) := A4.at b3
  have cv := g4.isP.cell
  have vg := g4.out
  have wr2 : writeN K4 b (k * 3 + 2) [v4] = some (K4.set b (.rw (rows1.set k [.int .i64 s.id, w1, v4]).flatten)) := by
   rw [write_of b4, if_pos ⟨by show k * 3 + 2 + 1 ≤ _; rw [rows_len h31]; omega, by simp [cv.2]⟩, splice_one, rows_set h31 g1 2 _ (by omega)]; rfl
  obtain ⟨rows2, hr2⟩ : ∃ r, r = rows1.set k [AV.int .i64 s.id, w1, v4] := ⟨_, rfl⟩
  rw [← hr2] at wr2
  have h32 : ∀ r ∈ rows2, r.length = 3 := fun r h => by
   rw [hr2] at h
   rcases List.mem_or_eq_of_mem_set h with h | h
   ·exact h31 r h
   ·rw [h]; rfl
  have l2 : rows2.length = L.length := by rw [hr2, List.length_set, l1, lr]
  obtain ⟨K5, hK5⟩ : ∃ K5, K5 = K4.set b (ABlk.rw rows2.flatten) := ⟨_, rfl⟩
  rw [← hK5] at wr2
  have b5 : K5[b]? = some (.rw rows2.flatten) := by rw [hK5]; exact at_set _ _ _ (lt_of_at b4)
  have lK3 : K3.length = K2.length := by rw [hK3, List.length_set]
  have fr5 : Fr K4 K5 (fun z => z = b) := by rw [hK5]; exact Fr.set _ _ (F := fun z => z = b) rfl
  have e3 : rows2 = rows.take k ++ [AV.int .i64 s.id, w1, v4] :: rows.drop (k + 1) := by
   rw [hr2, hr1, List.set_set, List.set_eq_take_append_cons_drop, if_pos hkr]
  have hc2 : ∀ r ∈ rows2, r.all AV.isCell = true := fun r h => by
   rw [e3] at h
   rcases List.mem_append.1 h with h | h
   ·exact chR_cells gk.ch r (List.mem_of_mem_take h)
   ·rcases List.mem_cons.1 h with rfl | h
    ·simp only [List.all_cons, List.all_nil, cw.2, cv.2, Bool.and_true]; rfl
    ·exact chR_cells gk.ch r (List.mem_of_mem_drop h)
  obtain ⟨K6, ed, l6, b6, o6⟩ := deleteC b5 h32 hc2 (i := k + 1) (by omega) (by omega)
  rw [l2] at ed
  have e4 : IntKind.i64.wrap (((k + 1 : Nat) : Int) + 1) = ((k + 1 + 1 : Nat) : Int) := by rw [wrap64 (by omega) (by omega)]; omega
  have fr6 : Fr K5 K6 (fun z => z = b) := ⟨by omega, fun z hz hn => o6 z hn⟩
  have fr46 : Fr K4 K6 (fun z => z = b) := fr5.trans fr6 (fun _ _ h => h)
  have fr06 : Fr K K6 (fun z => z = b) := ((Fr.adds (A1.trans A2) (fun z => z = b)).trans (fr3.trans (Fr.adds A4 (fun z => z = b)) (fun _ _ h => h)) (fun _ _ h => h)).trans fr46 (fun _ _ h => h)
  have aK : Adds H K6 := fr06.old A fun z hz h => by omega
  have tr := sl_end (o := 0) (z := 3) (n := L.length - 1) (c := L.length) (e := false) hb aK
  have w6 : BS K6 w1 (Bt.orS s.ch u.ch) := ((A4.bs (bw.fr fr3 fun z hz h => by have := wg z hz; omega))).fr fr46 fun z hz h => by have := wg z hz; omega
  have v6 : IsP K6 v4 (tmerge s.tb u.tb s.tb []).1 := g4.isP.fr fr46 fun z hz h => by have := (vg z hz).1; have := A2.len; omega
  have tk : (rows.take k).length = k := by rw [List.length_take]; omega
  have rr : rows2.take (k + 1) ++ rows2.drop (k + 1 + 1) = rows.take k ++ ([AV.int .i64 s.id, w1, v4] :: rows.drop (k + 2)) := by
   have t1 : rows2.take (k + 1) = rows.take k ++ [[AV.int .i64 s.id, w1, v4]] := by
    rw [e3, List.take_append, tk, List.take_of_length_le (by omega), show k + 1 - k = 1 by omega]; rfl
   have t2 : rows2.drop (k + 1 + 1) = rows.drop (k + 2) := by
    rw [e3, List.drop_append, tk, List.drop_eq_nil_of_le (by omega), show k + 1 + 1 - k = 2 by omega, List.nil_append, List.drop_succ_cons, List.drop_drop]
   rw [t1, t2, List.append_assoc]; rfl
  rw [rr] at b6
  have lL : (L.take k ++ joinS s u :: L.drop (k + 2)).length = L.length - 1 := by
   rw [List.length_append, List.length_take, List.length_cons, List.length_drop]; omega
  have hK1 := hK1.symm
  have cu1 := bu.cell.2
  have cu2 := pu.cell.2
  refine ⟨_, K6, ?_, aK, .inr ⟨b, L.length, false, _, zeroR, by rw [lL], by rw [lL]; omega, cells_rw b6, chR_app (chR_take (gk.ch.fr fr06 nb) k) (chR_app (chR_one (s := joinS s u) ⟨_, _, rfl, w6, v6⟩) (chR_drop (gk.ch.fr fr06 nb) (k + 2)))⟩⟩
  rw [d22]
  unfold b22
  simp -implicitDefEqProofs (maxSteps := 5000000) only [go_sem, Nat.reduceShiftRight, Nat.reduceAnd, Nat.reduceBNe, Int.reduceEq, Nat.reduceAdd, Nat.reduceSub, Nat.reduceMul, Nat.reduceLeDiff, reduceIte, reduceCtorEq, Nat.reduceBEq, Nat.reduceEqDiff, wrap64, runC_loop, runC_range, callF_fn, callV_fn, callV_yld, yield_eq, yieldBody, yieldRaw, roundMid, roundEnd, rangeEnd, Bool.not_not, put_cons, put_nil, trim_same, at_zero, at_add, set_zero, set_add, store_one, write_zero, write_add, write_head, write_succ, splice_one, splice_more, List.drop_nil, List.take_nil, cell_int, cell_bool, fillS, splice_one, idxA, Ex.isNormal, List.set_nil, List.length_set, List.all_cons, List.all_nil, Bool.and_self, and_self, true_and, and_true, List.getElem?_nil, Int.reduceLT, Int.reduceLE, Int.reduceToNat, Int.toNat_zero, Int.toNat_one, Int.reduceAdd, Int.reduceSub, Int.reduceMul, Int.reduceNeg, Int.reduceBEq, Int.reduceBNe, Int.reduceGE, Int.reduceGT, Nat.reduceLT, trim_keep, under_fn, under_ptr, under_sl, Nat.lt_irrefl, not_lt_add, trim_tail, keepOk, ABlk.vals, Int.cast_ofNat_Int, decide_true, decide_false, List.all_cons, List.all_nil, Nat.zero_mul, Nat.mul_one, Nat.one_mul, x3_call, ec, d0, wl, d1, dg, e1, ixk, ixn, cH, tku, hle, w0, cu1, cu2, hK1, b1, c1, n1, m1, eo, cw.1, wr1, c3, m3, n3, em, cv.1, wr2, e4, ed]
  exact tr
end
end Go.Proofs.Ythhodjcgcgkaaaa.G11
end
section
namespace Go.Proofs.Ythhodjcgcgkaaaa.G11
open Go Go.Proofs.Ythhodjcgcgkaaaa.Eng
section
variable {H : AHeap} {v : AV} {L : List SnS} (g : IsC H v L) (fi : Fits L)
include g fi
end
end Go.Proofs.Ythhodjcgcgkaaaa.G11
end
section
namespace Go.Proofs.Ythhodjcgcgkaaaa.G11
open Go Go.Proofs.Ythhodjcgcgkaaaa.Eng
section
variable {H : AHeap} {v : AV} {L : List SnS} (g : IsC H v L) (fi : Fits L)
include g fi
end
end Go.Proofs.Ythhodjcgcgkaaaa.G11
end
section
namespace Go.Proofs.Ythhodjcgcgkaaaa.G11
open Go Go.Proofs.Ythhodjcgcgkaaaa.Eng
def oneS (s : SnS) (bl ar : Int) (last : Bool) : Bool := decide (1 ≤ s.id) && (decide (s.id ≤ 1000000) && (Bt.goodS s.ch bl && (tgood s.tb bl ar && (s.tb.all (fun p => Bt.hasS s.ch p.1) && (last || ((s.tb.length : Int) == Bt.sumO s.ch))))))
section
variable {H : AHeap} {s : SnS} {vc vt : AV} (bc : BS H vc s.ch) (pt : IsP H vt s.tb) (ft : s.Fit) {q : Nat} (hq : cellsOf H q = some [.int .i64 s.id, vc, vt]) (hp : ∀ p ∈ s.tb, p.1 ≤ 9223372036854775807)
include bc pt ft hq hp
set_option maxHeartbeats 4000000 in
theorem oneL (x0 x1 x2 x3 x5 x6 x7 x9 x11 x12 x13 x14 x15 x16 x17 x18 x19 x20 x21 x22 x23 x24 x25 x26 x27 x28 x29 x30 x31 x32 x33 x34 x48 x49 x50 x51 x52 x53 x54 x55 x56 x57 : AV) : ∀ (k i : Nat) (K : AHeap) (j10 j38 j39 j40 j41 j42 j43 j44 j45 j46 j47 : AV), Adds H K → i + k = s.tb.length →
  Outs (LP1 l34x0 [x0, x1, x2, x3, .ptr q 0, x5, x6, x7, .bool false, x9, j10, x11, x12, x13, x14, x15, x16, x17, x18, x19, x20, x21, x22, x23, x24, x25, x26, x27, x28, x29, x30, x31, x32, x33, x34, vt, .int .i64 (s.tb.length : Int), .int .i64 (i : Int), j38, j39, j40, j41, j42, j43, j44, j45, j46, j47, x48, x49, x50, x51, x52, x53, x54, x55, x56, x57] K) fun e t K' => Adds H K' ∧ ∃ fv : Nat → AV, t = [x0, x1, x2, x3, .ptr q 0, x5, x6, x7, (fv 8), x9, (fv 10), x11, x12, x13, x14, x15, x16, x17, x18, x19, x20, x21, x22, x23, x24, x25, x26, x27, x28, x29, x30, x31, x32, x33, x34, vt, .int .i64 (s.tb.length : Int), (fv 37), (fv 38), (fv 39), (fv 40), (fv 41), (fv 42), (fv 43), (fv 44), (fv 45), (fv 46), (fv 47), x48, x49, x50, x51, x52, x53, x54, x55, x56, x57] ∧ ((e = .exit 0 ∧ (s.tb.drop i).all (fun p => Bt.hasS s.ch p.1) = true) ∨ (e = .ret ∧ fv 8 = .bool false ∧ (s.tb.drop i).all (fun p => Bt.hasS s.ch p.1) = false)) := by
 intro k
 obtain ⟨L0, hL0⟩ : ∃ L, L = LP1 l34x0 := ⟨_, rfl⟩
 have lo := loop_open hL0
 have lt1 := ft.lt
 rw [← hL0]
 induction k with
 | zero =>
  intro i K j10 j38 j39 j40 j41 j42 j43 j44 j45 j46 j47 aK hi
  obtain rfl : i = s.tb.length := by omega
  have hd : decide ((s.tb.length : Int) < (s.tb.length : Int)) = false := by simp
  rw [lo, List.drop_length]
  unfold l34x0
  simp -implicitDefEqProofs (maxSteps := 5000000) only [go_sem, Nat.reduceShiftRight, Nat.reduceAnd, Nat.reduceBNe, Int.reduceEq, Nat.reduceAdd, Nat.reduceSub, Nat.reduceMul, Nat.reduceLeDiff, reduceIte, reduceCtorEq, Nat.reduceBEq, Nat.reduceEqDiff, hd, seqR_exit', outs_normal]
  exact ⟨aK, exF2 rfl (.inl rfl)⟩
 | succ k ih =>
  intro i K j10 j38 j39 j40 j41 j42 j43 j44 j45 j46 j47 aK hi
  have hlt : i < s.tb.length := by omega
  have hd : decide ((i : Int) < (s.tb.length : Int)) = true := decide_eq_true (by omega)
  have e2 : IntKind.i64.wrap ((i : Int) + 1) = ((i + 1 : Nat) : Int) := by rw [wrap64 (by omega) (by omega)]; omega
  have hx := List.getElem?_eq_getElem hlt
  have hb := hp _ (List.getElem_mem hlt)
  rw [List.drop_eq_getElem_cons hlt, List.all_cons]
  generalize s.tb[i] = p at *
  obtain ⟨bb, cs, sb, ix, hc0, h1, h2, ht, hle⟩ := pt.idx hx
  have hc := aK.cells hc0
  unfold prC at ht
  obtain ⟨K1, hK1⟩ : ∃ K1, K1 = K ++ [ABlk.rw [.int .i64 p.1, .int .i64 p.2]] := ⟨_, rfl⟩
  have A1 : Adds K K1 := ⟨_, hK1⟩
  have a1 := aK.trans A1
  have cp : cellsOf K1 K.length = some [.int .i64 p.1, .int .i64 p.2] := by rw [hK1]; unfold cellsOf; simp
  have cq := a1.cells hq
  have eh := Bt.hasC (a1.bs bc) p.1 hb
  have hK1 := hK1.symm
  have key := ih (i + 1) K1
  rw [lo]
  unfold l34x0
  rcases hh : Bt.hasS s.ch p.1 with _ | _ <;> rw [hh] at eh
  ·simp -implicitDefEqProofs (maxSteps := 5000000) only [go_sem, Nat.reduceShiftRight, Nat.reduceAnd, Nat.reduceBNe, Int.reduceEq, Nat.reduceAdd, Nat.reduceSub, Nat.reduceMul, Nat.reduceLeDiff, reduceIte, reduceCtorEq, Nat.reduceBEq, Nat.reduceEqDiff, wrap64, runC_loop, runC_range, callF_fn, callV_fn, callV_yld, yield_eq, yieldBody, yieldRaw, roundMid, roundEnd, rangeEnd, Bool.not_not, put_cons, put_nil, trim_same, at_zero, at_add, set_zero, set_add, store_one, write_zero, write_add, write_head, write_succ, splice_one, splice_more, List.drop_nil, List.take_nil, cell_int, cell_bool, fillS, splice_one, idxA, Ex.isNormal, List.set_nil, List.length_set, List.all_cons, List.all_nil, Bool.and_self, and_self, true_and, and_true, List.getElem?_nil, Int.reduceLT, Int.reduceLE, Int.reduceToNat, Int.toNat_zero, Int.toNat_one, Int.reduceAdd, Int.reduceSub, Int.reduceMul, Int.reduceNeg, Int.reduceBEq, Int.reduceBNe, Int.reduceGE, Int.reduceGT, Nat.reduceLT, trim_keep, under_fn, under_ptr, under_sl, Nat.lt_irrefl, not_lt_add, trim_tail, keepOk, ABlk.vals, Int.cast_ofNat_Int, decide_true, decide_false, List.all_cons, List.all_nil, Nat.zero_mul, Nat.mul_one, Nat.one_mul, hd, ix, hc, ht, hle, hK1, cq, cp, eh, outs_normal]
   exact ⟨a1, exF2 rfl (.inr rfl)⟩
  ·simp -implicitDefEqProofs (maxSteps := 5000000) only [go_sem, Nat.reduceShiftRight, Nat.reduceAnd, Nat.reduceBNe, Int.reduceEq, Nat.reduceAdd, Nat.reduceSub, Nat.reduceMul, Nat.reduceLeDiff, reduceIte, reduceCtorEq, Nat.reduceBEq, Nat.reduceEqDiff, wrap64, runC_loop, runC_range, callF_fn, callV_fn, callV_yld, yield_eq, yieldBody, yieldRaw, roundMid, roundEnd, rangeEnd, Bool.not_not, put_cons, put_nil, trim_same, at_zero, at_add, set_zero, set_add, store_one, write_zero, write_add, write_head, write_succ, splice_one, splice_more, List.drop_nil, List.take_nil, cell_int, cell_bool, fillS, splice_one, idxA, Ex.isNormal, List.set_nil, List.length_set, List.all_cons, List.all_nil, Bool.and_self, and_self, true_and, and_true, List.getElem?_nil, Int.reduceLT, Int.reduceLE, Int.reduceToNat, Int.toNat_zero, Int.toNat_one, Int.reduceAdd, Int.reduceSub, Int.reduceMul, Int.reduceNeg, Int.reduceBEq, Int.reduceBNe, Int.reduceGE, Int.reduceGT, Nat.reduceLT, trim_keep, under_fn, under_ptr, under_sl, Nat.lt_irrefl, not_lt_add, trim_tail, keepOk, ABlk.vals, Int.cast_ofNat_Int, decide_true, decide_false, List.all_cons, List.all_nil, Nat.zero_mul, Nat.mul_one, Nat.one_mul, hd, ix, hc, ht, hle, hK1, cq, cp, eh, e2]
   exact key _ _ _ _ _ _ _ _ _ _ _ a1 (by omega)
end
section
variable {H : AHeap} {s : SnS} {vc vt : AV} (bc : BS H vc s.ch) (pt : IsP H vt s.tb) (ft : s.Fit) {bl : Int} (hbl : bl ≤ 9223372036854775807) (ar : Int)
include bc pt ft hbl
set_option maxHeartbeats 4000000 in
theorem oneC (last : Bool) : (envL prog).call 34 [.agg [.int .i64 s.id, vc, vt], .int .i64 bl, .int .i64 ar, .bool last] H = some (.bool (oneS s bl ar last), H) := by
 obtain ⟨K, hK⟩ : ∃ K, K = H ++ [ABlk.rw [.int .i64 s.id, vc, vt]] := ⟨_, rfl⟩
 have A : Adds H K := ⟨_, hK⟩
 have cc := bc.cell
 have ct := pt.cell
 have cq : cellsOf K H.length = some [.int .i64 s.id, vc, vt] := by rw [hK]; unfold cellsOf; simp
 have eg := Bt.goodC (A.bs bc) (by have := ft.lc; omega) bl
 have et := goodC (pt.adds A) (by have := ft.lt; omega) bl ar
 have wt := pt.len
 have hK := hK.symm
 have key : Outs (runC (envL prog) (b34 (envL prog)) ([.agg [.int .i64 s.id, vc, vt], .int .i64 bl, .int .i64 ar, .bool last] ++ List.replicate (58 - [AV.agg [.int .i64 s.id, vc, vt], .int .i64 bl, .int .i64 ar, .bool last].length) .undef) H) fun e' t K => Adds H K ∧ fin [.tmp 8] (some (e', t, K)) = some (.bool (oneS s bl ar last), K) := by
  unfold b34
  generalize hQ : (fun (e' : Ex) (t : T) (K : AHeap) => Adds H K ∧ fin [.tmp 8] (some (e', t, K)) = some (AV.bool (oneS s bl ar last), K)) = Q
  by_cases h1 : s.id < 1
  ·have d1 := decide_eq_true h1
   have hs : oneS s bl ar last = false := by unfold oneS; rw [decide_eq_false (by omega)]; rfl
   simp -implicitDefEqProofs (maxSteps := 5000000) only [go_sem, Nat.reduceShiftRight, Nat.reduceAnd, Nat.reduceBNe, Int.reduceEq, Nat.reduceAdd, Nat.reduceSub, Nat.reduceMul, Nat.reduceLeDiff, reduceIte, reduceCtorEq, Nat.reduceBEq, Nat.reduceEqDiff, wrap64, runC_loop, runC_range, callF_fn, callV_fn, callV_yld, yield_eq, yieldBody, yieldRaw, roundMid, roundEnd, rangeEnd, Bool.not_not, put_cons, put_nil, trim_same, at_zero, at_add, set_zero, set_add, store_one, write_zero, write_add, write_head, write_succ, splice_one, splice_more, List.drop_nil, List.take_nil, cell_int, cell_bool, fillS, splice_one, idxA, Ex.isNormal, List.set_nil, List.length_set, List.all_cons, List.all_nil, Bool.and_self, and_self, true_and, and_true, List.getElem?_nil, Int.reduceLT, Int.reduceLE, Int.reduceToNat, Int.toNat_zero, Int.toNat_one, Int.reduceAdd, Int.reduceSub, Int.reduceMul, Int.reduceNeg, Int.reduceBEq, Int.reduceBNe, Int.reduceGE, Int.reduceGT, Nat.reduceLT, trim_keep, under_fn, under_ptr, under_sl, Nat.lt_irrefl, not_lt_add, trim_tail, keepOk, ABlk.vals, Int.cast_ofNat_Int, decide_true, decide_false, List.all_cons, List.all_nil, Nat.zero_mul, Nat.mul_one, Nat.one_mul, cellsA_agg, cc.2, ct.2, hK, cq, d1, outs_normal]
   subst hQ
   rw [hs]
   refine ⟨A, ?_⟩
   simp -implicitDefEqProofs (maxSteps := 5000000) only [go_sem, Nat.reduceShiftRight, Nat.reduceAnd, Nat.reduceBNe, Int.reduceEq, Nat.reduceAdd, Nat.reduceSub, Nat.reduceMul, Nat.reduceLeDiff, reduceIte, reduceCtorEq, Nat.reduceBEq, Nat.reduceEqDiff]
  have d1 := decide_eq_false h1
  by_cases h2 : s.id > 1000000
  ·have d2 := decide_eq_true h2
   have hs : oneS s bl ar last = false := by unfold oneS; rw [decide_eq_true (by omega), decide_eq_false (by omega)]; rfl
   simp -implicitDefEqProofs (maxSteps := 5000000) only [go_sem, Nat.reduceShiftRight, Nat.reduceAnd, Nat.reduceBNe, Int.reduceEq, Nat.reduceAdd, Nat.reduceSub, Nat.reduceMul, Nat.reduceLeDiff, reduceIte, reduceCtorEq, Nat.reduceBEq, Nat.reduceEqDiff, wrap64, runC_loop, runC_range, callF_fn, callV_fn, callV_yld, yield_eq, yieldBody, yieldRaw, roundMid, roundEnd, rangeEnd, Bool.not_not, put_cons, put_nil, trim_same, at_zero, at_add, set_zero, set_add, store_one, write_zero, write_add, write_head, write_succ, splice_one, splice_more, List.drop_nil, List.take_nil, cell_int, cell_bool, fillS, splice_one, idxA, Ex.isNormal, List.set_nil, List.length_set, List.all_cons, List.all_nil, Bool.and_self, and_self, true_and, and_true, List.getElem?_nil, Int.reduceLT, Int.reduceLE, Int.reduceToNat, Int.toNat_zero, Int.toNat_one, Int.reduceAdd, Int.reduceSub, Int.reduceMul, Int.reduceNeg, Int.reduceBEq, Int.reduceBNe, Int.reduceGE, Int.reduceGT, Nat.reduceLT, trim_keep, under_fn, under_ptr, under_sl, Nat.lt_irrefl, not_lt_add, trim_tail, keepOk, ABlk.vals, Int.cast_ofNat_Int, decide_true, decide_false, List.all_cons, List.all_nil, Nat.zero_mul, Nat.mul_one, Nat.one_mul, cellsA_agg, cc.2, ct.2, hK, cq, d1, d2, outs_normal]
   subst hQ
   rw [hs]
   refine ⟨A, ?_⟩
   simp -implicitDefEqProofs (maxSteps := 5000000) only [go_sem, Nat.reduceShiftRight, Nat.reduceAnd, Nat.reduceBNe, Int.reduceEq, Nat.reduceAdd, Nat.reduceSub, Nat.reduceMul, Nat.reduceLeDiff, reduceIte, reduceCtorEq, Nat.reduceBEq, Nat.reduceEqDiff]
  have d2 := decide_eq_false h2
  have o1 : oneS s bl ar last = (Bt.goodS s.ch bl && (tgood s.tb bl ar && (s.tb.all (fun p => Bt.hasS s.ch p.1) && (last || ((s.tb.length : Int) == Bt.sumO s.ch))))) := by
   unfold oneS; rw [decide_eq_true (by omega), decide_eq_true (by omega)]; rfl
  rcases hg : Bt.goodS s.ch bl with _ | _ <;> rw [hg] at eg o1
  ·simp -implicitDefEqProofs (maxSteps := 5000000) only [go_sem, Nat.reduceShiftRight, Nat.reduceAnd, Nat.reduceBNe, Int.reduceEq, Nat.reduceAdd, Nat.reduceSub, Nat.reduceMul, Nat.reduceLeDiff, reduceIte, reduceCtorEq, Nat.reduceBEq, Nat.reduceEqDiff, wrap64, runC_loop, runC_range, callF_fn, callV_fn, callV_yld, yield_eq, yieldBody, yieldRaw, roundMid, roundEnd, rangeEnd, Bool.not_not, put_cons, put_nil, trim_same, at_zero, at_add, set_zero, set_add, store_one, write_zero, write_add, write_head, write_succ, splice_one, splice_more, List.drop_nil, List.take_nil, cell_int, cell_bool, fillS, splice_one, idxA, Ex.isNormal, List.set_nil, List.length_set, List.all_cons, List.all_nil, Bool.and_self, and_self, true_and, and_true, List.getElem?_nil, Int.reduceLT, Int.reduceLE, Int.reduceToNat, Int.toNat_zero, Int.toNat_one, Int.reduceAdd, Int.reduceSub, Int.reduceMul, Int.reduceNeg, Int.reduceBEq, Int.reduceBNe, Int.reduceGE, Int.reduceGT, Nat.reduceLT, trim_keep, under_fn, under_ptr, under_sl, Nat.lt_irrefl, not_lt_add, trim_tail, keepOk, ABlk.vals, Int.cast_ofNat_Int, decide_true, decide_false, List.all_cons, List.all_nil, Nat.zero_mul, Nat.mul_one, Nat.one_mul, cellsA_agg, cc.2, ct.2, hK, cq, d1, d2, eg, outs_normal]
   subst hQ
   rw [o1]
   refine ⟨A, ?_⟩
   simp -implicitDefEqProofs (maxSteps := 5000000) only [go_sem, Nat.reduceShiftRight, Nat.reduceAnd, Nat.reduceBNe, Int.reduceEq, Nat.reduceAdd, Nat.reduceSub, Nat.reduceMul, Nat.reduceLeDiff, reduceIte, reduceCtorEq, Nat.reduceBEq, Nat.reduceEqDiff]
  rcases hg2 : tgood s.tb bl ar with _ | _ <;> rw [hg2] at et o1
  ·simp -implicitDefEqProofs (maxSteps := 5000000) only [go_sem, Nat.reduceShiftRight, Nat.reduceAnd, Nat.reduceBNe, Int.reduceEq, Nat.reduceAdd, Nat.reduceSub, Nat.reduceMul, Nat.reduceLeDiff, reduceIte, reduceCtorEq, Nat.reduceBEq, Nat.reduceEqDiff, wrap64, runC_loop, runC_range, callF_fn, callV_fn, callV_yld, yield_eq, yieldBody, yieldRaw, roundMid, roundEnd, rangeEnd, Bool.not_not, put_cons, put_nil, trim_same, at_zero, at_add, set_zero, set_add, store_one, write_zero, write_add, write_head, write_succ, splice_one, splice_more, List.drop_nil, List.take_nil, cell_int, cell_bool, fillS, splice_one, idxA, Ex.isNormal, List.set_nil, List.length_set, List.all_cons, List.all_nil, Bool.and_self, and_self, true_and, and_true, List.getElem?_nil, Int.reduceLT, Int.reduceLE, Int.reduceToNat, Int.toNat_zero, Int.toNat_one, Int.reduceAdd, Int.reduceSub, Int.reduceMul, Int.reduceNeg, Int.reduceBEq, Int.reduceBNe, Int.reduceGE, Int.reduceGT, Nat.reduceLT, trim_keep, under_fn, under_ptr, under_sl, Nat.lt_irrefl, not_lt_add, trim_tail, keepOk, ABlk.vals, Int.cast_ofNat_Int, decide_true, decide_false, List.all_cons, List.all_nil, Nat.zero_mul, Nat.mul_one, Nat.one_mul, cellsA_agg, cc.2, ct.2, hK, cq, d1, d2, eg, et, outs_normal]
   subst hQ
   rw [o1]
   refine ⟨A, ?_⟩
   simp -implicitDefEqProofs (maxSteps := 5000000) only [go_sem, Nat.reduceShiftRight, Nat.reduceAnd, Nat.reduceBNe, Int.reduceEq, Nat.reduceAdd, Nat.reduceSub, Nat.reduceMul, Nat.reduceLeDiff, reduceIte, reduceCtorEq, Nat.reduceBEq, Nat.reduceEqDiff]
  have G := good_iff.1 hg2
  have l0 := oneL (A.bs bc) (pt.adds A) ft cq (fun p hp => by have := (G.rng p hp).1; omega) (k := s.tb.length) (i := 0) (K := K)
  rw [show ((0 : Nat) : Int) = 0 from rfl, List.drop_zero] at l0
  simp -implicitDefEqProofs (maxSteps := 5000000) only [go_sem, Nat.reduceShiftRight, Nat.reduceAnd, Nat.reduceBNe, Int.reduceEq, Nat.reduceAdd, Nat.reduceSub, Nat.reduceMul, Nat.reduceLeDiff, reduceIte, reduceCtorEq, Nat.reduceBEq, Nat.reduceEqDiff, wrap64, runC_loop, runC_range, callF_fn, callV_fn, callV_yld, yield_eq, yieldBody, yieldRaw, roundMid, roundEnd, rangeEnd, Bool.not_not, put_cons, put_nil, trim_same, at_zero, at_add, set_zero, set_add, store_one, write_zero, write_add, write_head, write_succ, splice_one, splice_more, List.drop_nil, List.take_nil, cell_int, cell_bool, fillS, splice_one, idxA, Ex.isNormal, List.set_nil, List.length_set, List.all_cons, List.all_nil, Bool.and_self, and_self, true_and, and_true, List.getElem?_nil, Int.reduceLT, Int.reduceLE, Int.reduceToNat, Int.toNat_zero, Int.toNat_one, Int.reduceAdd, Int.reduceSub, Int.reduceMul, Int.reduceNeg, Int.reduceBEq, Int.reduceBNe, Int.reduceGE, Int.reduceGT, Nat.reduceLT, trim_keep, under_fn, under_ptr, under_sl, Nat.lt_irrefl, not_lt_add, trim_tail, keepOk, ABlk.vals, Int.cast_ofNat_Int, decide_true, decide_false, List.all_cons, List.all_nil, Nat.zero_mul, Nat.mul_one, Nat.one_mul, runC_loop, cellsA_agg, cc.2, ct.2, hK, cq, d1, d2, eg, et, wt]
  unfold LP1 at l0
  generalize (envL prog).loop (runC (envL prog) (l34x0 (envL prog))) = L0 at l0 ⊢
  refine outs_ctx (fun r => seqR (blockR 0 r) _) (l0 _ _ _ _ _ _ _ _ _ _ _ _ _ _ _ _ _ _ _ _ _ _ _ _ _ _ _ _ _ _ _ _ _ _ _ _ _ _ _ _ _ _ _ _ _ _ _ _ _ _ _ _ _ (Adds.refl K) (by omega)) ?_
  rintro e t K2 ⟨a2, fv, rfl, ⟨rfl, ho⟩ | ⟨rfl, f8, ho⟩⟩
  ·rw [ho] at o1
   have cq2 := a2.cells cq
   have ec := Bt.countC ((A.trans a2).bs bc) ft.u8 (by have := ft.lc; omega)
   cases last with
   | true =>
    simp -implicitDefEqProofs (maxSteps := 5000000) only [go_sem, Nat.reduceShiftRight, Nat.reduceAnd, Nat.reduceBNe, Int.reduceEq, Nat.reduceAdd, Nat.reduceSub, Nat.reduceMul, Nat.reduceLeDiff, reduceIte, reduceCtorEq, Nat.reduceBEq, Nat.reduceEqDiff, wrap64, runC_loop, runC_range, callF_fn, callV_fn, callV_yld, yield_eq, yieldBody, yieldRaw, roundMid, roundEnd, rangeEnd, Bool.not_not, put_cons, put_nil, trim_same, at_zero, at_add, set_zero, set_add, store_one, write_zero, write_add, write_head, write_succ, splice_one, splice_more, List.drop_nil, List.take_nil, cell_int, cell_bool, fillS, splice_one, idxA, Ex.isNormal, List.set_nil, List.length_set, List.all_cons, List.all_nil, Bool.and_self, and_self, true_and, and_true, List.getElem?_nil, Int.reduceLT, Int.reduceLE, Int.reduceToNat, Int.toNat_zero, Int.toNat_one, Int.reduceAdd, Int.reduceSub, Int.reduceMul, Int.reduceNeg, Int.reduceBEq, Int.reduceBNe, Int.reduceGE, Int.reduceGT, Nat.reduceLT, trim_keep, under_fn, under_ptr, under_sl, Nat.lt_irrefl, not_lt_add, trim_tail, keepOk, ABlk.vals, Int.cast_ofNat_Int, decide_true, decide_false, List.all_cons, List.all_nil, Nat.zero_mul, Nat.mul_one, Nat.one_mul, outs_normal]
    subst hQ
    rw [o1]
    refine ⟨A.trans a2, ?_⟩
    simp -implicitDefEqProofs (maxSteps := 5000000) only [go_sem, Nat.reduceShiftRight, Nat.reduceAnd, Nat.reduceBNe, Int.reduceEq, Nat.reduceAdd, Nat.reduceSub, Nat.reduceMul, Nat.reduceLeDiff, reduceIte, reduceCtorEq, Nat.reduceBEq, Nat.reduceEqDiff]
   | false =>
    obtain ⟨x, hx⟩ : ∃ x, ((s.tb.length : Int) == Bt.sumO s.ch) = x := ⟨_, rfl⟩
    rw [hx] at o1
    simp -implicitDefEqProofs (maxSteps := 5000000) only [go_sem, Nat.reduceShiftRight, Nat.reduceAnd, Nat.reduceBNe, Int.reduceEq, Nat.reduceAdd, Nat.reduceSub, Nat.reduceMul, Nat.reduceLeDiff, reduceIte, reduceCtorEq, Nat.reduceBEq, Nat.reduceEqDiff, wrap64, runC_loop, runC_range, callF_fn, callV_fn, callV_yld, yield_eq, yieldBody, yieldRaw, roundMid, roundEnd, rangeEnd, Bool.not_not, put_cons, put_nil, trim_same, at_zero, at_add, set_zero, set_add, store_one, write_zero, write_add, write_head, write_succ, splice_one, splice_more, List.drop_nil, List.take_nil, cell_int, cell_bool, fillS, splice_one, idxA, Ex.isNormal, List.set_nil, List.length_set, List.all_cons, List.all_nil, Bool.and_self, and_self, true_and, and_true, List.getElem?_nil, Int.reduceLT, Int.reduceLE, Int.reduceToNat, Int.toNat_zero, Int.toNat_one, Int.reduceAdd, Int.reduceSub, Int.reduceMul, Int.reduceNeg, Int.reduceBEq, Int.reduceBNe, Int.reduceGE, Int.reduceGT, Nat.reduceLT, trim_keep, under_fn, under_ptr, under_sl, Nat.lt_irrefl, not_lt_add, trim_tail, keepOk, ABlk.vals, Int.cast_ofNat_Int, decide_true, decide_false, List.all_cons, List.all_nil, Nat.zero_mul, Nat.mul_one, Nat.one_mul, cq2, wt, ec, hx, outs_normal]
    subst hQ
    rw [o1]
    refine ⟨A.trans a2, ?_⟩
    simp -implicitDefEqProofs (maxSteps := 5000000) only [go_sem, Nat.reduceShiftRight, Nat.reduceAnd, Nat.reduceBNe, Int.reduceEq, Nat.reduceAdd, Nat.reduceSub, Nat.reduceMul, Nat.reduceLeDiff, reduceIte, reduceCtorEq, Nat.reduceBEq, Nat.reduceEqDiff]
  ·rw [ho] at o1
   simp -implicitDefEqProofs (maxSteps := 5000000) only [go_sem, Nat.reduceShiftRight, Nat.reduceAnd, Nat.reduceBNe, Int.reduceEq, Nat.reduceAdd, Nat.reduceSub, Nat.reduceMul, Nat.reduceLeDiff, reduceIte, reduceCtorEq, Nat.reduceBEq, Nat.reduceEqDiff, wrap64, runC_loop, runC_range, callF_fn, callV_fn, callV_yld, yield_eq, yieldBody, yieldRaw, roundMid, roundEnd, rangeEnd, Bool.not_not, put_cons, put_nil, trim_same, at_zero, at_add, set_zero, set_add, store_one, write_zero, write_add, write_head, write_succ, splice_one, splice_more, List.drop_nil, List.take_nil, cell_int, cell_bool, fillS, splice_one, idxA, Ex.isNormal, List.set_nil, List.length_set, List.all_cons, List.all_nil, Bool.and_self, and_self, true_and, and_true, List.getElem?_nil, Int.reduceLT, Int.reduceLE, Int.reduceToNat, Int.toNat_zero, Int.toNat_one, Int.reduceAdd, Int.reduceSub, Int.reduceMul, Int.reduceNeg, Int.reduceBEq, Int.reduceBNe, Int.reduceGE, Int.reduceGT, Nat.reduceLT, trim_keep, under_fn, under_ptr, under_sl, Nat.lt_irrefl, not_lt_add, trim_tail, keepOk, ABlk.vals, Int.cast_ofNat_Int, decide_true, decide_false, List.all_cons, List.all_nil, Nat.zero_mul, Nat.mul_one, Nat.one_mul, outs_normal]
   subst hQ
   rw [o1]
   refine ⟨A.trans a2, ?_⟩
   simp -implicitDefEqProofs (maxSteps := 5000000) only [go_sem, Nat.reduceShiftRight, Nat.reduceAnd, Nat.reduceBNe, Int.reduceEq, Nat.reduceAdd, Nat.reduceSub, Nat.reduceMul, Nat.reduceLeDiff, reduceIte, reduceCtorEq, Nat.reduceBEq, Nat.reduceEqDiff, f8]
 obtain ⟨e', t, K', hr, aK, hf⟩ := key
 rw [c34, hr, hf]; exact aK.trimS rfl
end
end Go.Proofs.Ythhodjcgcgkaaaa.G11
end
section
namespace Go.Proofs.Ythhodjcgcgkaaaa.G11
open Go Go.Proofs.Ythhodjcgcgkaaaa.Eng
def atsF : List PrS → List Int → Bool
 | [], _ => true
 | p :: l, ats => !ats.contains p.2 && atsF l (ats ++ [p.2])
def pvOk (pv : Option Int) (id : Int) : Bool := match pv with | none => true | some q => decide (q < id)
def cgoodF (bl ar : Int) : List SnS → Option Int → List Int → Bool
 | [], _, _ => true
 | s :: L, pv, ats => oneS s bl ar L.isEmpty && (pvOk pv s.id && (atsF s.tb ats && cgoodF bl ar L (some s.id) (ats ++ s.tb.map (·.2))))
def cgood (L : List SnS) (bl ar : Int) : Bool := decide (L.length ≤ 8) && cgoodF bl ar L none []
def pvAt (L : List SnS) (i : Nat) : Option Int := if i = 0 then none else (L[i - 1]?).map (·.id)
noncomputable abbrev GooL (s : LoopState) (e : Ex) (t : T) : ABlk := .loop ⟨s, e, t, [17, 18], kaq14x0, kbq14x0⟩
structure GooY (H : AHeap) (v : AV) (bl ar : Int) (ats : List Int) (s : LoopState) (e : Ex) (t : T) (w : AV) (K : AHeap) : Prop where
 old : ∀ b, b < H.length → K[b]? = H[b]?
 len : H.length + 8 ≤ K.length
 vb : K[H.length]? = some (.rw [v])
 bb : K[H.length + 1]? = some (.rw [.int .i64 bl])
 ab : K[H.length + 2]? = some (.rw [.int .i64 ar])
 rb : K[H.length + 3]? = some (.rw [.bool false])
 wb : K[H.length + 4]? = some (.rw [w])
 lb : K[H.length + 5]? = some (.rw [v])
 lp : K[H.length + 7]? = some (GooL s e t)
 fs : FS K (H.length + 8) w ats
theorem GooY.step {H K K' : AHeap} {v : AV} {bl ar : Int} {ats ats' : List Int} {s s' : LoopState} {e e' : Ex} {t : T} {w w' : AV} (y : GooY H v bl ar ats s e t w K) (a : ∀ b, b < H.length + 8 → b ≠ H.length + 4 → b ≠ H.length + 6 → b ≠ H.length + 7 → K'[b]? = K[b]?) (l : H.length + 8 ≤ K'.length) (wb : K'[H.length + 4]? = some (.rw [w'])) (lp : K'[H.length + 7]? = some (GooL s' e' t)) (fs : FS K' (H.length + 8) w' ats') : GooY H v bl ar ats' s' e' t w' K' :=
 ⟨fun b hb => by rw [a b (by omega) (by omega) (by omega) (by omega)]; exact y.old b hb, l, by rw [a _ (by omega) (by omega) (by omega) (by omega)]; exact y.vb, by rw [a _ (by omega) (by omega) (by omega) (by omega)]; exact y.bb, by rw [a _ (by omega) (by omega) (by omega) (by omega)]; exact y.ab, by rw [a _ (by omega) (by omega) (by omega) (by omega)]; exact y.rb, wb, by rw [a _ (by omega) (by omega) (by omega) (by omega)]; exact y.lb, lp, fs⟩
structure GooP (H : AHeap) (v : AV) (L : List SnS) (bl ar : Int) (ans : Bool) (t : T) (i : Nat) (K : AHeap) : Prop where
 ex : ∃ w ats, GooY H v bl ar ats .ready .normal t w K ∧ ans = cgoodF bl ar (L.drop i) (pvAt L i) ats ∧ ats.length ≤ 1000 * i
 ib : K[H.length + 6]? = some (.rw [.int .i64 (i : Int)])
theorem FS.out {K : AHeap} {B : Nat} {v : AV} {zs : List Int} (g : FS K B v zs) : ∀ b, slb v = some b → B ≤ b ∧ b < K.length := GR.out g
theorem FS.frT {K K' : AHeap} {F : Nat → Prop} {B : Nat} {v : AV} {zs : List Int} (g : FS K B v zs) (a : Fr K K' F) (n : ∀ b, slb v = some b → ¬ F b) : FS K' B v zs := GR.frS g a n
section
variable {H : AHeap} {v : AV} {bl ar : Int} {s : SnS} {vt : AV} (pt : IsP H vt s.tb) (ft : s.Fit)
include pt ft
set_option maxHeartbeats 8000000 in
theorem gooL {t0 : T} {i0 : Int} : ∀ (k i : Nat) (K : AHeap) (w : AV) (ats : List Int) (t : T), t.length = 61 → getT t 6 = .ptr (H.length + 3) 0 → getT t 7 = .ptr (H.length + 4) 0 → getT t 45 = vt → getT t 46 = .int .i64 (s.tb.length : Int) → getT t 47 = .int .i64 (i : Int) →
  GooY H v bl ar ats .busy .normal t0 w K → K[H.length + 6]? = some (.rw [.int .i64 i0]) → ats.length ≤ 10000 + i → i + k = s.tb.length →
  Outs (LP1 l14x0 t K) fun e t' K' => K'[H.length + 6]? = some (.rw [.int .i64 i0]) ∧ K.length ≤ K'.length ∧ ∃ w' ats', GooY H v bl ar ats' .busy .normal t0 w' K' ∧ ((e = .exit 2 ∧ atsF (s.tb.drop i) ats = true ∧ ats' = ats ++ (s.tb.drop i).map (·.2)) ∨ (e = .ret ∧ atsF (s.tb.drop i) ats = false)) := by
 intro k
 obtain ⟨L0, hL0⟩ : ∃ L, L = LP1 l14x0 := ⟨_, rfl⟩
 have lo := loop_open hL0
 have lt1 := ft.lt
 rw [← hL0]
 induction k with
 | zero =>
  intro i K w ats t ht t6 t7 t45 t46 t47 y ib al hi
  obtain rfl : i = s.tb.length := by omega
  have hd : decide ((s.tb.length : Int) < (s.tb.length : Int)) = false := by simp
  rw [lo, List.drop_length]
  unfold l14x0
  simp -implicitDefEqProofs (maxSteps := 5000000) only [go_sem, Nat.reduceShiftRight, Nat.reduceAnd, Nat.reduceBNe, Int.reduceEq, Nat.reduceAdd, Nat.reduceSub, Nat.reduceMul, Nat.reduceLeDiff, reduceIte, reduceCtorEq, Nat.reduceBEq, Nat.reduceEqDiff, getT_set, ht, t45, t46, t47, List.length_set, Nat.reduceLT, hd, seqR_exit', outs_normal]
  exact ⟨ib, w, ats, y, .inl ⟨rfl, by simp⟩⟩
 | succ k ih =>
  intro i K w ats t ht t6 t7 t45 t46 t47 y ib al hi
  have hlt : i < s.tb.length := by omega
  have hd : decide ((i : Int) < (s.tb.length : Int)) = true := decide_eq_true (by omega)
  have e2 : IntKind.i64.wrap ((i : Int) + 1) = ((i + 1 : Nat) : Int) := by rw [wrap64 (by omega) (by omega)]; omega
  have hx := List.getElem?_eq_getElem hlt
  rw [List.drop_eq_getElem_cons hlt, atsF, List.map_cons]
  generalize s.tb[i] = p at *
  have aK : Adds H K := Adds.of_get (by have := y.len; omega) y.old
  have kl := y.len
  obtain ⟨bb, cs, sb, ix, hc0, h1, h2, hh, hle⟩ := pt.idx hx
  have hc := aK.cells hc0
  unfold prC at hh
  obtain ⟨K1, hK1⟩ : ∃ K1, K1 = K ++ [ABlk.rw [.int .i64 p.1, .int .i64 p.2]] := ⟨_, rfl⟩
  have A1 : Adds K K1 := ⟨_, hK1⟩
  have l1 : K1.length = K.length + 1 := by rw [hK1]; simp
  have cp : cellsOf K1 K.length = some [.int .i64 p.1, .int .i64 p.2] := by rw [hK1]; unfold cellsOf; simp
  have w1 := A1.at y.wb
  have cw := cells_rw w1
  have f1 : FS K1 (H.length + 8) w ats := y.fs.frT (Fr.adds A1 (fun _ => False)) fun _ _ h => h
  have ec := containsC f1 (by omega) p.2
  have hK1 := hK1.symm
  have key := ih (i + 1)
  have at1 : ∀ z, z < K.length → K1[z]? = K[z]? := fun z hz => by rw [← hK1, List.getElem?_append_left hz]
  rcases hh2 : ats.contains p.2 with _ | _
  ·rw [hh2] at ec
   obtain ⟨K2, hK2⟩ : ∃ K2, K2 = K1 ++ [ABlk.rw [.int .i64 p.2]] := ⟨_, rfl⟩
   have A2 : Adds K1 K2 := ⟨_, hK2⟩
   have l2 : K2.length = K1.length + 1 := by rw [hK2]; simp
   have c2 : cellsOf K2 K1.length = some [.int .i64 p.2] := by rw [hK2]; unfold cellsOf; simp
   obtain ⟨w', K3, ep, f3, fr3, sb3, l3⟩ := FS.push (f1.frT (Fr.adds A2 (fun _ => False)) fun _ _ h => h) c2 (by omega) (by omega)
   have wg := f1.out
   have at3 : ∀ z, z < H.length + 8 → K3[z]? = K[z]? := fun z hz => by
    rw [fr3.2 z (by omega) (fun h => by have := (wg z h).1; omega), hK2, List.getElem?_append_left (by omega), at1 z (by omega)]
   have w3 : K3[H.length + 4]? = some (.rw [w]) := by rw [at3 _ (by omega)]; exact y.wb
   have cw' : cellsA w' = some [w'] ∧ w'.isCell = true := by
    rcases f3 with ⟨_, rfl⟩ | ⟨_, _, _, rfl, _⟩ <;> exact ⟨rfl, rfl⟩
   have wr := write_one (y := w') w3 cw'.2
   obtain ⟨K4, hK4⟩ : ∃ K4, K4 = K3.set (H.length + 4) (ABlk.rw [w']) := ⟨_, rfl⟩
   rw [← hK4] at wr
   have at4 : ∀ z, z < H.length + 8 → z ≠ H.length + 4 → K4[z]? = K[z]? := fun z hz h4 => by rw [hK4, at_set_ne _ _ _ _ h4]; exact at3 z hz
   have l4 : K4.length = K.length + 3 := by rw [hK4, List.length_set, l3]; omega
   have y4 : GooY H v bl ar (ats ++ [p.2]) .busy .normal t0 w' K4 := y.step (fun z hz h4 _ _ => at4 z hz h4) (by omega) (by rw [hK4]; exact at_set _ _ _ (by omega)) (by rw [at4 _ (by omega) (by omega)]; exact y.lp) (f3.frT (by rw [hK4]; exact Fr.set _ _ (F := fun z => z = H.length + 4) rfl) fun z hz h => by have := (FS.out f3 z hz).1; omega)
   have hK2 := hK2.symm
   have cwK2 := cells_rw (A2.at w1)
   have cp2 := A2.cells cp
   rw [lo]
   unfold l14x0
   simp -implicitDefEqProofs (maxSteps := 5000000) only [go_sem, Nat.reduceShiftRight, Nat.reduceAnd, Nat.reduceBNe, Int.reduceEq, Nat.reduceAdd, Nat.reduceSub, Nat.reduceMul, Nat.reduceLeDiff, reduceIte, reduceCtorEq, Nat.reduceBEq, Nat.reduceEqDiff, wrap64, runC_loop, runC_range, callF_fn, callV_fn, callV_yld, yield_eq, yieldBody, yieldRaw, roundMid, roundEnd, rangeEnd, Bool.not_not, put_cons, put_nil, trim_same, at_zero, at_add, set_zero, set_add, store_one, write_zero, write_add, write_head, write_succ, splice_one, splice_more, List.drop_nil, List.take_nil, cell_int, cell_bool, fillS, splice_one, idxA, Ex.isNormal, List.set_nil, List.length_set, List.all_cons, List.all_nil, Bool.and_self, and_self, true_and, and_true, List.getElem?_nil, Int.reduceLT, Int.reduceLE, Int.reduceToNat, Int.toNat_zero, Int.toNat_one, Int.reduceAdd, Int.reduceSub, Int.reduceMul, Int.reduceNeg, Int.reduceBEq, Int.reduceBNe, Int.reduceGE, Int.reduceGT, Nat.reduceLT, trim_keep, under_fn, under_ptr, under_sl, Nat.lt_irrefl, not_lt_add, trim_tail, keepOk, ABlk.vals, Int.cast_ofNat_Int, decide_true, decide_false, List.all_cons, List.all_nil, Nat.zero_mul, Nat.mul_one, Nat.one_mul, getT_set, ht, t6, t7, t45, t46, t47, List.length_set, Nat.reduceLT, hd, ix, hc, hh, hle, hK1, cw, cp, ec, hK2, ep, cw'.1, wr, e2]
   refine Outs.mono (key K4 w' (ats ++ [p.2]) _ (by simp [ht]) (by simp [getT_set, ht, t6]) (by simp [getT_set, ht, t7]) (by simp [getT_set, ht, t45]) (by simp [getT_set, ht, t46]) (by simp [getT_set, ht]) y4 (by rw [at4 _ (by omega) (by omega)]; exact ib) (by rw [List.length_append, List.length_singleton]; omega) (by omega)) fun e t' K' ⟨q1, q2, w2, ats2, q3, q4⟩ => ⟨q1, by omega, w2, ats2, q3, ?_⟩
   rcases q4 with ⟨rfl, q4, q5⟩ | ⟨rfl, q4⟩
   ·exact .inl ⟨rfl, q4, by rw [q5, List.append_assoc]; rfl⟩
   ·exact .inr ⟨rfl, q4⟩
  ·rw [hh2] at ec
   have r1 := A1.at y.rb
   have wr := write_one (y := .bool false) r1 rfl
   obtain ⟨K4, hK4⟩ : ∃ K4, K4 = K1.set (H.length + 3) (ABlk.rw [.bool false]) := ⟨_, rfl⟩
   rw [← hK4] at wr
   have at4 : ∀ z, z < K.length → K4[z]? = K[z]? := fun z hz => by
    rw [hK4]
    by_cases h3 : z = H.length + 3
    ·subst h3; rw [at_set _ _ _ (by omega)]; exact y.rb.symm
    ·rw [at_set_ne _ _ _ _ h3]; exact at1 z hz
   have l4 : K4.length = K.length + 1 := by rw [hK4, List.length_set, l1]
   have a4 : Adds K K4 := Adds.of_get (by omega) at4
   have y4 : GooY H v bl ar ats .busy .normal t0 w K4 := y.step (fun z hz _ _ _ => at4 z (by omega)) (by omega) (by rw [at4 _ (by omega)]; exact y.wb) (by rw [at4 _ (by omega)]; exact y.lp) (y.fs.frT (Fr.adds a4 (fun _ => False)) fun _ _ h => h)
   rw [lo]
   unfold l14x0
   simp -implicitDefEqProofs (maxSteps := 5000000) only [go_sem, Nat.reduceShiftRight, Nat.reduceAnd, Nat.reduceBNe, Int.reduceEq, Nat.reduceAdd, Nat.reduceSub, Nat.reduceMul, Nat.reduceLeDiff, reduceIte, reduceCtorEq, Nat.reduceBEq, Nat.reduceEqDiff, wrap64, runC_loop, runC_range, callF_fn, callV_fn, callV_yld, yield_eq, yieldBody, yieldRaw, roundMid, roundEnd, rangeEnd, Bool.not_not, put_cons, put_nil, trim_same, at_zero, at_add, set_zero, set_add, store_one, write_zero, write_add, write_head, write_succ, splice_one, splice_more, List.drop_nil, List.take_nil, cell_int, cell_bool, fillS, splice_one, idxA, Ex.isNormal, List.set_nil, List.length_set, List.all_cons, List.all_nil, Bool.and_self, and_self, true_and, and_true, List.getElem?_nil, Int.reduceLT, Int.reduceLE, Int.reduceToNat, Int.toNat_zero, Int.toNat_one, Int.reduceAdd, Int.reduceSub, Int.reduceMul, Int.reduceNeg, Int.reduceBEq, Int.reduceBNe, Int.reduceGE, Int.reduceGT, Nat.reduceLT, trim_keep, under_fn, under_ptr, under_sl, Nat.lt_irrefl, not_lt_add, trim_tail, keepOk, ABlk.vals, Int.cast_ofNat_Int, decide_true, decide_false, List.all_cons, List.all_nil, Nat.zero_mul, Nat.mul_one, Nat.one_mul, getT_set, ht, t6, t7, t45, t46, t47, List.length_set, Nat.reduceLT, hd, ix, hc, hh, hle, hK1, cw, cp, ec, wr, outs_normal]
   exact ⟨by rw [at4 _ (by omega)]; exact ib, by omega, w, ats, y4, .inr trivial⟩
end
theorem pvAt_succ {L : List SnS} {i : Nat} {s : SnS} (h : L[i]? = some s) : pvAt L (i + 1) = some s.id := by
 unfold pvAt; rw [if_neg (by omega), Nat.add_sub_cancel, h]; rfl
section
variable {H : AHeap} {v : AV} {L : List SnS} (g : IsC H v L) (fi : Fits L) (h8 : L.length ≤ 8) {bl : Int} (hbl : bl ≤ 9223372036854775807) (ar : Int)
include g fi h8 hbl
set_option maxHeartbeats 8000000 in
theorem gooRound {ans : Bool} {t : T} (ht : t.length = 61) (t3 : getT t 3 = .ptr H.length 0) (t4 : getT t 4 = .ptr (H.length + 1) 0) (t5 : getT t 5 = .ptr (H.length + 2) 0) (t6 : getT t 6 = .ptr (H.length + 3) 0) (t7 : getT t 7 = .ptr (H.length + 4) 0) {i : Nat} {K : AHeap} {s : SnS} {vc vt : AV} (y : GooP H v L bl ar ans t i K) (hx : L[i]? = some s) (hbs : BS H vc s.ch) (hip : IsP H vt s.tb) :
  ∃ K', ((envL prog).yield (H.length + 7) [.int .i64 (i : Int), .agg [.int .i64 s.id, vc, vt]] K = some (.bool true, K') ∧ K'[H.length + 6]? = some (.rw [.int .i64 (i : Int)]) ∧ GooP H v L bl ar ans t (i + 1) (K'.set (H.length + 6) (.rw [.int .i64 ((i + 1 : Nat) : Int)]))) ∨ ((envL prog).yield (H.length + 7) [.int .i64 (i : Int), .agg [.int .i64 s.id, vc, vt]] K = some (.bool false, K') ∧ ans = false ∧ ∃ w ats, GooY H v bl ar ats .done .ret t w K') := by
 obtain ⟨⟨w, ats, y, inv, al⟩, ib⟩ := y
 have kl := y.len
 have ft := fits_get fi hx
 have lt := (List.getElem?_eq_some_iff.1 hx).1
 rw [List.drop_eq_getElem_cons lt, Option.some.inj ((List.getElem?_eq_getElem lt).symm.trans hx), cgoodF] at inv
 have aK : Adds H K := Adds.of_get (by omega) y.old
 have bK := aK.bs hbs
 have pK := hip.adds aK
 have w0 := snAlloc bK pK
 obtain ⟨Kb, hKb⟩ : ∃ Kb, Kb = (K ++ [ABlk.rw [.int .i64 s.id, vc, vt]]).set (H.length + 7) (GooL .busy .normal t) := ⟨_, rfl⟩
 have lb : Kb.length = K.length + 1 := by rw [hKb]; exact busy_len
 have fb : ∀ b, b < K.length → b ≠ H.length + 7 → Kb[b]? = K[b]? := fun b hb hn => by rw [hKb]; exact busy_at hb hn
 have b6 : Kb[K.length]? = some (.rw [.int .i64 s.id, vc, vt]) := by rw [hKb]; exact busy_new (by omega)
 have frb : Fr K Kb (fun b => b = H.length + 7) := by rw [hKb]; exact busy_fr
 have yb : GooY H v bl ar ats .busy .normal t w Kb := y.step (fun b hb _ _ h7 => fb b (by omega) h7) (by omega) (by rw [fb _ (by omega) (by omega)]; exact y.wb) (by rw [hKb]; exact busy_lp (by omega)) (y.fs.frT frb fun z hz h => by have := (FS.out y.fs z hz).1; omega)
 have ib2 : Kb[H.length + 6]? = some (.rw [.int .i64 (i : Int)]) := by rw [fb _ (by omega) (by omega)]; exact ib
 have aKb : Adds H Kb := Adds.of_get (by omega) yb.old
 have c6 := cells_rw b6
 have c3 := cells_rw yb.vb
 have c4 := cells_rw yb.bb
 have c5 := cells_rw yb.ab
 have wl := g.len
 have e1 : IntKind.i64.wrap ((L.length : Int) - 1) = (L.length : Int) - 1 := wrap64 (by omega) (by omega)
 have hlast : ((i : Int) == (L.length : Int) - 1) = (L.drop (i + 1)).isEmpty := by
  by_cases h : i + 1 = L.length
  ·rw [List.drop_eq_nil_of_le (by omega), show (L.length : Int) - 1 = (i : Int) by omega]; simp
  ·have : (L.drop (i + 1)).isEmpty = false := by
    cases hq : L.drop (i + 1) with
    | nil => have := congrArg List.length hq; rw [List.length_drop] at this; simp at this; omega
    | cons _ _ => rfl
   rw [this, beq_eq_false_iff_ne]; omega
 have eo := oneC (aKb.bs hbs) (hip.adds aKb) ft hbl ar (L.drop (i + 1)).isEmpty
 have r1 := yb.rb
 have wr := write_one (y := .bool false) r1 rfl
 have Kbs : Kb.set (H.length + 3) (.rw [.bool false]) = Kb := by
  apply List.ext_getElem?
  intro z
  by_cases h3 : z = H.length + 3
  ·subst h3; rw [at_set _ _ _ (by omega)]; exact r1.symm
  ·rw [at_set_ne _ _ _ _ h3]
 rw [Kbs] at wr
 have wt := hip.len
 have il : IntKind.i64.wrap ((i : Int) - 1) = (i : Int) - 1 := wrap64 (by omega) (by omega)
 obtain ⟨e, K2, K4, r, ey, h4⟩ := round_gen (P := prog) (l := H.length + 7) (args := [.int .i64 (i : Int), .agg [.int .i64 s.id, vc, vt]]) (K := K) (eaq14x0 _) (ebq14x0 _) y.lp rfl (t1 := (((t.set 17 (.int .i64 (i : Int))).set 18 (.agg [.int .i64 s.id, vc, vt])).set 8 (.int .i64 (i : Int))).set 9 (.ptr K.length 0)) (cs := [.int .i64 s.id, vc, vt]) (by
   unfold aq14x0
   simp -implicitDefEqProofs (maxSteps := 5000000) only [go_sem, Nat.reduceShiftRight, Nat.reduceAnd, Nat.reduceBNe, Int.reduceEq, Nat.reduceAdd, Nat.reduceSub, Nat.reduceMul, Nat.reduceLeDiff, reduceIte, reduceCtorEq, Nat.reduceBEq, Nat.reduceEqDiff, putParams, getT_set, ht, List.length_set, Nat.reduceLT, store_one, cellsA_agg, w0])
  (R := fun e K2 => K2[H.length + 6]? = some (.rw [.int .i64 (i : Int)]) ∧ K.length + 1 ≤ K2.length ∧ ∃ w' ats', GooY H v bl ar ats' .busy .normal t w' K2 ∧ ((e = .normal ∧ ans = cgoodF bl ar (L.drop (i + 1)) (some s.id) ats' ∧ ats' = ats ++ s.tb.map (·.2)) ∨ (e = .ret ∧ ans = false))) (by
   rw [← hKb]
   unfold bq14x0
   generalize hR : (fun (e : Ex) (_ : T) (K2 : AHeap) => K2[H.length + 6]? = some (ABlk.rw [AV.int .i64 (i : Int)]) ∧ K.length + 1 ≤ K2.length ∧ ∃ w' ats', GooY H v bl ar ats' .busy .normal t w' K2 ∧ ((e = .normal ∧ ans = cgoodF bl ar (L.drop (i + 1)) (some s.id) ats' ∧ ats' = ats ++ s.tb.map (·.2)) ∨ (e = .ret ∧ ans = false))) = Q
   have stay : ans = false → Q .ret [] Kb := fun h => by rw [← hR]; exact ⟨ib2, by omega, w, ats, yb, .inr ⟨rfl, h⟩⟩
   rcases h1 : oneS s bl ar (L.drop (i + 1)).isEmpty with _ | _
   ·rw [h1] at eo inv
    simp -implicitDefEqProofs (maxSteps := 5000000) only [go_sem, Nat.reduceShiftRight, Nat.reduceAnd, Nat.reduceBNe, Int.reduceEq, Nat.reduceAdd, Nat.reduceSub, Nat.reduceMul, Nat.reduceLeDiff, reduceIte, reduceCtorEq, Nat.reduceBEq, Nat.reduceEqDiff, wrap64, runC_loop, runC_range, callF_fn, callV_fn, callV_yld, yield_eq, yieldBody, yieldRaw, roundMid, roundEnd, rangeEnd, Bool.not_not, put_cons, put_nil, trim_same, at_zero, at_add, set_zero, set_add, store_one, write_zero, write_add, write_head, write_succ, splice_one, splice_more, List.drop_nil, List.take_nil, cell_int, cell_bool, fillS, splice_one, idxA, Ex.isNormal, List.set_nil, List.length_set, List.all_cons, List.all_nil, Bool.and_self, and_self, true_and, and_true, List.getElem?_nil, Int.reduceLT, Int.reduceLE, Int.reduceToNat, Int.toNat_zero, Int.toNat_one, Int.reduceAdd, Int.reduceSub, Int.reduceMul, Int.reduceNeg, Int.reduceBEq, Int.reduceBNe, Int.reduceGE, Int.reduceGT, Nat.reduceLT, trim_keep, under_fn, under_ptr, under_sl, Nat.lt_irrefl, not_lt_add, trim_tail, keepOk, ABlk.vals, Int.cast_ofNat_Int, decide_true, decide_false, List.all_cons, List.all_nil, Nat.zero_mul, Nat.mul_one, Nat.one_mul, getT_set, ht, t3, t4, t5, t6, t7, List.length_set, Nat.reduceLT, c3, c4, c5, c6, wl, e1, hlast, eo, wr, outs_normal]
    have := stay inv
    rw [← hR] at this ⊢
    exact this
   rw [h1] at eo inv
   have go : pvOk (pvAt L i) s.id = true → ans = (atsF s.tb ats && cgoodF bl ar (L.drop (i + 1)) (some s.id) (ats ++ s.tb.map (·.2))) := fun h => by rw [inv, h]; rfl
   have loop : ans = (atsF s.tb ats && cgoodF bl ar (L.drop (i + 1)) (some s.id) (ats ++ s.tb.map (·.2))) → ∀ T1 : T, T1.length = 61 → getT T1 6 = .ptr (H.length + 3) 0 → getT T1 7 = .ptr (H.length + 4) 0 → getT T1 45 = vt → getT T1 46 = .int .i64 (s.tb.length : Int) → getT T1 47 = .int .i64 0 → Outs (LP1 l14x0 T1 Kb) fun e t' K' => Q (match e with | .exit 2 => .normal | e => e) t' K' ∧ (e = .exit 2 ∨ e = .ret) := fun hans T1 q0 q1 q2 q3 q4 q5 => by
    refine (gooL hip ft (t0 := t) (i0 := (i : Int)) s.tb.length 0 Kb w ats T1 q0 q1 q2 q3 q4 q5 yb ib2 (by omega) (by omega)).mono fun e t' K' ⟨z1, z2, w', ats', z3, z4⟩ => ?_
    rw [← hR]
    rw [List.drop_zero] at z4
    rcases z4 with ⟨rfl, z4, z5⟩ | ⟨rfl, z4⟩
    ·exact ⟨⟨z1, by omega, w', ats', z3, .inl ⟨rfl, by rw [hans, z4, z5]; rfl, z5⟩⟩, .inl rfl⟩
    ·exact ⟨⟨z1, by omega, w', ats', z3, .inr ⟨rfl, by rw [hans, z4]; rfl⟩⟩, .inr rfl⟩
   cases i with
   | zero =>
    have lp := loop (go rfl)
    have dz : decide ((0 : Int) > 0) = false := rfl
    rw [show ((0 : Nat) : Int) = 0 from rfl] at hlast
    simp -implicitDefEqProofs (maxSteps := 5000000) only [go_sem, Nat.reduceShiftRight, Nat.reduceAnd, Nat.reduceBNe, Int.reduceEq, Nat.reduceAdd, Nat.reduceSub, Nat.reduceMul, Nat.reduceLeDiff, reduceIte, reduceCtorEq, Nat.reduceBEq, Nat.reduceEqDiff, wrap64, runC_loop, runC_range, callF_fn, callV_fn, callV_yld, yield_eq, yieldBody, yieldRaw, roundMid, roundEnd, rangeEnd, Bool.not_not, put_cons, put_nil, trim_same, at_zero, at_add, set_zero, set_add, store_one, write_zero, write_add, write_head, write_succ, splice_one, splice_more, List.drop_nil, List.take_nil, cell_int, cell_bool, fillS, splice_one, idxA, Ex.isNormal, List.set_nil, List.length_set, List.all_cons, List.all_nil, Bool.and_self, and_self, true_and, and_true, List.getElem?_nil, Int.reduceLT, Int.reduceLE, Int.reduceToNat, Int.toNat_zero, Int.toNat_one, Int.reduceAdd, Int.reduceSub, Int.reduceMul, Int.reduceNeg, Int.reduceBEq, Int.reduceBNe, Int.reduceGE, Int.reduceGT, Nat.reduceLT, trim_keep, under_fn, under_ptr, under_sl, Nat.lt_irrefl, not_lt_add, trim_tail, keepOk, ABlk.vals, Int.cast_ofNat_Int, decide_true, decide_false, List.all_cons, List.all_nil, Nat.zero_mul, Nat.mul_one, Nat.one_mul, runC_loop, getT_set, ht, t3, t4, t5, t6, t7, List.length_set, Nat.reduceLT, c3, c4, c5, c6, wl, e1, hlast, eo, dz, wt]
    unfold LP1 at lp
    generalize (envL prog).loop (runC (envL prog) (l14x0 (envL prog))) = LL at lp ⊢
    refine outs_ctx (fun x => blockR 1 (blockR 2 x)) (lp _ (by simp [ht]) (by simp [getT_set, ht, t6]) (by simp [getT_set, ht, t7]) (by simp [getT_set, ht]) (by simp [getT_set, ht]) (by simp [getT_set, ht])) ?_
    rintro e t' K' ⟨q1, rfl | rfl⟩
    ·simp -implicitDefEqProofs (maxSteps := 5000000) only [go_sem, Nat.reduceShiftRight, Nat.reduceAnd, Nat.reduceBNe, Int.reduceEq, Nat.reduceAdd, Nat.reduceSub, Nat.reduceMul, Nat.reduceLeDiff, reduceIte, reduceCtorEq, Nat.reduceBEq, Nat.reduceEqDiff, outs_normal]
     exact q1
    ·simp -implicitDefEqProofs (maxSteps := 5000000) only [go_sem, Nat.reduceShiftRight, Nat.reduceAnd, Nat.reduceBNe, Int.reduceEq, Nat.reduceAdd, Nat.reduceSub, Nat.reduceMul, Nat.reduceLeDiff, reduceIte, reduceCtorEq, Nat.reduceBEq, Nat.reduceEqDiff, outs_normal]
     exact q1
   | succ n =>
    have hn : n < L.length := by omega
    have hy := List.getElem?_eq_getElem hn
    have hpv : pvAt L (n + 1) = some L[n].id := pvAt_succ hy
    obtain ⟨bb, cs, uc, ut, sb, ix, hc0, h1', h2, h3, hh, hle, _⟩ := g.idx hy
    have hc := aKb.cells hc0
    have dz : decide (((n + 1 : Nat) : Int) > 0) = true := decide_eq_true (by omega)
    have il2 : IntKind.i64.wrap (((n + 1 : Nat) : Int) - 1) = (n : Int) := by rw [wrap64 (by omega) (by omega)]; omega
    by_cases hle2 : s.id ≤ L[n].id
    ·have dl := decide_eq_true hle2
     have hpf : pvOk (some L[n].id) s.id = false := decide_eq_false (by omega)
     have ha : ans = false := by rw [inv, hpv, hpf]; rfl
     simp -implicitDefEqProofs (maxSteps := 5000000) only [go_sem, Nat.reduceShiftRight, Nat.reduceAnd, Nat.reduceBNe, Int.reduceEq, Nat.reduceAdd, Nat.reduceSub, Nat.reduceMul, Nat.reduceLeDiff, reduceIte, reduceCtorEq, Nat.reduceBEq, Nat.reduceEqDiff, wrap64, runC_loop, runC_range, callF_fn, callV_fn, callV_yld, yield_eq, yieldBody, yieldRaw, roundMid, roundEnd, rangeEnd, Bool.not_not, put_cons, put_nil, trim_same, at_zero, at_add, set_zero, set_add, store_one, write_zero, write_add, write_head, write_succ, splice_one, splice_more, List.drop_nil, List.take_nil, cell_int, cell_bool, fillS, splice_one, idxA, Ex.isNormal, List.set_nil, List.length_set, List.all_cons, List.all_nil, Bool.and_self, and_self, true_and, and_true, List.getElem?_nil, Int.reduceLT, Int.reduceLE, Int.reduceToNat, Int.toNat_zero, Int.toNat_one, Int.reduceAdd, Int.reduceSub, Int.reduceMul, Int.reduceNeg, Int.reduceBEq, Int.reduceBNe, Int.reduceGE, Int.reduceGT, Nat.reduceLT, trim_keep, under_fn, under_ptr, under_sl, Nat.lt_irrefl, not_lt_add, trim_tail, keepOk, ABlk.vals, Int.cast_ofNat_Int, decide_true, decide_false, List.all_cons, List.all_nil, Nat.zero_mul, Nat.mul_one, Nat.one_mul, getT_set, ht, t3, t4, t5, t6, t7, List.length_set, Nat.reduceLT, c3, c4, c5, c6, wl, e1, hlast, eo, dz, il2, ix, hc, h1', dl, wr, outs_normal]
     have := stay ha
     rw [← hR] at this ⊢
     exact this
    ·have dl := decide_eq_false hle2
     have lp := loop (go (by rw [hpv]; unfold pvOk; exact decide_eq_true (by omega)))
     simp -implicitDefEqProofs (maxSteps := 5000000) only [go_sem, Nat.reduceShiftRight, Nat.reduceAnd, Nat.reduceBNe, Int.reduceEq, Nat.reduceAdd, Nat.reduceSub, Nat.reduceMul, Nat.reduceLeDiff, reduceIte, reduceCtorEq, Nat.reduceBEq, Nat.reduceEqDiff, wrap64, runC_loop, runC_range, callF_fn, callV_fn, callV_yld, yield_eq, yieldBody, yieldRaw, roundMid, roundEnd, rangeEnd, Bool.not_not, put_cons, put_nil, trim_same, at_zero, at_add, set_zero, set_add, store_one, write_zero, write_add, write_head, write_succ, splice_one, splice_more, List.drop_nil, List.take_nil, cell_int, cell_bool, fillS, splice_one, idxA, Ex.isNormal, List.set_nil, List.length_set, List.all_cons, List.all_nil, Bool.and_self, and_self, true_and, and_true, List.getElem?_nil, Int.reduceLT, Int.reduceLE, Int.reduceToNat, Int.toNat_zero, Int.toNat_one, Int.reduceAdd, Int.reduceSub, Int.reduceMul, Int.reduceNeg, Int.reduceBEq, Int.reduceBNe, Int.reduceGE, Int.reduceGT, Nat.reduceLT, trim_keep, under_fn, under_ptr, under_sl, Nat.lt_irrefl, not_lt_add, trim_tail, keepOk, ABlk.vals, Int.cast_ofNat_Int, decide_true, decide_false, List.all_cons, List.all_nil, Nat.zero_mul, Nat.mul_one, Nat.one_mul, runC_loop, getT_set, ht, t3, t4, t5, t6, t7, List.length_set, Nat.reduceLT, c3, c4, c5, c6, wl, e1, hlast, eo, dz, il2, ix, hc, h1', dl, wt]
     unfold LP1 at lp
     generalize (envL prog).loop (runC (envL prog) (l14x0 (envL prog))) = LL at lp ⊢
     refine outs_ctx (fun x => blockR 1 (blockR 2 x)) (lp _ (by simp [ht]) (by simp [getT_set, ht, t6]) (by simp [getT_set, ht, t7]) (by simp [getT_set, ht]) (by simp [getT_set, ht]) (by simp [getT_set, ht])) ?_
     rintro e t' K' ⟨q1, rfl | rfl⟩
     ·simp -implicitDefEqProofs (maxSteps := 5000000) only [go_sem, Nat.reduceShiftRight, Nat.reduceAnd, Nat.reduceBNe, Int.reduceEq, Nat.reduceAdd, Nat.reduceSub, Nat.reduceMul, Nat.reduceLeDiff, reduceIte, reduceCtorEq, Nat.reduceBEq, Nat.reduceEqDiff, outs_normal]
      exact q1
     ·simp -implicitDefEqProofs (maxSteps := 5000000) only [go_sem, Nat.reduceShiftRight, Nat.reduceAnd, Nat.reduceBNe, Int.reduceEq, Nat.reduceAdd, Nat.reduceSub, Nat.reduceMul, Nat.reduceLeDiff, reduceIte, reduceCtorEq, Nat.reduceBEq, Nat.reduceEqDiff, outs_normal]
      exact q1) (by
   rintro e K2 ⟨_, _, w', ats', y', _⟩
   exact y'.lp)
 obtain ⟨i2, l2, w', ats', y', h⟩ := r
 have wlt := fun b hb => (FS.out y.fs b hb).2
 have hK1 : ∀ k, K[H.length + 4]? = some k → ∀ a ∈ k.vals, ∀ x, slb a = some x → x < K.length := fun k hk a ha x hx => by
  rw [y.wb] at hk; injection hk with hk; subst hk
  rw [List.mem_singleton.1 ha] at hx; exact wlt x hx
 have fin : ∀ {st : LoopState}, (K4 = K2.set (H.length + 7) (GooL st e t) ∨ (Trimmable K (.bool e.isNormal) (K2.set (H.length + 7) (GooL st e t)) ∧ K4 = (K2.set (H.length + 7) (GooL st e t)).take K.length)) → GooY H v bl ar ats' st e t w' K4 ∧ K4[H.length + 6]? = some (.rw [.int .i64 (i : Int)]) := fun {st} h4 => by
  have l4 := two_len h4 (by rw [List.length_set]; omega)
  have a4 := fun {z} (hz : z < K.length) => two_at h4 hz
  have f3 : FS (K2.set (H.length + 7) (GooL st e t)) (H.length + 8) w' ats' := y'.fs.frT (Fr.set _ _ (F := fun z => z = H.length + 7) rfl) fun z hz h => by have := (FS.out y'.fs z hz).1; omega
  have f4 : FS K4 (H.length + 8) w' ats' := two_gr h4 f3 (b := H.length + 4) (vs := [w']) (by omega) (by rw [at_set_ne _ _ _ _ (by omega)]; exact y'.wb) (by simp) hK1
  exact ⟨y'.step (fun b hb _ _ h7 => by rw [a4 (by omega), at_set_ne _ _ _ _ h7]) (by omega) (by rw [a4 (by omega), at_set_ne _ _ _ _ (by omega)]; exact y'.wb) (by rw [a4 (by omega), at_set _ _ _ (by omega)]) f4, by rw [a4 (by omega), at_set_ne _ _ _ _ (by omega)]; exact i2⟩
 rcases h with ⟨rfl, ha, he⟩ | ⟨rfl, ha⟩
 ·rw [show Ex.isNormal .normal = true from rfl] at ey h4
  simp only [if_true] at h4
  obtain ⟨y4, i4⟩ := fin h4
  refine ⟨K4, .inl ⟨ey, i4, ⟨⟨w', ats', y4.step (fun b hb _ h6 _ => by rw [at_set_ne _ _ _ _ h6]) (by rw [List.length_set]; exact y4.len) (by rw [at_set_ne _ _ _ _ (by omega)]; exact y4.wb) (by rw [at_set_ne _ _ _ _ (by omega)]; exact y4.lp) (y4.fs.frT (Fr.set _ _ (F := fun z => z = H.length + 6) rfl) fun z hz h => by have := (FS.out y4.fs z hz).1; omega), by rw [pvAt_succ hx]; exact ha, by rw [he, List.length_append, List.length_map]; have := ft.lt; omega⟩, at_set _ _ _ (by have := y4.len; omega)⟩⟩⟩
 ·rw [show Ex.isNormal .ret = false from rfl] at ey h4
  simp only [Bool.false_eq_true, if_false] at h4
  obtain ⟨y4, i4⟩ := fin h4
  exact ⟨K4, .inr ⟨ey, ha, w', ats', y4⟩⟩
end
end Go.Proofs.Ythhodjcgcgkaaaa.G11
end
section
namespace Go.Proofs.Ythhodjcgcgkaaaa.G11
open Go Go.Proofs.Ythhodjcgcgkaaaa.Eng
section
variable {H : AHeap} {v : AV} {L : List SnS} (g : IsC H v L) (fi : Fits L) {bl : Int} (hbl : bl ≤ 9223372036854775807) (ar : Int)
include g fi hbl
set_option maxHeartbeats 4000000 in
theorem gooRange (h8 : L.length ≤ 8) {T : T} (ht : T.length = 61) (t3 : getT T 3 = .ptr H.length 0) (t4 : getT T 4 = .ptr (H.length + 1) 0) (t5 : getT T 5 = .ptr (H.length + 2) 0) (t6 : getT T 6 = .ptr (H.length + 3) 0) (t7 : getT T 7 = .ptr (H.length + 4) 0) (tf : getT T 16 = .fn 52 [.ptr (H.length + 6) 0, .ptr (H.length + 5) 0]) :
  Outs (runC (envL prog) (.range (X 16) [17, 18] kaq14x0 kbq14x0) T (H ++ [ABlk.rw [v], .rw [.int .i64 bl], .rw [.int .i64 ar], .rw [.bool false], .rw [.nilSl], .rw [v], .rw [.int .i64 0]])) fun e t K => t = T ∧ ((e = .normal ∧ cgoodF bl ar L none [] = true) ∨ (e = .ret ∧ cgoodF bl ar L none [] = false)) ∧ ∃ w ats, GooY H v bl ar ats .exhausted e T w K := by
 obtain ⟨G, hG⟩ : ∃ G, G = H ++ [ABlk.rw [v], .rw [.int .i64 bl], .rw [.int .i64 ar], .rw [.bool false], .rw [.nilSl], .rw [v], .rw [.int .i64 0]] := ⟨_, rfl⟩
 obtain ⟨K0, hK0⟩ : ∃ K0, K0 = G ++ [GooL .ready .normal T] := ⟨_, rfl⟩
 have lG : G.length = H.length + 7 := by rw [hG]; simp
 have y0 : GooY H v bl ar [] .ready .normal T .nilSl K0 := ⟨fun z hz => by rw [hK0, hG, List.getElem?_append_left (by simp; omega), List.getElem?_append_left hz], by rw [hK0, List.length_append, lG]; simp, by rw [hK0, hG]; simp, by rw [hK0, hG]; simp, by rw [hK0, hG]; simp, by rw [hK0, hG]; simp, by rw [hK0, hG]; simp, by rw [hK0, hG]; simp, by rw [hK0, ← lG]; simp, .inl ⟨rfl, rfl⟩⟩
 have ib0 : K0[H.length + 6]? = some (.rw [.int .i64 ((0 : Nat) : Int)]) := by rw [hK0, hG]; simp
 rw [← hG]
 have cf : ∀ K, callF (envL prog) (X 16 T) [.yld G.length] K = (envL prog).call 52 [.yld (H.length + 7), .ptr (H.length + 6) 0, .ptr (H.length + 5) 0] K := fun K => by
  rw [lG, X_ap, tf]; rfl
 have hP : ∀ i K, GooP H v L bl ar (cgoodF bl ar L none []) T i K → K[H.length + 6]? = some (.rw [.int .i64 (i : Int)]) ∧ cellsOf K (H.length + 5) = some [v] ∧ Adds H K := fun i K y => by
  obtain ⟨⟨w, ats, y, _⟩, ib⟩ := y
  exact ⟨ib, cells_rw y.lb, Adds.of_get (by have := y.len; omega) y.old⟩
 obtain ⟨K1, ec, h1⟩ := fromAll g (v := v) (L := L) (p := H.length + 6) (q := H.length + 5) (y := H.length + 7) (P := GooP H v L bl ar (cgoodF bl ar L none []) T) (Q := fun K => cgoodF bl ar L none [] = false ∧ ∃ w ats, GooY H v bl ar ats .done .ret T w K) fi.1 hP (fun i K s vc vt y hx hbs hip => gooRound g fi h8 hbl ar ht t3 t4 t5 t6 t7 y hx hbs hip) (i := 0) (K := K0) ⟨⟨_, _, y0, rfl, by simp⟩, ib0⟩
 have l0 : K0.length = H.length + 8 := by rw [hK0, List.length_append, lG]; rfl
 obtain ⟨K4, et, h4⟩ := trim_two K0 (.tup []) K1
 rw [et] at ec
 have hK1 : ∀ k, K0[H.length + 4]? = some k → ∀ a ∈ k.vals, ∀ x, slb a = some x → x < K0.length := fun k hk a ha x hx => by
  rw [y0.wb] at hk; injection hk with hk; subst hk
  rw [List.mem_singleton.1 ha] at hx; cases hx
 have fin : ∀ {e : Ex} {st : LoopState} {w : AV} {ats : List Int}, GooY H v bl ar ats st e T w K1 → st ≠ .busy → runC (envL prog) (.range (X 16) [17, 18] kaq14x0 kbq14x0) T G = some (e, T, K4.set (H.length + 7) (GooL .exhausted e T)) ∧ GooY H v bl ar ats .exhausted e T w (K4.set (H.length + 7) (GooL .exhausted e T)) := by
  intro e st w ats y hs
  have hl := y.len
  have a4 := fun {z} (hz : z < K0.length) => two_at h4 hz
  have l4 := two_len h4 (by omega)
  have f4 : FS K4 (H.length + 8) w ats := two_gr h4 y.fs (by omega) y.wb (by simp) hK1
  have := range_all (E := envL prog) (f := X 16) (ps := [17, 18]) (ka := kaq14x0) (kb := kbq14x0) (t := T) (h := G) (K := K4) (e := e) (st := st) (v := .tup []) (by rw [cf]; rw [hK0] at ec; exact ec) (by rw [lG, a4 (by omega)]; exact y.lp) hs
  rw [lG] at this
  exact ⟨this, y.step (fun b hb _ _ h7 => by rw [at_set_ne _ _ _ _ h7, a4 (by omega)]) (by rw [List.length_set]; omega) (by rw [at_set_ne _ _ _ _ (by omega), a4 (by omega)]; exact y.wb) (at_set _ _ _ (by omega)) (f4.frT (Fr.set _ _ (F := fun z => z = H.length + 7) rfl) fun z hz h => by have := (FS.out y.fs z hz).1; omega)⟩
 rcases h1 with ⟨j, hj, _, _, ⟨w, ats, y, inv, _⟩, _⟩ | ⟨ha, w, ats, y⟩
 ·obtain ⟨e1, e2⟩ := fin y (by decide)
  rw [e1]
  exact ⟨_, _, _, rfl, rfl, .inl ⟨rfl, by rw [inv, List.drop_eq_nil_of_le hj]; rfl⟩, w, ats, e2⟩
 ·obtain ⟨e1, e2⟩ := fin y (by decide)
  rw [e1]
  exact ⟨_, _, _, rfl, rfl, .inr ⟨rfl, ha⟩, w, ats, e2⟩
theorem cgoodC : (envL prog).call 14 [v, .int .i64 bl, .int .i64 ar] H = some (.bool (cgood L bl ar), H) := by
 have hr := fun h8 T => gooRange g fi hbl ar h8 (T := T)
 have ef := fromC (g.adds (⟨[ABlk.rw [v], .rw [.int .i64 bl], .rw [.int .i64 ar], .rw [.bool false], .rw [.nilSl]], rfl⟩ : Adds H _)) 0
 have hc := g.cell
 have wl := g.len
 have key : Outs (runC (envL prog) (b14 (envL prog)) ([v, .int .i64 bl, .int .i64 ar] ++ List.replicate (61 - [v, AV.int .i64 bl, .int .i64 ar].length) .undef) H) fun e' t K => Adds H K ∧ fin [.cell 6 1 false] (some (e', t, K)) = some (.bool (cgood L bl ar), K) := by
  unfold b14
  generalize hQ : (fun (e' : Ex) (t : T) (K : AHeap) => Adds H K ∧ fin [.cell 6 1 false] (some (e', t, K)) = some (AV.bool (cgood L bl ar), K)) = Q
  by_cases h8 : (L.length : Int) > 8
  ·have d8 := decide_eq_true h8
   have hs : cgood L bl ar = false := by unfold cgood; rw [decide_eq_false (by omega)]; rfl
   simp -implicitDefEqProofs (maxSteps := 5000000) only [go_sem, Nat.reduceShiftRight, Nat.reduceAnd, Nat.reduceBNe, Int.reduceEq, Nat.reduceAdd, Nat.reduceSub, Nat.reduceMul, Nat.reduceLeDiff, reduceIte, reduceCtorEq, Nat.reduceBEq, Nat.reduceEqDiff, wrap64, runC_loop, runC_range, callF_fn, callV_fn, callV_yld, yield_eq, yieldBody, yieldRaw, roundMid, roundEnd, rangeEnd, Bool.not_not, put_cons, put_nil, trim_same, at_zero, at_add, set_zero, set_add, store_one, write_zero, write_add, write_head, write_succ, splice_one, splice_more, List.drop_nil, List.take_nil, cell_int, cell_bool, fillS, splice_one, idxA, Ex.isNormal, List.set_nil, List.length_set, List.all_cons, List.all_nil, Bool.and_self, and_self, true_and, and_true, List.getElem?_nil, Int.reduceLT, Int.reduceLE, Int.reduceToNat, Int.toNat_zero, Int.toNat_one, Int.reduceAdd, Int.reduceSub, Int.reduceMul, Int.reduceNeg, Int.reduceBEq, Int.reduceBNe, Int.reduceGE, Int.reduceGT, Nat.reduceLT, trim_keep, under_fn, under_ptr, under_sl, Nat.lt_irrefl, not_lt_add, trim_tail, keepOk, ABlk.vals, Int.cast_ofNat_Int, decide_true, decide_false, List.all_cons, List.all_nil, Nat.zero_mul, Nat.mul_one, Nat.one_mul, hc.1, wl, d8, outs_normal]
   subst hQ
   rw [hs]
   refine ⟨⟨_, rfl⟩, ?_⟩
   simp -implicitDefEqProofs (maxSteps := 5000000) only [go_sem, Nat.reduceShiftRight, Nat.reduceAnd, Nat.reduceBNe, Int.reduceEq, Nat.reduceAdd, Nat.reduceSub, Nat.reduceMul, Nat.reduceLeDiff, reduceIte, reduceCtorEq, Nat.reduceBEq, Nat.reduceEqDiff, wrap64, runC_loop, runC_range, callF_fn, callV_fn, callV_yld, yield_eq, yieldBody, yieldRaw, roundMid, roundEnd, rangeEnd, Bool.not_not, put_cons, put_nil, trim_same, at_zero, at_add, set_zero, set_add, store_one, write_zero, write_add, write_head, write_succ, splice_one, splice_more, List.drop_nil, List.take_nil, cell_int, cell_bool, fillS, splice_one, idxA, Ex.isNormal, List.set_nil, List.length_set, List.all_cons, List.all_nil, Bool.and_self, and_self, true_and, and_true, List.getElem?_nil, Int.reduceLT, Int.reduceLE, Int.reduceToNat, Int.toNat_zero, Int.toNat_one, Int.reduceAdd, Int.reduceSub, Int.reduceMul, Int.reduceNeg, Int.reduceBEq, Int.reduceBNe, Int.reduceGE, Int.reduceGT, Nat.reduceLT, trim_keep, under_fn, under_ptr, under_sl, Nat.lt_irrefl, not_lt_add, trim_tail, keepOk, ABlk.vals, Int.cast_ofNat_Int, decide_true, decide_false, List.all_cons, List.all_nil, Nat.zero_mul, Nat.mul_one, Nat.one_mul]
  have d8 := decide_eq_false h8
  have hs : cgood L bl ar = cgoodF bl ar L none [] := by unfold cgood; rw [decide_eq_true (by omega)]; rfl
  simp -implicitDefEqProofs (maxSteps := 5000000) only [go_sem, Nat.reduceShiftRight, Nat.reduceAnd, Nat.reduceBNe, Int.reduceEq, Nat.reduceAdd, Nat.reduceSub, Nat.reduceMul, Nat.reduceLeDiff, reduceIte, reduceCtorEq, Nat.reduceBEq, Nat.reduceEqDiff, wrap64, runC_loop, callF_fn, callV_fn, callV_yld, Bool.not_not, put_cons, put_nil, trim_same, at_zero, at_add, set_zero, set_add, store_one, write_zero, write_add, write_head, write_succ, splice_one, splice_more, List.drop_nil, List.take_nil, cell_int, cell_bool, fillS, splice_one, idxA, Ex.isNormal, List.set_nil, List.length_set, List.all_cons, List.all_nil, Bool.and_self, and_self, true_and, and_true, List.getElem?_nil, Int.reduceLT, Int.reduceLE, Int.reduceToNat, Int.toNat_zero, Int.toNat_one, Int.reduceAdd, Int.reduceSub, Int.reduceMul, Int.reduceNeg, Int.reduceBEq, Int.reduceBNe, Int.reduceGE, Int.reduceGT, Nat.reduceLT, trim_keep, under_fn, under_ptr, under_sl, Nat.lt_irrefl, not_lt_add, trim_tail, keepOk, ABlk.vals, Int.cast_ofNat_Int, decide_true, decide_false, List.all_cons, List.all_nil, Nat.zero_mul, Nat.mul_one, Nat.one_mul, hc.1, wl, d8, ef]
  refine outs_ctx (fun r => seqR (blockR 0 r) _) (hr (by omega) _ rfl rfl rfl rfl rfl rfl rfl) ?_
  rintro e t K ⟨rfl, h, w, ats, y⟩
  have aK : Adds H K := Adds.of_get (by have := y.len; omega) y.old
  have hl := y.len
  rcases h with ⟨rfl, ha⟩ | ⟨rfl, ha⟩
  ·have wr := write_one (y := .bool true) y.rb rfl
   obtain ⟨Kd, hKd⟩ : ∃ Kd, Kd = K.set (H.length + 3) (ABlk.rw [.bool true]) := ⟨_, rfl⟩
   rw [← hKd] at wr
   have d1 := cells_rw (show Kd[H.length + 3]? = some (.rw [.bool true]) by rw [hKd]; exact at_set _ _ _ (by omega))
   have aD : Adds H Kd := Adds.of_get (by rw [hKd, List.length_set]; omega) fun z hz => by rw [hKd, at_set_ne _ _ _ _ (by omega)]; exact y.old z hz
   simp -implicitDefEqProofs (maxSteps := 5000000) only [go_sem, Nat.reduceShiftRight, Nat.reduceAnd, Nat.reduceBNe, Int.reduceEq, Nat.reduceAdd, Nat.reduceSub, Nat.reduceMul, Nat.reduceLeDiff, reduceIte, reduceCtorEq, Nat.reduceBEq, Nat.reduceEqDiff, wrap64, runC_loop, runC_range, callF_fn, callV_fn, callV_yld, yield_eq, yieldBody, yieldRaw, roundMid, roundEnd, rangeEnd, Bool.not_not, put_cons, put_nil, trim_same, at_zero, at_add, set_zero, set_add, store_one, write_zero, write_add, write_head, write_succ, splice_one, splice_more, List.drop_nil, List.take_nil, cell_int, cell_bool, fillS, splice_one, idxA, Ex.isNormal, List.set_nil, List.length_set, List.all_cons, List.all_nil, Bool.and_self, and_self, true_and, and_true, List.getElem?_nil, Int.reduceLT, Int.reduceLE, Int.reduceToNat, Int.toNat_zero, Int.toNat_one, Int.reduceAdd, Int.reduceSub, Int.reduceMul, Int.reduceNeg, Int.reduceBEq, Int.reduceBNe, Int.reduceGE, Int.reduceGT, Nat.reduceLT, trim_keep, under_fn, under_ptr, under_sl, Nat.lt_irrefl, not_lt_add, trim_tail, keepOk, ABlk.vals, Int.cast_ofNat_Int, decide_true, decide_false, List.all_cons, List.all_nil, Nat.zero_mul, Nat.mul_one, Nat.one_mul, wr, outs_normal]
   subst hQ
   rw [hs, ha]
   refine ⟨aD, ?_⟩
   simp -implicitDefEqProofs (maxSteps := 5000000) only [go_sem, Nat.reduceShiftRight, Nat.reduceAnd, Nat.reduceBNe, Int.reduceEq, Nat.reduceAdd, Nat.reduceSub, Nat.reduceMul, Nat.reduceLeDiff, reduceIte, reduceCtorEq, Nat.reduceBEq, Nat.reduceEqDiff, wrap64, runC_loop, runC_range, callF_fn, callV_fn, callV_yld, yield_eq, yieldBody, yieldRaw, roundMid, roundEnd, rangeEnd, Bool.not_not, put_cons, put_nil, trim_same, at_zero, at_add, set_zero, set_add, store_one, write_zero, write_add, write_head, write_succ, splice_one, splice_more, List.drop_nil, List.take_nil, cell_int, cell_bool, fillS, splice_one, idxA, Ex.isNormal, List.set_nil, List.length_set, List.all_cons, List.all_nil, Bool.and_self, and_self, true_and, and_true, List.getElem?_nil, Int.reduceLT, Int.reduceLE, Int.reduceToNat, Int.toNat_zero, Int.toNat_one, Int.reduceAdd, Int.reduceSub, Int.reduceMul, Int.reduceNeg, Int.reduceBEq, Int.reduceBNe, Int.reduceGE, Int.reduceGT, Nat.reduceLT, trim_keep, under_fn, under_ptr, under_sl, Nat.lt_irrefl, not_lt_add, trim_tail, keepOk, ABlk.vals, Int.cast_ofNat_Int, decide_true, decide_false, List.all_cons, List.all_nil, Nat.zero_mul, Nat.mul_one, Nat.one_mul, d1]
  ·have d1 := cells_rw y.rb
   simp -implicitDefEqProofs (maxSteps := 5000000) only [go_sem, Nat.reduceShiftRight, Nat.reduceAnd, Nat.reduceBNe, Int.reduceEq, Nat.reduceAdd, Nat.reduceSub, Nat.reduceMul, Nat.reduceLeDiff, reduceIte, reduceCtorEq, Nat.reduceBEq, Nat.reduceEqDiff, wrap64, runC_loop, runC_range, callF_fn, callV_fn, callV_yld, yield_eq, yieldBody, yieldRaw, roundMid, roundEnd, rangeEnd, Bool.not_not, put_cons, put_nil, trim_same, at_zero, at_add, set_zero, set_add, store_one, write_zero, write_add, write_head, write_succ, splice_one, splice_more, List.drop_nil, List.take_nil, cell_int, cell_bool, fillS, splice_one, idxA, Ex.isNormal, List.set_nil, List.length_set, List.all_cons, List.all_nil, Bool.and_self, and_self, true_and, and_true, List.getElem?_nil, Int.reduceLT, Int.reduceLE, Int.reduceToNat, Int.toNat_zero, Int.toNat_one, Int.reduceAdd, Int.reduceSub, Int.reduceMul, Int.reduceNeg, Int.reduceBEq, Int.reduceBNe, Int.reduceGE, Int.reduceGT, Nat.reduceLT, trim_keep, under_fn, under_ptr, under_sl, Nat.lt_irrefl, not_lt_add, trim_tail, keepOk, ABlk.vals, Int.cast_ofNat_Int, decide_true, decide_false, List.all_cons, List.all_nil, Nat.zero_mul, Nat.mul_one, Nat.one_mul, outs_normal]
   subst hQ
   rw [hs, ha]
   refine ⟨aK, ?_⟩
   simp -implicitDefEqProofs (maxSteps := 5000000) only [go_sem, Nat.reduceShiftRight, Nat.reduceAnd, Nat.reduceBNe, Int.reduceEq, Nat.reduceAdd, Nat.reduceSub, Nat.reduceMul, Nat.reduceLeDiff, reduceIte, reduceCtorEq, Nat.reduceBEq, Nat.reduceEqDiff, wrap64, runC_loop, runC_range, callF_fn, callV_fn, callV_yld, yield_eq, yieldBody, yieldRaw, roundMid, roundEnd, rangeEnd, Bool.not_not, put_cons, put_nil, trim_same, at_zero, at_add, set_zero, set_add, store_one, write_zero, write_add, write_head, write_succ, splice_one, splice_more, List.drop_nil, List.take_nil, cell_int, cell_bool, fillS, splice_one, idxA, Ex.isNormal, List.set_nil, List.length_set, List.all_cons, List.all_nil, Bool.and_self, and_self, true_and, and_true, List.getElem?_nil, Int.reduceLT, Int.reduceLE, Int.reduceToNat, Int.toNat_zero, Int.toNat_one, Int.reduceAdd, Int.reduceSub, Int.reduceMul, Int.reduceNeg, Int.reduceBEq, Int.reduceBNe, Int.reduceGE, Int.reduceGT, Nat.reduceLT, trim_keep, under_fn, under_ptr, under_sl, Nat.lt_irrefl, not_lt_add, trim_tail, keepOk, ABlk.vals, Int.cast_ofNat_Int, decide_true, decide_false, List.all_cons, List.all_nil, Nat.zero_mul, Nat.mul_one, Nat.one_mul, d1]
 obtain ⟨e', t, K, hr, aK, hf⟩ := key
 rw [c14, hr, hf]; exact aK.trimS rfl
end
end Go.Proofs.Ythhodjcgcgkaaaa.G11
end
section
namespace Go.Proofs.Ythhodjcgcgkaaaa.G11
open Go Go.Proofs.Ythhodjcgcgkaaaa.Eng
section
variable {H : AHeap} {v : AV} {L : List SnS} (g : IsC H v L) (fi : Fits L)
include g fi
theorem closS (n : Int) (q : Nat) (s : SnS) (vc vt : AV) (bc : BS H vc s.ch) (pt : IsP H vt s.tb) (hq : cellsOf H q = some [.int .i64 n]) : (envL prog).call 40 [.agg [.int .i64 s.id, vc, vt], .ptr q 0] H = some (.bool (s.id == n), H) := by
 have c1 : ∀ X, cellsOf (H ++ X) q = some [.int .i64 n] := fun X => cells_old hq
 have cc := bc.cell
 have ct := pt.cell
 rw [c40]
 unfold b40
 simp -implicitDefEqProofs (maxSteps := 5000000) only [go_sem, Nat.reduceShiftRight, Nat.reduceAnd, Nat.reduceBNe, Int.reduceEq, Nat.reduceAdd, Nat.reduceSub, Nat.reduceMul, Nat.reduceLeDiff, reduceIte, reduceCtorEq, Nat.reduceBEq, Nat.reduceEqDiff, wrap64, runC_loop, runC_range, callF_fn, callV_fn, callV_yld, yield_eq, yieldBody, yieldRaw, roundMid, roundEnd, rangeEnd, Bool.not_not, put_cons, put_nil, trim_same, at_zero, at_add, set_zero, set_add, store_one, write_zero, write_add, write_head, write_succ, splice_one, splice_more, List.drop_nil, List.take_nil, cell_int, cell_bool, fillS, splice_one, idxA, Ex.isNormal, List.set_nil, List.length_set, List.all_cons, List.all_nil, Bool.and_self, and_self, true_and, and_true, List.getElem?_nil, Int.reduceLT, Int.reduceLE, Int.reduceToNat, Int.toNat_zero, Int.toNat_one, Int.reduceAdd, Int.reduceSub, Int.reduceMul, Int.reduceNeg, Int.reduceBEq, Int.reduceBNe, Int.reduceGE, Int.reduceGT, Nat.reduceLT, trim_keep, under_fn, under_ptr, under_sl, Nat.lt_irrefl, not_lt_add, trim_tail, keepOk, ABlk.vals, Int.cast_ofNat_Int, decide_true, decide_false, List.all_cons, List.all_nil, Nat.zero_mul, Nat.mul_one, Nat.one_mul, cellsA_agg, cc.2, ct.2, c1]
set_option maxHeartbeats 4000000 in
theorem cidL (n : Int) {q : Nat} (hq : cellsOf H q = some [.int .i64 n]) (x2 x3 x6 : AV) : ∀ (k i : Nat) (j5 j9 j10 j11 j12 j13 j14 j15 j16 j17 j18 : AV), i + k = L.length →
  Outs (LP1 l39x0 [v, .fn 40 [.ptr q 0], x2, x3, .int .i64 0, j5, x6, .int .i64 (L.length : Int), .int .i64 (i : Int), j9, j10, j11, j12, j13, j14, j15, j16, j17, j18] H) fun e t K => K = H ∧ ∃ fv : Nat → AV, t = [v, .fn 40 [.ptr q 0], x2, x3, (fv 4), (fv 5), x6, .int .i64 (L.length : Int), (fv 8), (fv 9), (fv 10), (fv 11), (fv 12), (fv 13), (fv 14), (fv 15), (fv 16), (fv 17), (fv 18)] ∧ ((e = .exit 0 ∧ cidF n i (L.drop i) = -1) ∨ (e = .ret ∧ fv 4 = .int .i64 (cidF n i (L.drop i)))) := by
 intro k
 obtain ⟨L0, hL0⟩ : ∃ L, L = LP1 l39x0 := ⟨_, rfl⟩
 have lo := loop_open hL0
 have fl := fi.1
 rw [← hL0]
 induction k with
 | zero =>
  intro i j5 j9 j10 j11 j12 j13 j14 j15 j16 j17 j18 hi
  obtain rfl : i = L.length := by omega
  have hd : decide ((L.length : Int) < (L.length : Int)) = false := by simp
  rw [List.drop_length, lo]
  unfold l39x0
  simp -implicitDefEqProofs (maxSteps := 5000000) only [go_sem, Nat.reduceShiftRight, Nat.reduceAnd, Nat.reduceBNe, Int.reduceEq, Nat.reduceAdd, Nat.reduceSub, Nat.reduceMul, Nat.reduceLeDiff, reduceIte, reduceCtorEq, Nat.reduceBEq, Nat.reduceEqDiff, hd, seqR_exit', outs_normal]
  exact exF2 rfl (.inl rfl)
 | succ k ih =>
  intro i j5 j9 j10 j11 j12 j13 j14 j15 j16 j17 j18 hi
  have hlt : i < L.length := by omega
  have hd : decide ((i : Int) < (L.length : Int)) = true := decide_eq_true (by omega)
  have e2 : IntKind.i64.wrap ((i : Int) + 1) = ((i + 1 : Nat) : Int) := by rw [wrap64 (by omega) (by omega)]; omega
  have hx := List.getElem?_eq_getElem hlt
  rw [List.drop_eq_getElem_cons hlt]
  generalize L[i] = s at *
  obtain ⟨bb, cs, vc, vt, sb, ix, hc, h1, h2, h3, ht, hle, hbs, hip⟩ := g.idx hx
  have ec := closS g fi n q s vc vt hbs hip hq
  rw [lo]
  unfold l39x0
  by_cases h : s.id = n
  ·have hb : (s.id == n) = true := by simp [h]
   rw [cidF, if_pos h]
   simp -implicitDefEqProofs (maxSteps := 5000000) only [go_sem, Nat.reduceShiftRight, Nat.reduceAnd, Nat.reduceBNe, Int.reduceEq, Nat.reduceAdd, Nat.reduceSub, Nat.reduceMul, Nat.reduceLeDiff, reduceIte, reduceCtorEq, Nat.reduceBEq, Nat.reduceEqDiff, wrap64, runC_loop, runC_range, callF_fn, callV_fn, callV_yld, yield_eq, yieldBody, yieldRaw, roundMid, roundEnd, rangeEnd, Bool.not_not, put_cons, put_nil, trim_same, at_zero, at_add, set_zero, set_add, store_one, write_zero, write_add, write_head, write_succ, splice_one, splice_more, List.drop_nil, List.take_nil, cell_int, cell_bool, fillS, splice_one, idxA, Ex.isNormal, List.set_nil, List.length_set, List.all_cons, List.all_nil, Bool.and_self, and_self, true_and, and_true, List.getElem?_nil, Int.reduceLT, Int.reduceLE, Int.reduceToNat, Int.toNat_zero, Int.toNat_one, Int.reduceAdd, Int.reduceSub, Int.reduceMul, Int.reduceNeg, Int.reduceBEq, Int.reduceBNe, Int.reduceGE, Int.reduceGT, Nat.reduceLT, trim_keep, under_fn, under_ptr, under_sl, Nat.lt_irrefl, not_lt_add, trim_tail, keepOk, ABlk.vals, Int.cast_ofNat_Int, decide_true, decide_false, List.all_cons, List.all_nil, Nat.zero_mul, Nat.mul_one, Nat.one_mul, hd, ix, hc, ht, hle, ec, hb, seqR_ret, outs_normal]
   exact exF2 rfl (.inr rfl)
  ·have hb : (s.id == n) = false := by simp [h]
   rw [cidF, if_neg h]
   simp -implicitDefEqProofs (maxSteps := 5000000) only [go_sem, Nat.reduceShiftRight, Nat.reduceAnd, Nat.reduceBNe, Int.reduceEq, Nat.reduceAdd, Nat.reduceSub, Nat.reduceMul, Nat.reduceLeDiff, reduceIte, reduceCtorEq, Nat.reduceBEq, Nat.reduceEqDiff, wrap64, runC_loop, runC_range, callF_fn, callV_fn, callV_yld, yield_eq, yieldBody, yieldRaw, roundMid, roundEnd, rangeEnd, Bool.not_not, put_cons, put_nil, trim_same, at_zero, at_add, set_zero, set_add, store_one, write_zero, write_add, write_head, write_succ, splice_one, splice_more, List.drop_nil, List.take_nil, cell_int, cell_bool, fillS, splice_one, idxA, Ex.isNormal, List.set_nil, List.length_set, List.all_cons, List.all_nil, Bool.and_self, and_self, true_and, and_true, List.getElem?_nil, Int.reduceLT, Int.reduceLE, Int.reduceToNat, Int.toNat_zero, Int.toNat_one, Int.reduceAdd, Int.reduceSub, Int.reduceMul, Int.reduceNeg, Int.reduceBEq, Int.reduceBNe, Int.reduceGE, Int.reduceGT, Nat.reduceLT, trim_keep, under_fn, under_ptr, under_sl, Nat.lt_irrefl, not_lt_add, trim_tail, keepOk, ABlk.vals, Int.cast_ofNat_Int, decide_true, decide_false, List.all_cons, List.all_nil, Nat.zero_mul, Nat.mul_one, Nat.one_mul, hd, ix, hc, ht, hle, ec, hb, e2]
   exact ih (i + 1) _ _ _ _ _ _ _ _ _ _ _ (by omega)
theorem cidFC (n : Int) {q : Nat} (hq : cellsOf H q = some [.int .i64 n]) : (envL prog).call 39 [v, .fn 40 [.ptr q 0]] H = some (.int .i64 (cidF n 0 L), H) := by
 have l0 := cidL g fi n hq (k := L.length) (i := 0)
 rw [show ((0 : Nat) : Int) = 0 from rfl, List.drop_zero] at l0
 have wl := g.len
 have key : Outs (runC (envL prog) (b39 (envL prog)) ([v, .fn 40 [.ptr q 0]] ++ List.replicate (19 - [v, AV.fn 40 [.ptr q 0]].length) .undef) H) fun e' t K => K = H ∧ fin [.tmp 4] (some (e', t, K)) = some (.int .i64 (cidF n 0 L), K) := by
  unfold b39
  generalize hQ : (fun (e' : Ex) (t : T) (K : AHeap) => K = H ∧ fin [.tmp 4] (some (e', t, K)) = some (AV.int .i64 (cidF n 0 L), K)) = Q
  simp -implicitDefEqProofs (maxSteps := 5000000) only [go_sem, Nat.reduceShiftRight, Nat.reduceAnd, Nat.reduceBNe, Int.reduceEq, Nat.reduceAdd, Nat.reduceSub, Nat.reduceMul, Nat.reduceLeDiff, reduceIte, reduceCtorEq, Nat.reduceBEq, Nat.reduceEqDiff, wrap64, runC_loop, runC_range, callF_fn, callV_fn, callV_yld, yield_eq, yieldBody, yieldRaw, roundMid, roundEnd, rangeEnd, Bool.not_not, put_cons, put_nil, trim_same, at_zero, at_add, set_zero, set_add, store_one, write_zero, write_add, write_head, write_succ, splice_one, splice_more, List.drop_nil, List.take_nil, cell_int, cell_bool, fillS, splice_one, idxA, Ex.isNormal, List.set_nil, List.length_set, List.all_cons, List.all_nil, Bool.and_self, and_self, true_and, and_true, List.getElem?_nil, Int.reduceLT, Int.reduceLE, Int.reduceToNat, Int.toNat_zero, Int.toNat_one, Int.reduceAdd, Int.reduceSub, Int.reduceMul, Int.reduceNeg, Int.reduceBEq, Int.reduceBNe, Int.reduceGE, Int.reduceGT, Nat.reduceLT, trim_keep, under_fn, under_ptr, under_sl, Nat.lt_irrefl, not_lt_add, trim_tail, keepOk, ABlk.vals, Int.cast_ofNat_Int, decide_true, decide_false, List.all_cons, List.all_nil, Nat.zero_mul, Nat.mul_one, Nat.one_mul, runC_loop, wl]
  unfold LP1 at l0
  generalize (envL prog).loop (runC (envL prog) (l39x0 (envL prog))) = L0 at l0 ⊢
  refine outs_ctx (fun r => seqR (blockR 0 r) _) (l0 _ _ _ _ _ _ _ _ _ _ _ _ _ _ (by omega)) ?_
  rintro e t K ⟨rfl, fv, rfl, ⟨rfl, ho⟩ | ⟨rfl, f4⟩⟩
  ·simp -implicitDefEqProofs (maxSteps := 5000000) only [go_sem, Nat.reduceShiftRight, Nat.reduceAnd, Nat.reduceBNe, Int.reduceEq, Nat.reduceAdd, Nat.reduceSub, Nat.reduceMul, Nat.reduceLeDiff, reduceIte, reduceCtorEq, Nat.reduceBEq, Nat.reduceEqDiff, outs_normal]
   subst hQ
   rw [ho]
   refine ⟨rfl, ?_⟩
   simp -implicitDefEqProofs (maxSteps := 5000000) only [go_sem, Nat.reduceShiftRight, Nat.reduceAnd, Nat.reduceBNe, Int.reduceEq, Nat.reduceAdd, Nat.reduceSub, Nat.reduceMul, Nat.reduceLeDiff, reduceIte, reduceCtorEq, Nat.reduceBEq, Nat.reduceEqDiff]
  ·simp -implicitDefEqProofs (maxSteps := 5000000) only [go_sem, Nat.reduceShiftRight, Nat.reduceAnd, Nat.reduceBNe, Int.reduceEq, Nat.reduceAdd, Nat.reduceSub, Nat.reduceMul, Nat.reduceLeDiff, reduceIte, reduceCtorEq, Nat.reduceBEq, Nat.reduceEqDiff, outs_normal]
   subst hQ
   refine ⟨rfl, ?_⟩
   simp -implicitDefEqProofs (maxSteps := 5000000) only [go_sem, Nat.reduceShiftRight, Nat.reduceAnd, Nat.reduceBNe, Int.reduceEq, Nat.reduceAdd, Nat.reduceSub, Nat.reduceMul, Nat.reduceLeDiff, reduceIte, reduceCtorEq, Nat.reduceBEq, Nat.reduceEqDiff, f4]
 obtain ⟨e', t, K, hr, rfl, hf⟩ := key
 rw [c39, hr, hf]; exact trim_same rfl
theorem cindexC (n : Int) : (envL prog).call 16 [v, .int .i64 n] H = some (.int .i64 (cidF n 0 L), H) := by
 have ec := cidFC (g.adds (⟨[.rw [.int .i64 n]], rfl⟩ : Adds H (H ++ [.rw [.int .i64 n]]))) fi n (q := H.length) (by unfold cellsOf; simp)
 rw [c16]
 unfold b16
 simp -implicitDefEqProofs (maxSteps := 5000000) only [go_sem, Nat.reduceShiftRight, Nat.reduceAnd, Nat.reduceBNe, Int.reduceEq, Nat.reduceAdd, Nat.reduceSub, Nat.reduceMul, Nat.reduceLeDiff, reduceIte, reduceCtorEq, Nat.reduceBEq, Nat.reduceEqDiff, wrap64, runC_loop, runC_range, callF_fn, callV_fn, callV_yld, yield_eq, yieldBody, yieldRaw, roundMid, roundEnd, rangeEnd, Bool.not_not, put_cons, put_nil, trim_same, at_zero, at_add, set_zero, set_add, store_one, write_zero, write_add, write_head, write_succ, splice_one, splice_more, List.drop_nil, List.take_nil, cell_int, cell_bool, fillS, splice_one, idxA, Ex.isNormal, List.set_nil, List.length_set, List.all_cons, List.all_nil, Bool.and_self, and_self, true_and, and_true, List.getElem?_nil, Int.reduceLT, Int.reduceLE, Int.reduceToNat, Int.toNat_zero, Int.toNat_one, Int.reduceAdd, Int.reduceSub, Int.reduceMul, Int.reduceNeg, Int.reduceBEq, Int.reduceBNe, Int.reduceGE, Int.reduceGT, Nat.reduceLT, trim_keep, under_fn, under_ptr, under_sl, Nat.lt_irrefl, not_lt_add, trim_tail, keepOk, ABlk.vals, Int.cast_ofNat_Int, decide_true, decide_false, List.all_cons, List.all_nil, Nat.zero_mul, Nat.mul_one, Nat.one_mul, ec]
end
def fairS (L : List SnS) : Bool := L.all (fun s => decide (s.ch.length ≤ 40) && decide (s.tb.length ≤ 80)) && decide (L.length ≤ 12)
section
variable {H : AHeap} {v : AV} {L : List SnS} (g : IsC H v L) (fb : L.length ≤ 9223372036854775807 ∧ ∀ s ∈ L, s.ch.length ≤ 9223372036854775807 ∧ s.tb.length ≤ 9223372036854775807)
include g fb
set_option maxHeartbeats 4000000 in
theorem fairL (x1 x26 x27 x28 : AV) : ∀ (k i : Nat) (j4 j5 j6 j7 j8 j9 j10 j11 j12 j13 j14 j15 j16 j17 j18 j19 j20 j21 j22 j23 j24 j25 : AV), i + k = L.length →
  Outs (LP1 l9x0 [v, x1, .bool false, .int .i64 (i : Int), j4, j5, j6, j7, j8, j9, j10, j11, j12, j13, j14, j15, j16, j17, j18, j19, j20, j21, j22, j23, j24, j25, x26, x27, x28] H) fun e t K => K = H ∧ ∃ fv : Nat → AV, t = [v, x1, (fv 2), (fv 3), (fv 4), (fv 5), (fv 6), (fv 7), (fv 8), (fv 9), (fv 10), (fv 11), (fv 12), (fv 13), (fv 14), (fv 15), (fv 16), (fv 17), (fv 18), (fv 19), (fv 20), (fv 21), (fv 22), (fv 23), (fv 24), (fv 25), x26, x27, x28] ∧ ((e = .exit 0 ∧ (L.drop i).all (fun s => decide (s.ch.length ≤ 40) && decide (s.tb.length ≤ 80)) = true) ∨ (e = .ret ∧ fv 2 = .bool false ∧ (L.drop i).all (fun s => decide (s.ch.length ≤ 40) && decide (s.tb.length ≤ 80)) = false)) := by
 intro k
 obtain ⟨L0, hL0⟩ : ∃ L, L = LP1 l9x0 := ⟨_, rfl⟩
 have lo := loop_open hL0
 have fl := fb.1
 have wl := g.len
 rw [← hL0]
 induction k with
 | zero =>
  intro i j4 j5 j6 j7 j8 j9 j10 j11 j12 j13 j14 j15 j16 j17 j18 j19 j20 j21 j22 j23 j24 j25 hi
  obtain rfl : i = L.length := by omega
  have hd : decide ((L.length : Int) < (L.length : Int)) = false := by simp
  rw [List.drop_length, lo]
  unfold l9x0
  simp -implicitDefEqProofs (maxSteps := 5000000) only [go_sem, Nat.reduceShiftRight, Nat.reduceAnd, Nat.reduceBNe, Int.reduceEq, Nat.reduceAdd, Nat.reduceSub, Nat.reduceMul, Nat.reduceLeDiff, reduceIte, reduceCtorEq, Nat.reduceBEq, Nat.reduceEqDiff, wl, hd, seqR_exit', outs_normal]
  exact exF2 rfl (.inl rfl)
 | succ k ih =>
  intro i j4 j5 j6 j7 j8 j9 j10 j11 j12 j13 j14 j15 j16 j17 j18 j19 j20 j21 j22 j23 j24 j25 hi
  have hlt : i < L.length := by omega
  have hd : decide ((i : Int) < (L.length : Int)) = true := decide_eq_true (by omega)
  have e2 : IntKind.i64.wrap ((i : Int) + 1) = ((i + 1 : Nat) : Int) := by rw [wrap64 (by omega) (by omega)]; omega
  have hx := List.getElem?_eq_getElem hlt
  have hm := fb.2 _ (List.getElem_mem hlt)
  rw [List.drop_eq_getElem_cons hlt, List.all_cons]
  generalize L[i] = s at *
  obtain ⟨bb, cs, vc, vt, sb, ix, hc, h1, h2, h3, ht, hle, hbs, hip⟩ := g.idx hx
  have w1 := hbs.len
  have w2 := hip.len
  rw [lo]
  unfold l9x0
  by_cases h : (s.ch.length : Int) > 40
  ·have d1 := decide_eq_true h
   rw [decide_eq_false (show ¬ s.ch.length ≤ 40 by omega)]
   simp -implicitDefEqProofs (maxSteps := 5000000) only [go_sem, Nat.reduceShiftRight, Nat.reduceAnd, Nat.reduceBNe, Int.reduceEq, Nat.reduceAdd, Nat.reduceSub, Nat.reduceMul, Nat.reduceLeDiff, reduceIte, reduceCtorEq, Nat.reduceBEq, Nat.reduceEqDiff, wrap64, runC_loop, runC_range, callF_fn, callV_fn, callV_yld, yield_eq, yieldBody, yieldRaw, roundMid, roundEnd, rangeEnd, Bool.not_not, put_cons, put_nil, trim_same, at_zero, at_add, set_zero, set_add, store_one, write_zero, write_add, write_head, write_succ, splice_one, splice_more, List.drop_nil, List.take_nil, cell_int, cell_bool, fillS, splice_one, idxA, Ex.isNormal, List.set_nil, List.length_set, List.all_cons, List.all_nil, Bool.and_self, and_self, true_and, and_true, List.getElem?_nil, Int.reduceLT, Int.reduceLE, Int.reduceToNat, Int.toNat_zero, Int.toNat_one, Int.reduceAdd, Int.reduceSub, Int.reduceMul, Int.reduceNeg, Int.reduceBEq, Int.reduceBNe, Int.reduceGE, Int.reduceGT, Nat.reduceLT, trim_keep, under_fn, under_ptr, under_sl, Nat.lt_irrefl, not_lt_add, trim_tail, keepOk, ABlk.vals, Int.cast_ofNat_Int, decide_true, decide_false, List.all_cons, List.all_nil, Nat.zero_mul, Nat.mul_one, Nat.one_mul, wl, hd, ix, hc, h2, h3, w1, w2, d1, seqR_ret, outs_normal]
   exact exF2 rfl (.inr rfl)
  ·have d1 := decide_eq_false h
   rw [decide_eq_true (show s.ch.length ≤ 40 by omega)]
   by_cases h' : (s.tb.length : Int) > 80
   ·have d2 := decide_eq_true h'
    rw [decide_eq_false (show ¬ s.tb.length ≤ 80 by omega)]
    simp -implicitDefEqProofs (maxSteps := 5000000) only [go_sem, Nat.reduceShiftRight, Nat.reduceAnd, Nat.reduceBNe, Int.reduceEq, Nat.reduceAdd, Nat.reduceSub, Nat.reduceMul, Nat.reduceLeDiff, reduceIte, reduceCtorEq, Nat.reduceBEq, Nat.reduceEqDiff, wrap64, runC_loop, runC_range, callF_fn, callV_fn, callV_yld, yield_eq, yieldBody, yieldRaw, roundMid, roundEnd, rangeEnd, Bool.not_not, put_cons, put_nil, trim_same, at_zero, at_add, set_zero, set_add, store_one, write_zero, write_add, write_head, write_succ, splice_one, splice_more, List.drop_nil, List.take_nil, cell_int, cell_bool, fillS, splice_one, idxA, Ex.isNormal, List.set_nil, List.length_set, List.all_cons, List.all_nil, Bool.and_self, and_self, true_and, and_true, List.getElem?_nil, Int.reduceLT, Int.reduceLE, Int.reduceToNat, Int.toNat_zero, Int.toNat_one, Int.reduceAdd, Int.reduceSub, Int.reduceMul, Int.reduceNeg, Int.reduceBEq, Int.reduceBNe, Int.reduceGE, Int.reduceGT, Nat.reduceLT, trim_keep, under_fn, under_ptr, under_sl, Nat.lt_irrefl, not_lt_add, trim_tail, keepOk, ABlk.vals, Int.cast_ofNat_Int, decide_true, decide_false, List.all_cons, List.all_nil, Nat.zero_mul, Nat.mul_one, Nat.one_mul, wl, hd, ix, hc, h2, h3, w1, w2, d1, d2, seqR_ret, outs_normal]
    exact exF2 rfl (.inr rfl)
   ·have d2 := decide_eq_false h'
    rw [decide_eq_true (show s.tb.length ≤ 80 by omega)]
    simp -implicitDefEqProofs (maxSteps := 5000000) only [go_sem, Nat.reduceShiftRight, Nat.reduceAnd, Nat.reduceBNe, Int.reduceEq, Nat.reduceAdd, Nat.reduceSub, Nat.reduceMul, Nat.reduceLeDiff, reduceIte, reduceCtorEq, Nat.reduceBEq, Nat.reduceEqDiff, wrap64, runC_loop, runC_range, callF_fn, callV_fn, callV_yld, yield_eq, yieldBody, yieldRaw, roundMid, roundEnd, rangeEnd, Bool.not_not, put_cons, put_nil, trim_same, at_zero, at_add, set_zero, set_add, store_one, write_zero, write_add, write_head, write_succ, splice_one, splice_more, List.drop_nil, List.take_nil, cell_int, cell_bool, fillS, splice_one, idxA, Ex.isNormal, List.set_nil, List.length_set, List.all_cons, List.all_nil, Bool.and_self, and_self, true_and, and_true, List.getElem?_nil, Int.reduceLT, Int.reduceLE, Int.reduceToNat, Int.toNat_zero, Int.toNat_one, Int.reduceAdd, Int.reduceSub, Int.reduceMul, Int.reduceNeg, Int.reduceBEq, Int.reduceBNe, Int.reduceGE, Int.reduceGT, Nat.reduceLT, trim_keep, under_fn, under_ptr, under_sl, Nat.lt_irrefl, not_lt_add, trim_tail, keepOk, ABlk.vals, Int.cast_ofNat_Int, decide_true, decide_false, List.all_cons, List.all_nil, Nat.zero_mul, Nat.mul_one, Nat.one_mul, wl, hd, ix, hc, h2, h3, w1, w2, d1, d2, e2]
    exact ih (i + 1) _ _ _ _ _ _ _ _ _ _ _ _ _ _ _ _ _ _ _ _ _ _ (by omega)
theorem fairC : (envL prog).call 9 [v] H = some (.bool (fairS L), H) := by
 have l0 := fairL g fb (k := L.length) (i := 0)
 rw [show ((0 : Nat) : Int) = 0 from rfl, List.drop_zero] at l0
 have wl := g.len
 have hd : decide ((L.length : Int) ≤ 12) = decide (L.length ≤ 12) := by
  by_cases h : L.length ≤ 12
  ·rw [decide_eq_true h, decide_eq_true (by omega)]
  ·rw [decide_eq_false h, decide_eq_false (by omega)]
 have key : Outs (runC (envL prog) (b9 (envL prog)) ([v] ++ List.replicate (29 - [v].length) .undef) H) fun e' t K => K = H ∧ fin [.tmp 2] (some (e', t, K)) = some (.bool (fairS L), K) := by
  unfold b9
  generalize hQ : (fun (e' : Ex) (t : T) (K : AHeap) => K = H ∧ fin [.tmp 2] (some (e', t, K)) = some (AV.bool (fairS L), K)) = Q
  simp -implicitDefEqProofs (maxSteps := 5000000) only [go_sem, Nat.reduceShiftRight, Nat.reduceAnd, Nat.reduceBNe, Int.reduceEq, Nat.reduceAdd, Nat.reduceSub, Nat.reduceMul, Nat.reduceLeDiff, reduceIte, reduceCtorEq, Nat.reduceBEq, Nat.reduceEqDiff, wrap64, runC_loop, runC_range, callF_fn, callV_fn, callV_yld, yield_eq, yieldBody, yieldRaw, roundMid, roundEnd, rangeEnd, Bool.not_not, put_cons, put_nil, trim_same, at_zero, at_add, set_zero, set_add, store_one, write_zero, write_add, write_head, write_succ, splice_one, splice_more, List.drop_nil, List.take_nil, cell_int, cell_bool, fillS, splice_one, idxA, Ex.isNormal, List.set_nil, List.length_set, List.all_cons, List.all_nil, Bool.and_self, and_self, true_and, and_true, List.getElem?_nil, Int.reduceLT, Int.reduceLE, Int.reduceToNat, Int.toNat_zero, Int.toNat_one, Int.reduceAdd, Int.reduceSub, Int.reduceMul, Int.reduceNeg, Int.reduceBEq, Int.reduceBNe, Int.reduceGE, Int.reduceGT, Nat.reduceLT, trim_keep, under_fn, under_ptr, under_sl, Nat.lt_irrefl, not_lt_add, trim_tail, keepOk, ABlk.vals, Int.cast_ofNat_Int, decide_true, decide_false, List.all_cons, List.all_nil, Nat.zero_mul, Nat.mul_one, Nat.one_mul, runC_loop]
  unfold LP1 at l0
  generalize (envL prog).loop (runC (envL prog) (l9x0 (envL prog))) = L0 at l0 ⊢
  refine outs_ctx (fun r => seqR (blockR 0 r) _) (l0 _ _ _ _ _ _ _ _ _ _ _ _ _ _ _ _ _ _ _ _ _ _ _ _ _ _ (by omega)) ?_
  rintro e t K ⟨rfl, fv, rfl, ⟨rfl, ho⟩ | ⟨rfl, f4, ho⟩⟩
  ·simp -implicitDefEqProofs (maxSteps := 5000000) only [go_sem, Nat.reduceShiftRight, Nat.reduceAnd, Nat.reduceBNe, Int.reduceEq, Nat.reduceAdd, Nat.reduceSub, Nat.reduceMul, Nat.reduceLeDiff, reduceIte, reduceCtorEq, Nat.reduceBEq, Nat.reduceEqDiff, wrap64, runC_loop, runC_range, callF_fn, callV_fn, callV_yld, yield_eq, yieldBody, yieldRaw, roundMid, roundEnd, rangeEnd, Bool.not_not, put_cons, put_nil, trim_same, at_zero, at_add, set_zero, set_add, store_one, write_zero, write_add, write_head, write_succ, splice_one, splice_more, List.drop_nil, List.take_nil, cell_int, cell_bool, fillS, splice_one, idxA, Ex.isNormal, List.set_nil, List.length_set, List.all_cons, List.all_nil, Bool.and_self, and_self, true_and, and_true, List.getElem?_nil, Int.reduceLT, Int.reduceLE, Int.reduceToNat, Int.toNat_zero, Int.toNat_one, Int.reduceAdd, Int.reduceSub, Int.reduceMul, Int.reduceNeg, Int.reduceBEq, Int.reduceBNe, Int.reduceGE, Int.reduceGT, Nat.reduceLT, trim_keep, under_fn, under_ptr, under_sl, Nat.lt_irrefl, not_lt_add, trim_tail, keepOk, ABlk.vals, Int.cast_ofNat_Int, decide_true, decide_false, List.all_cons, List.all_nil, Nat.zero_mul, Nat.mul_one, Nat.one_mul, wl, hd, outs_normal]
   subst hQ
   have : fairS L = decide (L.length ≤ 12) := by unfold fairS; rw [ho]; rfl
   rw [this]
   refine ⟨rfl, ?_⟩
   simp -implicitDefEqProofs (maxSteps := 5000000) only [go_sem, Nat.reduceShiftRight, Nat.reduceAnd, Nat.reduceBNe, Int.reduceEq, Nat.reduceAdd, Nat.reduceSub, Nat.reduceMul, Nat.reduceLeDiff, reduceIte, reduceCtorEq, Nat.reduceBEq, Nat.reduceEqDiff]
  ·simp -implicitDefEqProofs (maxSteps := 5000000) only [go_sem, Nat.reduceShiftRight, Nat.reduceAnd, Nat.reduceBNe, Int.reduceEq, Nat.reduceAdd, Nat.reduceSub, Nat.reduceMul, Nat.reduceLeDiff, reduceIte, reduceCtorEq, Nat.reduceBEq, Nat.reduceEqDiff, outs_normal]
   subst hQ
   have : fairS L = false := by unfold fairS; rw [ho]; rfl
   rw [this]
   refine ⟨rfl, ?_⟩
   simp -implicitDefEqProofs (maxSteps := 5000000) only [go_sem, Nat.reduceShiftRight, Nat.reduceAnd, Nat.reduceBNe, Int.reduceEq, Nat.reduceAdd, Nat.reduceSub, Nat.reduceMul, Nat.reduceLeDiff, reduceIte, reduceCtorEq, Nat.reduceBEq, Nat.reduceEqDiff, f4]
 obtain ⟨e', t, K, hr, rfl, hf⟩ := key
 rw [c9, hr, hf]; exact trim_same rfl
end
end Go.Proofs.Ythhodjcgcgkaaaa.G11
end
section
namespace Go.Proofs.Ythhodjcgcgkaaaa.G11
open Go Go.Proofs.Ythhodjcgcgkaaaa.Eng
section
variable {H : AHeap} {v : AV} {L : List SnS} (g : IsC H v L) (fi : Fits L)
include g fi
end
end Go.Proofs.Ythhodjcgcgkaaaa.G11
end
section
namespace Go.Proofs.Ythhodjcgcgkaaaa.G11
open Go Go.Proofs.Ythhodjcgcgkaaaa.Eng
theorem sub_len : ∀ {B A : List Int}, A.Pairwise (· < ·) → B.Pairwise (· < ·) → (∀ x ∈ A, x ∈ B) → A.length ≤ B.length ∧ (A.length = B.length → A = B)
 | [], A, _, _, h => by
  cases A with
  | nil => exact ⟨Nat.le_refl _, fun _ => rfl⟩
  | cons a A => exact absurd (h a (by simp)) (by simp)
 | b :: B, [], _, _, _ => ⟨by simp, fun h => by simp at h⟩
 | b :: B, a :: A, ha, hb, h => by
  obtain ⟨a1, a2⟩ := List.pairwise_cons.1 ha
  obtain ⟨b1, b2⟩ := List.pairwise_cons.1 hb
  rcases List.mem_cons.1 (h a (by simp)) with rfl | hab
  ·have ih := sub_len a2 b2 fun x hx => by
    rcases List.mem_cons.1 (h x (by simp [hx])) with rfl | q
    ·exact absurd (a1 _ hx) (by omega)
    ·exact q
   exact ⟨by simp only [List.length_cons]; omega, fun e => by rw [ih.2 (by simpa using e)]⟩
  ·have lt := b1 a hab
   have ih := sub_len ha b2 fun x hx => by
    rcases List.mem_cons.1 (h x hx) with rfl | q
    ·rcases List.mem_cons.1 hx with rfl | hx
     ·exact hab
     ·exact absurd (a1 _ hx) (by omega)
    ·exact q
   exact ⟨by simp only [List.length_cons] at *; omega, fun e => by simp only [List.length_cons] at *; omega⟩
theorem allU_of {zs : List Int} : ∀ {i : Nat} {z : Int}, 0 ≤ z → z < i → Bt.hasS zs z = true → z ∈ Bt.allU zs i
 | 0, z, h0, h1, _ => by omega
 | i + 1, z, h0, h1, h => by
  simp only [Bt.allU]
  by_cases e : z = i
  ·subst e; rw [if_pos h]; simp
  ·have := allU_of (i := i) h0 (by omega) h
   split
   ·exact List.mem_append_left _ this
   ·exact this
theorem mem_allS {zs : List Int} {z : Int} : z ∈ Bt.allS zs ↔ Bt.hasS zs z = true := by
 constructor
 ·intro h; exact (Bt.allU_mem h).2.2
 ·intro h
  by_cases h0 : z < 0
  ·rw [Bt.hasS_neg _ h0] at h; cases h
  ·obtain ⟨n, rfl⟩ : ∃ n : Nat, z = n := ⟨z.toNat, by omega⟩
   by_cases hn : 8 * zs.length ≤ n
   ·rw [Bt.hasS_high hn] at h; cases h
   ·exact allU_of (by omega) (by omega) h
theorem full_iff {l : List PrS} {zs : List Int} (up : asc l) (hu : IsU8 zs) (hs : l.all (fun p => Bt.hasS zs p.1) = true) : ((l.length : Int) == Bt.sumO zs) = (Bt.allS zs).all (fun c => decide (0 ≤ idxS l c)) := by
 rw [Bt.count_all hu, Bool.eq_iff_iff, beq_iff_eq, List.all_eq_true]
 have sub : ∀ x ∈ l.map (·.1), x ∈ Bt.allS zs := fun x hx => by
  obtain ⟨p, hp, rfl⟩ := List.mem_map.1 hx
  exact mem_allS.2 (List.all_eq_true.1 hs p hp)
 have q := sub_len up (Bt.allU_sorted zs _) sub
 rw [List.length_map] at q
 constructor
 ·intro h c hc
  rw [decide_eq_true_eq, idx_has]
  have e := q.2 (by show _ = (Bt.allS zs).length; omega)
  have hc : c ∈ Bt.allU zs (8 * zs.length) := hc
  rw [← e] at hc
  obtain ⟨p, hp, rfl⟩ := List.mem_map.1 hc
  exact ⟨p, hp, rfl⟩
 ·intro h
  have q2 := sub_len (Bt.allU_sorted zs (8 * zs.length)) up fun x hx => by
   have := h x hx
   rw [decide_eq_true_eq, idx_has] at this
   obtain ⟨p, hp, rfl⟩ := this
   exact List.mem_map.2 ⟨p, hp, rfl⟩
  rw [List.length_map] at q2
  have : (Bt.allS zs).length = (Bt.allU zs (8 * zs.length)).length := rfl
  omega
theorem ats_iff : ∀ {l : List PrS} {ats : List Int}, (∀ p ∈ l, ∀ q ∈ l, p.2 = q.2 → p = q) → asc l → atsF l ats = l.all (fun p => !ats.contains p.2)
 | [], _, _, _ => rfl
 | p :: l, ats, inj, up => by
  obtain ⟨u1, u2⟩ := asc_cons.1 up
  rw [atsF, List.all_cons, ats_iff (fun x hx y hy => inj x (by simp [hx]) y (by simp [hy])) u2]
  congr 1
  rw [Bool.eq_iff_iff, List.all_eq_true, List.all_eq_true]
  have hn : ∀ q ∈ l, (ats ++ [p.2]).contains q.2 = ats.contains q.2 := fun q hq => by
   rw [Bool.eq_iff_iff, List.contains_iff_mem, List.contains_iff_mem, List.mem_append, List.mem_singleton]
   constructor
   ·rintro (h | h)
    ·exact h
    ·have := inj q (by simp [hq]) p (by simp) h
     have lt := u1 q hq
     rw [this] at lt; omega
   ·exact .inl
  constructor
  ·intro h q hq; rw [← hn q hq]; exact h q hq
  ·intro h q hq; rw [hn q hq]; exact h q hq
def rgoodF (bl ar : Int) : List SnS → Option Int → List Int → Bool
 | [], _, _ => true
 | s :: L, pv, ats => decide (1 ≤ s.id) && (decide (s.id ≤ 1000000) && (pvOk pv s.id && (Bt.goodS s.ch bl && (tgood s.tb bl ar && (s.tb.all (fun p => Bt.hasS s.ch p.1 && !ats.contains p.2) && ((L.isEmpty || (Bt.allS s.ch).all (fun c => decide (0 ≤ idxS s.tb c))) && rgoodF bl ar L (some s.id) (ats ++ s.tb.map (·.2))))))))
theorem rgood_eq (bl ar : Int) : ∀ (L : List SnS) (pv : Option Int) (ats : List Int), (∀ s ∈ L, IsU8 s.ch) → rgoodF bl ar L pv ats = cgoodF bl ar L pv ats
 | [], _, _, _ => rfl
 | s :: L, pv, ats, hu => by
  rw [rgoodF, cgoodF, oneS, rgood_eq bl ar L _ _ fun s hs => hu s (by simp [hs])]
  generalize cgoodF bl ar L (some s.id) (ats ++ s.tb.map (·.2)) = R
  generalize decide (1 ≤ s.id) = b1
  generalize decide (s.id ≤ 1000000) = b2
  generalize pvOk pv s.id = b3
  generalize Bt.goodS s.ch bl = b4
  rcases hg : tgood s.tb bl ar with _ | _
  ·cases b1 <;> cases b2 <;> cases b3 <;> cases b4 <;> rfl
  have G := good_iff.1 hg
  rw [ats_iff G.inj G.up]
  have e : s.tb.all (fun p => Bt.hasS s.ch p.1 && !ats.contains p.2) = (s.tb.all (fun p => Bt.hasS s.ch p.1) && s.tb.all (fun p => !ats.contains p.2)) := by
   induction s.tb with
   | nil => rfl
   | cons p l ih =>
    rw [List.all_cons, List.all_cons, List.all_cons, ih]
    cases Bt.hasS s.ch p.1 <;> cases ats.contains p.2 <;> cases l.all (fun p => Bt.hasS s.ch p.1) <;> rfl
  rw [e]
  rcases hh : s.tb.all (fun p => Bt.hasS s.ch p.1) with _ | _
  ·cases b1 <;> cases b2 <;> cases b3 <;> cases b4 <;> rfl
  rw [full_iff G.up (hu s (by simp)) hh]
  generalize s.tb.all (fun p => !ats.contains p.2) = b5
  generalize (Bt.allS s.ch).all (fun c => decide (0 ≤ idxS s.tb c)) = b6
  generalize L.isEmpty = b7
  cases b1 <;> cases b2 <;> cases b3 <;> cases b4 <;> cases b5 <;> cases b6 <;> cases b7 <;> rfl
end Go.Proofs.Ythhodjcgcgkaaaa.G11
end
