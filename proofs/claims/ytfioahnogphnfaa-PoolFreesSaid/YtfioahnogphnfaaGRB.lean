/- What the functions that PoolFrees reaches answer, for every argument. No condition but those in each statement. -/
import Derived.Test.YtfioahnogphnfaaGRA
import Derived.Test.YtfioahnogphnfaaE6
import Derived.Shelf.Sort.Plain
import Derived.Shelf.Slices.In.SortNone
set_option linter.unusedSimpArgs false
set_option linter.unusedVariables false
set_option linter.unusedSectionVars false
set_option maxRecDepth 10000
section
namespace Go.Proofs.Ytfioahnogphnfaa.G12
open Go Go.Proofs.Ytfioahnogphnfaa.Eng
noncomputable abbrev CopL (s : LoopState) (e : Ex) (t : T) : ABlk := .loop ⟨s, e, t, [8, 9], kaq23x0, kbq23x0⟩
structure CopY (H : AHeap) (v : AV) (L : List SnS) (s : LoopState) (t : T) (w : AV) (rows : List (List AV)) (K : AHeap) : Prop where
 old : ∀ b, b < H.length → K[b]? = H[b]?
 len : H.length + 4 ≤ K.length
 wb : K[H.length]? = some (.rw [w])
 lb : K[H.length + 1]? = some (.rw [v])
 lp : K[H.length + 3]? = some (CopL s .normal t)
 gc : Gc K (H.length + 4) w L rows
 nb : ∀ r ∈ rows, ∀ x ∈ r, ∀ b, slb x = some b → H.length + 4 ≤ b
structure CopP (H : AHeap) (v : AV) (L : List SnS) (t : T) (i : Nat) (K : AHeap) : Prop where
 ex : ∃ w rows, CopY H v (L.take i) .ready t w rows K
 ib : K[H.length + 2]? = some (.rw [.int .i64 (i : Int)])
section
variable {H : AHeap} {v : AV} {L : List SnS} (g : IsC H v L) (fi : Fits L)
include g fi
set_option maxHeartbeats 4000000 in
theorem copRound {t : T} (ht : t.length = 16) (t3 : getT t 3 = .ptr H.length 0) {i : Nat} {K : AHeap} {s : SnS} {vc vt : AV} (y : CopP H v L t i K) (hx : L[i]? = some s) (hbs : BS K vc s.ch) (hip : IsP K vt s.tb) :
  ∃ K', ((envL prog).yield (H.length + 3) [.int .i64 (i : Int), .agg [.int .i64 s.id, vc, vt]] K = some (.bool true, K') ∧ K'[H.length + 2]? = some (.rw [.int .i64 (i : Int)]) ∧ CopP H v L t (i + 1) (K'.set (H.length + 2) (.rw [.int .i64 ((i + 1 : Nat) : Int)]))) ∨ ((envL prog).yield (H.length + 3) [.int .i64 (i : Int), .agg [.int .i64 s.id, vc, vt]] K = some (.bool false, K') ∧ False) := by
 obtain ⟨⟨w, rows, y⟩, ib⟩ := y
 have kl := y.len
 have ft := fits_get fi hx
 have fl := fi.1
 have lt := (List.getElem?_eq_some_iff.1 hx).1
 have tk : L.take (i + 1) = L.take i ++ [s] := by rw [List.take_add_one, hx]; rfl
 have w0 := snAlloc hbs hip
 obtain ⟨Kb, hKb⟩ : ∃ Kb, Kb = (K ++ [ABlk.rw [.int .i64 s.id, vc, vt]]).set (H.length + 3) (CopL .busy .normal t) := ⟨_, rfl⟩
 have lb : Kb.length = K.length + 1 := by rw [hKb]; exact busy_len
 have fb : ∀ b, b < K.length → b ≠ H.length + 3 → Kb[b]? = K[b]? := fun b hb hn => by rw [hKb]; exact busy_at hb hn
 have b0 : Kb[H.length]? = some (.rw [w]) := by rw [fb _ (by omega) (by omega)]; exact y.wb
 have b5 : Kb[H.length + 3]? = some (CopL .busy .normal t) := by rw [hKb]; exact busy_lp (by omega)
 have b6 : Kb[K.length]? = some (.rw [.int .i64 s.id, vc, vt]) := by rw [hKb]; exact busy_new (by omega)
 have frb : Fr K Kb (fun b => b = H.length + 3) := by rw [hKb]; exact busy_fr
 have gb := y.gc.frT frb (fun b hb h => by have := (y.gc.g.out b hb).1; omega) (fun r hr x hx b hb h => by have := y.nb r hr x hx b hb; omega)
 obtain ⟨vc', vt', K1, eo, ow⟩ := ownC (hbs.fr frb (hbs.nl y.lp)) (hip.fr frb (hip.nl y.lp)) ft
 obtain ⟨K2, hK2⟩ : ∃ K2, K2 = K1 ++ [ABlk.rw [.int .i64 s.id, vc', vt']] := ⟨_, rfl⟩
 have A2 : Adds K1 K2 := ⟨_, hK2⟩
 have A02 := ow.a.trans A2
 have c2 : cellsOf K2 K1.length = some [.int .i64 s.id, vc', vt'] := by rw [hK2]; unfold cellsOf; simp
 have l1 := ow.a.len
 have l2 := A02.len
 have wlt := fun b hb => (y.gc.g.out b hb).2
 obtain ⟨w', K3, ep, g3, fr3, sb3, l3, cw, cw'⟩ := Gc.push tySn (by rw [tySb]; omega) (by rw [tySb]; omega) (gb.adds A02) c2 (⟨vc', vt', rfl, A2.bs ow.bc, ow.pt.adds A2⟩ : SnR K2 [.int .i64 s.id, vc', vt'] s) (fun z hz b h h' => by
  have hb := wlt b h'
  simp only [List.mem_cons, List.mem_nil_iff, or_false] at hz
  rcases hz with rfl | rfl | rfl
  ·cases h
  ·have := ow.gc b h; omega
  ·have := ow.gt b h; omega) (by rw [List.length_take]; omega) (by omega)
 rw [← tk] at g3
 have e0 : ∀ {X}, Adds Kb X → X[H.length]? = some (.rw [w]) := fun a => a.at b0
 have c0 := cells_rw b0
 have c01 := cells_rw (e0 ow.a)
 have c02 := cells_rw (e0 A02)
 have wne : ¬ slb w = some H.length := fun h => by have := (y.gc.g.out _ h).1; omega
 have p3 : K3[H.length]? = some (.rw [w]) := by rw [fr3.2 _ (by omega) wne]; exact e0 A02
 have c03 := cells_rw p3
 have w1 := write_one (y := w') p3 cw'
 obtain ⟨Kc, hKc⟩ : ∃ Kc, Kc = K3.set H.length (.rw [w']) := ⟨_, rfl⟩
 rw [← hKc] at w1
 have lc : Kc.length = K3.length := by rw [hKc, List.length_set]
 have wl : ¬ slb w = some (H.length + 3) := fun h => by have := (y.gc.g.out _ h).1; omega
 have co : ∀ z, z < H.length + 4 → z ≠ H.length → Kc[z]? = Kb[z]? := fun z hz h1 => by
  rw [hKc, at_set_ne _ _ _ _ h1, fr3.2 z (by omega) (fun h => by have := (y.gc.g.out _ h).1; omega)]
  obtain ⟨X, hX⟩ := A02
  rw [hX, List.getElem?_append_left (by omega)]
 have hK2 := hK2.symm
 have kc := ow.bc.cell
 have kt := ow.pt.cell
 obtain ⟨e, Kz, K4, r, ey, h4⟩ := round_gen (P := prog) (l := H.length + 3) (args := [.int .i64 (i : Int), .agg [.int .i64 s.id, vc, vt]]) (K := K) (eaq23x0 _) (ebq23x0 _) y.lp rfl (t1 := ((t.set 8 (.int .i64 (i : Int))).set 9 (.agg [.int .i64 s.id, vc, vt])).set 5 (.ptr K.length 0)) (cs := [.int .i64 s.id, vc, vt]) (by
   unfold aq23x0
   simp -implicitDefEqProofs (maxSteps := 5000000) only [go_sem, Nat.reduceShiftRight, Nat.reduceAnd, Nat.reduceBNe, Int.reduceEq, Nat.reduceAdd, Nat.reduceSub, Nat.reduceMul, Nat.reduceLeDiff, reduceIte, reduceCtorEq, Nat.reduceBEq, Nat.reduceEqDiff, putParams, getT_set, ht, List.length_set, Nat.reduceLT, store_one, cellsA_agg, w0])
  (R := fun e K2 => e = .normal ∧ K2 = Kc) (by
   rw [← hKb]
   have c6 := cells_rw b6
   unfold bq23x0
   simp -implicitDefEqProofs (maxSteps := 5000000) only [go_sem, Nat.reduceShiftRight, Nat.reduceAnd, Nat.reduceBNe, Int.reduceEq, Nat.reduceAdd, Nat.reduceSub, Nat.reduceMul, Nat.reduceLeDiff, reduceIte, reduceCtorEq, Nat.reduceBEq, Nat.reduceEqDiff, wrap64, runC_loop, runC_range, callF_fn, callV_fn, callV_yld, yield_eq, yieldBody, yieldRaw, roundMid, roundEnd, rangeEnd, Bool.not_not, put_cons, put_nil, trim_same, at_zero, at_add, set_zero, set_add, store_one, write_zero, write_add, write_head, write_succ, splice_one, splice_more, List.drop_nil, List.take_nil, cell_int, cell_bool, fillS, splice_one, idxA, Ex.isNormal, List.set_nil, List.length_set, List.all_cons, List.all_nil, Bool.and_self, and_self, true_and, and_true, List.getElem?_nil, Int.reduceLT, Int.reduceLE, Int.reduceToNat, Int.toNat_zero, Int.toNat_one, Int.reduceAdd, Int.reduceSub, Int.reduceMul, Int.reduceNeg, Int.reduceBEq, Int.reduceBNe, Int.reduceGE, Int.reduceGT, Nat.reduceLT, trim_keep, under_fn, under_ptr, under_sl, Nat.lt_irrefl, not_lt_add, trim_tail, keepOk, ABlk.vals, Int.cast_ofNat_Int, decide_true, decide_false, List.all_cons, List.all_nil, Nat.zero_mul, Nat.mul_one, Nat.one_mul, getT_set, ht, t3, List.length_set, Nat.reduceLT, c0, c6, eo, cellsA_agg, hK2, c01, c02, c03, ep, cw, w1, outs_normal]) (by
   rintro e K2 ⟨_, rfl⟩
   rw [co _ (by omega) (by omega)]; exact b5)
 obtain ⟨he, hk⟩ := r
 rw [hk] at h4; subst he
 rw [show Ex.isNormal .normal = true from rfl] at ey h4
 simp only [if_true] at h4
 have c3 : (Kc.set (H.length + 3) (CopL .ready .normal t))[H.length]? = some (.rw [w']) := by rw [at_set_ne _ _ _ _ (by omega), hKc]; exact at_set _ _ _ (by omega)
 have e4 : K4 = Kc.set (H.length + 3) (CopL .ready .normal t) := by
  rcases h4 with h | ⟨t', _⟩
  ·exact h
  ·exfalso
   have := tr_slb t' (b := H.length) (by omega) c3 (a := w') (by simp) (fun k hk a ha x hx => by
    rw [y.wb] at hk; injection hk with hk; subst hk
    rw [List.mem_singleton.1 ha] at hx; exact wlt x hx) _ sb3
   omega
 obtain ⟨K5, hK5⟩ : ∃ K5, K5 = K4.set (H.length + 2) (.rw [.int .i64 ((i + 1 : Nat) : Int)]) := ⟨_, rfl⟩
 have at5 : ∀ z, z < H.length + 4 → z ≠ H.length → z ≠ H.length + 2 → z ≠ H.length + 3 → K5[z]? = K[z]? := fun z hz h0 h2 h3 => by
  rw [hK5, at_set_ne _ _ _ _ h2, e4, at_set_ne _ _ _ _ h3, co z hz h0]; exact fb z (by omega) h3
 have fr5 : Fr K3 K5 (fun b => b = H.length ∨ b = H.length + 3 ∨ b = H.length + 2) := by
  rw [hK5, e4, hKc]
  exact ((Fr.set _ _ (F := fun b => b = H.length ∨ b = H.length + 3 ∨ b = H.length + 2) (.inl rfl)).trans (Fr.set _ _ (F := fun b => b = H.length ∨ b = H.length + 3 ∨ b = H.length + 2) (.inr (.inl rfl))) (fun _ _ h => h)).trans (Fr.set _ _ (F := fun b => b = H.length ∨ b = H.length + 3 ∨ b = H.length + 2) (.inr (.inr rfl))) (fun _ _ h => h)
 have nb' : ∀ r ∈ rows ++ [[AV.int .i64 s.id, vc', vt']], ∀ x ∈ r, ∀ b, slb x = some b → H.length + 4 ≤ b := fun r hr x hx b hb => by
  rcases List.mem_append.1 hr with hr | hr
  ·exact y.nb r hr x hx b hb
  ·rw [List.mem_singleton.1 hr] at hx
   simp only [List.mem_cons, List.mem_nil_iff, or_false] at hx
   rcases hx with rfl | rfl | rfl
   ·cases hb
   ·have := ow.gc b hb; omega
   ·have := ow.gt b hb; omega
 have g5 := g3.frT fr5 (fun b hb h => by have := (g3.g.out b hb).1; omega) (fun r hr x hx b hb h => by have := nb' r hr x hx b hb; omega)
 have l5 : K5.length = K3.length := by rw [hK5, List.length_set, e4, List.length_set, lc]
 have i4 : K4[H.length + 2]? = some (.rw [.int .i64 (i : Int)]) := by rw [e4, at_set_ne _ _ _ _ (by omega), co _ (by omega) (by omega), fb _ (by omega) (by omega)]; exact ib
 refine ⟨K4, .inl ⟨ey, i4, ?_⟩⟩
 rw [← hK5]
 refine ⟨⟨w', _, ⟨fun z hz => by rw [at5 z (by omega) (by omega) (by omega) (by omega)]; exact y.old z hz, by omega, ?_, by rw [at5 _ (by omega) (by omega) (by omega) (by omega)]; exact y.lb, ?_, g5, nb'⟩⟩, ?_⟩
 ·rw [hK5, at_set_ne _ _ _ _ (by omega), e4]; exact c3
 ·rw [hK5, at_set_ne _ _ _ _ (by omega), e4]; exact at_set _ _ _ (by omega)
 ·rw [hK5]; exact at_set _ _ _ (by rw [e4, List.length_set]; omega)
set_option maxHeartbeats 4000000 in
theorem copRange {T : T} (ht : T.length = 16) (t3 : getT T 3 = .ptr H.length 0) (tf : getT T 7 = .fn 38 [.ptr (H.length + 2) 0, .ptr (H.length + 1) 0]) :
  Outs (runC (envL prog) (.range (X 7) [8, 9] kaq23x0 kbq23x0) T (H ++ [ABlk.rw [.nilSl], .rw [v], .rw [.int .i64 0]])) fun e t K => t = T ∧ e = .normal ∧ ∃ w rows, CopY H v L .exhausted T w rows K := by
 obtain ⟨G, hG⟩ : ∃ G, G = H ++ [ABlk.rw [.nilSl], .rw [v], .rw [.int .i64 0]] := ⟨_, rfl⟩
 obtain ⟨K0, hK0⟩ : ∃ K0, K0 = G ++ [CopL .ready .normal T] := ⟨_, rfl⟩
 have lG : G.length = H.length + 3 := by rw [hG]; simp
 have y0 : CopY H v (L.take 0) .ready T .nilSl [] K0 := ⟨fun z hz => by rw [hK0, hG, List.getElem?_append_left (by simp; omega), List.getElem?_append_left hz], by rw [hK0, List.length_append, lG]; simp, by rw [hK0, hG]; simp, by rw [hK0, hG]; simp, by rw [hK0, ← lG]; simp, Gc.nil _ _, fun r h => (by cases h)⟩
 have ib0 : K0[H.length + 2]? = some (.rw [.int .i64 ((0 : Nat) : Int)]) := by rw [hK0, hG]; simp
 rw [← hG]
 have cf : ∀ K, callF (envL prog) (X 7 T) [.yld G.length] K = (envL prog).call 38 [.yld (H.length + 3), .ptr (H.length + 2) 0, .ptr (H.length + 1) 0] K := fun K => by
  rw [lG, X_ap, tf]; rfl
 have hP : ∀ i K, CopP H v L T i K → K[H.length + 2]? = some (.rw [.int .i64 (i : Int)]) ∧ cellsOf K (H.length + 1) = some [v] ∧ Adds H K := fun i K y => by
  obtain ⟨⟨w, rows, y⟩, ib⟩ := y
  exact ⟨ib, cells_rw y.lb, Adds.of_get (by have := y.len; omega) y.old⟩
 obtain ⟨K1, ec, h1⟩ := fromAll g (v := v) (L := L) (p := H.length + 2) (q := H.length + 1) (y := H.length + 3) (P := CopP H v L T) (Q := fun _ => False) fi.1 hP (fun i K s vc vt y hx hbs hip => copRound g fi ht t3 y hx ((hP _ K y).2.2.bs hbs) (hip.adds (hP _ K y).2.2)) (i := 0) (K := K0) ⟨⟨_, _, y0⟩, ib0⟩
 have l0 : K0.length = H.length + 4 := by rw [hK0, List.length_append, lG]; rfl
 rcases h1 with ⟨j, hj, _, hj2, ⟨w, rows, y⟩, _⟩ | h
 rotate_left
 ·exact h.elim
 obtain rfl : j = L.length := hj2 (by omega)
 rw [List.take_length] at y
 obtain ⟨K4, et, h4⟩ := trim_two K0 (.tup []) K1
 rw [et] at ec
 have hl := y.len
 have a4 := fun {z} (hz : z < K0.length) => two_at h4 hz
 have l4 := two_len h4 (by omega)
 have hK1 : ∀ k, K0[H.length]? = some k → ∀ a ∈ k.vals, ∀ x, slb a = some x → x < K0.length := fun k hk a ha x hx => by
  rw [y0.wb] at hk; injection hk with hk; subst hk
  rw [List.mem_singleton.1 ha] at hx; cases hx
 have g4 : ∃ rows, Gc K4 (H.length + 4) w L rows ∧ ∀ r ∈ rows, ∀ x ∈ r, ∀ b, slb x = some b → H.length + 4 ≤ b := by
  rcases h4 with rfl | ⟨t', rfl⟩
  ·exact ⟨rows, y.gc, y.nb⟩
  ·rcases y.gc.g with ⟨rfl, rfl⟩ | ⟨_, b, hb, rfl, _⟩
   ·have : L = [] := List.length_eq_zero_iff.1 y.gc.ch.len.symm
    subst this; exact ⟨[], Gc.nil _ _, fun r h => by cases h⟩
   ·have := tr_slb t' (b := H.length) (by omega) y.wb (a := .sl b 0 3 rows.length rows.length false) (by simp) hK1 b rfl
    omega
 obtain ⟨rows, g4, n4⟩ := g4
 have := range_all (E := envL prog) (f := X 7) (ps := [8, 9]) (ka := kaq23x0) (kb := kbq23x0) (t := T) (h := G) (K := K4) (e := .normal) (st := .ready) (v := .tup []) (by rw [cf]; rw [hK0] at ec; exact ec) (by rw [lG, a4 (by omega)]; exact y.lp) (by decide)
 rw [lG] at this
 rw [this]
 refine ⟨_, _, _, rfl, rfl, rfl, w, rows, ⟨fun z hz => by rw [at_set_ne _ _ _ _ (by omega), a4 (by omega)]; exact y.old z hz, by rw [List.length_set]; omega, by rw [at_set_ne _ _ _ _ (by omega), a4 (by omega)]; exact y.wb, by rw [at_set_ne _ _ _ _ (by omega), a4 (by omega)]; exact y.lb, at_set _ _ _ (by omega), ?_, n4⟩⟩
 exact g4.frT (Fr.set _ _ (F := fun b => b = H.length + 3) rfl) (fun b hb h => by have := (g4.g.out b hb).1; omega) (fun r hr x hx b hb h => by have := n4 r hr x hx b hb; omega)
theorem copiesC : ∃ v' K, (envL prog).call 23 [v] H = some (v', K) ∧ Adds H K ∧ ∃ rows, Gc K H.length v' L rows := by
 have hr := fun T => copRange g fi (T := T)
 have ef := fromC (g.adds (⟨[ABlk.rw [.nilSl]], rfl⟩ : Adds H _)) 0
 have key : Outs (runC (envL prog) (b23 (envL prog)) ([v] ++ List.replicate (16 - [v].length) .undef) H) fun e' t K => ∃ w, Adds H K ∧ (∃ rows, Gc K H.length w L rows) ∧ fin [.tmp 2] (some (e', t, K)) = some (w, K) := by
  unfold b23
  generalize hQ : (fun (e' : Ex) (t : T) (K : AHeap) => ∃ w, Adds H K ∧ (∃ rows, Gc K H.length w L rows) ∧ fin [.tmp 2] (some (e', t, K)) = some (w, K)) = Q
  simp -implicitDefEqProofs (maxSteps := 5000000) only [go_sem, Nat.reduceShiftRight, Nat.reduceAnd, Nat.reduceBNe, Int.reduceEq, Nat.reduceAdd, Nat.reduceSub, Nat.reduceMul, Nat.reduceLeDiff, reduceIte, reduceCtorEq, Nat.reduceBEq, Nat.reduceEqDiff, wrap64, runC_loop, callF_fn, callV_fn, callV_yld, Bool.not_not, put_cons, put_nil, trim_same, at_zero, at_add, set_zero, set_add, store_one, write_zero, write_add, write_head, write_succ, splice_one, splice_more, List.drop_nil, List.take_nil, cell_int, cell_bool, fillS, splice_one, idxA, Ex.isNormal, List.set_nil, List.length_set, List.all_cons, List.all_nil, Bool.and_self, and_self, true_and, and_true, List.getElem?_nil, Int.reduceLT, Int.reduceLE, Int.reduceToNat, Int.toNat_zero, Int.toNat_one, Int.reduceAdd, Int.reduceSub, Int.reduceMul, Int.reduceNeg, Int.reduceBEq, Int.reduceBNe, Int.reduceGE, Int.reduceGT, Nat.reduceLT, trim_keep, under_fn, under_ptr, under_sl, Nat.lt_irrefl, not_lt_add, trim_tail, keepOk, ABlk.vals, Int.cast_ofNat_Int, decide_true, decide_false, List.all_cons, List.all_nil, Nat.zero_mul, Nat.mul_one, Nat.one_mul, ef]
  refine outs_ctx (fun r => seqR (blockR 0 r) _) (hr _ rfl rfl rfl) ?_
  rintro e t K ⟨rfl, rfl, w, rows, y⟩
  have aK : Adds H K := Adds.of_get (by have := y.len; omega) y.old
  have c1 := cells_rw y.wb
  simp -implicitDefEqProofs (maxSteps := 5000000) only [go_sem, Nat.reduceShiftRight, Nat.reduceAnd, Nat.reduceBNe, Int.reduceEq, Nat.reduceAdd, Nat.reduceSub, Nat.reduceMul, Nat.reduceLeDiff, reduceIte, reduceCtorEq, Nat.reduceBEq, Nat.reduceEqDiff, wrap64, runC_loop, runC_range, callF_fn, callV_fn, callV_yld, yield_eq, yieldBody, yieldRaw, roundMid, roundEnd, rangeEnd, Bool.not_not, put_cons, put_nil, trim_same, at_zero, at_add, set_zero, set_add, store_one, write_zero, write_add, write_head, write_succ, splice_one, splice_more, List.drop_nil, List.take_nil, cell_int, cell_bool, fillS, splice_one, idxA, Ex.isNormal, List.set_nil, List.length_set, List.all_cons, List.all_nil, Bool.and_self, and_self, true_and, and_true, List.getElem?_nil, Int.reduceLT, Int.reduceLE, Int.reduceToNat, Int.toNat_zero, Int.toNat_one, Int.reduceAdd, Int.reduceSub, Int.reduceMul, Int.reduceNeg, Int.reduceBEq, Int.reduceBNe, Int.reduceGE, Int.reduceGT, Nat.reduceLT, trim_keep, under_fn, under_ptr, under_sl, Nat.lt_irrefl, not_lt_add, trim_tail, keepOk, ABlk.vals, Int.cast_ofNat_Int, decide_true, decide_false, List.all_cons, List.all_nil, Nat.zero_mul, Nat.mul_one, Nat.one_mul, c1, outs_normal]
  subst hQ
  refine ⟨w, aK, ⟨rows, y.gc.low (by omega)⟩, ?_⟩
  simp -implicitDefEqProofs (maxSteps := 5000000) only [go_sem, Nat.reduceShiftRight, Nat.reduceAnd, Nat.reduceBNe, Int.reduceEq, Nat.reduceAdd, Nat.reduceSub, Nat.reduceMul, Nat.reduceLeDiff, reduceIte, reduceCtorEq, Nat.reduceBEq, Nat.reduceEqDiff, wrap64, runC_loop, runC_range, callF_fn, callV_fn, callV_yld, yield_eq, yieldBody, yieldRaw, roundMid, roundEnd, rangeEnd, Bool.not_not, put_cons, put_nil, trim_same, at_zero, at_add, set_zero, set_add, store_one, write_zero, write_add, write_head, write_succ, splice_one, splice_more, List.drop_nil, List.take_nil, cell_int, cell_bool, fillS, splice_one, idxA, Ex.isNormal, List.set_nil, List.length_set, List.all_cons, List.all_nil, Bool.and_self, and_self, true_and, and_true, List.getElem?_nil, Int.reduceLT, Int.reduceLE, Int.reduceToNat, Int.toNat_zero, Int.toNat_one, Int.reduceAdd, Int.reduceSub, Int.reduceMul, Int.reduceNeg, Int.reduceBEq, Int.reduceBNe, Int.reduceGE, Int.reduceGT, Nat.reduceLT, trim_keep, under_fn, under_ptr, under_sl, Nat.lt_irrefl, not_lt_add, trim_tail, keepOk, ABlk.vals, Int.cast_ofNat_Int, decide_true, decide_false, List.all_cons, List.all_nil, Nat.zero_mul, Nat.mul_one, Nat.one_mul]
 obtain ⟨e', t, K, hr, w, aK, ⟨rows, gk⟩, hf⟩ := key
 obtain ⟨K', e, a, r⟩ := gc_cut g fi aK gk
 exact ⟨w, K', by rw [c23, hr, hf]; exact e, a, r⟩
end
end Go.Proofs.Ytfioahnogphnfaa.G12
end
section
namespace Go.Proofs.Ytfioahnogphnfaa.G12
open Go Go.Proofs.Ytfioahnogphnfaa.Eng
theorem chR_app {H : AHeap} {r1 r2 : List (List AV)} {L1 L2 : List SnS} (a : ChR H r1 L1) (b : ChR H r2 L2) : ChR H (r1 ++ r2) (L1 ++ L2) := by
 refine ⟨by rw [List.length_append, List.length_append, a.len, b.len], fun i r s h1 h2 => ?_⟩
 by_cases hi : i < r1.length
 ·rw [List.getElem?_append_left hi] at h1
  rw [List.getElem?_append_left (by rw [← a.len]; exact hi)] at h2
  exact a.el i r s h1 h2
 ·rw [List.getElem?_append_right (by omega)] at h1
  rw [List.getElem?_append_right (by rw [← a.len]; omega), ← a.len] at h2
  exact b.el _ r s h1 h2
theorem chR_take {H : AHeap} {r : List (List AV)} {L : List SnS} (a : ChR H r L) (n : Nat) : ChR H (r.take n) (L.take n) := by
 refine ⟨by rw [List.length_take, List.length_take, a.len], fun i x s h1 h2 => ?_⟩
 rw [List.getElem?_take] at h1 h2
 split at h1
 ·rw [if_pos (by assumption)] at h2; exact a.el i x s h1 h2
 ·cases h1
theorem chR_drop {H : AHeap} {r : List (List AV)} {L : List SnS} (a : ChR H r L) (n : Nat) : ChR H (r.drop n) (L.drop n) := by
 refine ⟨by rw [List.length_drop, List.length_drop, a.len], fun i x s h1 h2 => ?_⟩
 rw [List.getElem?_drop] at h1 h2
 exact a.el _ x s h1 h2
theorem chR_one {H : AHeap} {r : List AV} {s : SnS} (g : SnR H r s) : ChR H [r] [s] := by
 refine ⟨rfl, fun i x y h1 h2 => ?_⟩
 cases i with
 | zero =>
  simp only [List.getElem?_cons_zero, Option.some.injEq] at h1 h2
  subst h1; subst h2; exact g
 | succ i => simp at h1
def joinS (a b : SnS) : SnS := ⟨a.id, Bt.orS a.ch b.ch, (tmerge a.tb b.tb a.tb []).1⟩
def dropN (L : List SnS) : Nat → List SnS
 | 0 => L.drop 1
 | k + 1 => match L[k]?, L[k + 1]? with
  | some a, some b => L.take k ++ joinS a b :: L.drop (k + 2)
  | _, _ => L
def dropS (L : List SnS) (i : Int) : List SnS := if i < 0 ∨ (L.length : Int) ≤ i then L else dropN L i.toNat
def cutS (L : List SnS) (i : Int) : List SnS := if i < 0 ∨ (L.length : Int) ≤ i then L else
 match L[i.toNat]? with
 | some s => L.take i.toNat ++ [⟨s.id, List.replicate s.ch.length 0, []⟩]
 | none => L
def zeroR : List AV := [.int .i64 0, .nilSl, .nilSl]
theorem deleteC {K : AHeap} {b : Nat} {rows : List (List AV)} (hb : K[b]? = some (.rw rows.flatten)) (h3 : ∀ r ∈ rows, r.length = 3) (hc : ∀ r ∈ rows, r.all AV.isCell = true) {i : Nat} (hi : i < rows.length) (hn : rows.length ≤ 1000) :
  ∃ K', (envL prog).call 26 [.sl b 0 3 rows.length rows.length false, .int .i64 (i : Int), .int .i64 ((i + 1 : Nat) : Int)] K = some (.sl b 0 3 (rows.length - 1) rows.length false, K') ∧ K'.length = K.length ∧ K'[b]? = some (.rw ((rows.take i ++ rows.drop (i + 1)).flatten ++ zeroR)) ∧ ∀ z, z ≠ b → K'[z]? = K[z]? := by
 have lb := lt_of_at hb
 have hl := rows_len h3
 have z1 : zeroR.length = 3 := rfl
 have sl1 : sliceS 3 (.sl b 0 3 rows.length rows.length false) (some (.int .i64 (i : Int))) (some (.int .i64 ((i + 1 : Nat) : Int))) (some (.int .i64 (rows.length : Int))) = some (.sl b (0 + i * 3) 3 (i + 1 - i) (rows.length - i) true) := by
  simp only [sliceS, asI, Option.bind_some]
  rw [if_neg (by simp), if_pos ⟨rfl, by omega, by omega, by omega, by omega⟩]
  simp only [Int.toNat_natCast]
 have neq : ((i : Int) == ((i + 1 : Nat) : Int)) = false := by rw [beq_eq_false_iff_ne]; omega
 have sl2 := sl_to (sz := 3) (b := b) (off := 0) (len := rows.length) (cp := rows.length) (u := i) (ex := false) (by omega)
 have sl3 := sl_from (sz := 3) (b := b) (off := 0) (len := rows.length) (cp := rows.length) (i := i + 1) (ex := false) (by omega) (by omega)
 have e0 : rows = rows.take i ++ rows[i] :: rows.drop (i + 1) := by rw [← List.drop_eq_getElem_cons hi, List.take_append_drop]
 obtain ⟨last, hlast⟩ : ∃ x, x = rows[rows.length - 1] := ⟨_, rfl⟩
 have l3 : last.length = 3 := by rw [hlast]; exact h3 _ (List.getElem_mem _)
 have tl : (rows.take i).length = i := by rw [List.length_take]; omega
 have dl : (rows.drop (i + 1)).length = rows.length - (i + 1) := List.length_drop
 have t3 : (rows.take i).flatten.length = i * 3 := by rw [rows_len (fun r hr => h3 r (List.mem_of_mem_take hr)), tl]
 have d3 : (rows.drop (i + 1)).flatten.length = (rows.length - (i + 1)) * 3 := by rw [rows_len (fun r hr => h3 r (List.mem_of_mem_drop hr)), dl]
 have step : ∃ K1, app (ty 3 true 56 [.int .i64 0, .nilSl, .nilSl]) (.sl b 0 3 i rows.length false) (.sl b (0 + (i + 1) * 3) 3 (rows.length - (i + 1)) (rows.length - (i + 1)) false) K = some (.sl b 0 3 (rows.length - 1) rows.length false, K1) ∧ K1.length = K.length ∧ K1[b]? = some (.rw ((rows.take i ++ rows.drop (i + 1)).flatten ++ last)) ∧ ∀ z, z ≠ b → K1[z]? = K[z]? := by
  have hr : readN K b (0 + (i + 1) * 3) ((rows.length - (i + 1)) * 3) = some (rows.drop (i + 1)).flatten := by
   unfold readN
   rw [cells_rw hb, Option.bind_some, if_pos (by omega), Nat.zero_add]
   have e1 : rows.flatten = (rows.take (i + 1)).flatten ++ (rows.drop (i + 1)).flatten := by rw [← List.flatten_append, List.take_append_drop]
   have e2 : (rows.take (i + 1)).flatten.length = (i + 1) * 3 := by rw [rows_len (fun r hr => h3 r (List.mem_of_mem_take hr)), List.length_take]; congr 1; omega
   rw [e1, ← e2, List.drop_left, List.take_of_length_le (by omega)]
  unfold app srcLen srcCells
  simp only [Option.bind_some, show (ty 3 true 56 [AV.int .i64 0, .nilSl, .nilSl]).size = 3 from rfl, if_true, hr]
  unfold appendV
  simp only [show (ty 3 true 56 [AV.int .i64 0, .nilSl, .nilSl]).size = 3 from rfl]
  rw [if_neg (by simp)]
  by_cases hz : rows.length - (i + 1) = 0
  ·have hii : i = rows.length - 1 := by omega
   rw [if_pos hz]
   refine ⟨K, by rw [hii], rfl, ?_, fun _ _ => rfl⟩
   have : rows.drop (i + 1) = [] := List.drop_eq_nil_of_le (by omega)
   rw [this, List.append_nil, hb]
   congr 2
   have e1 : rows.flatten = (rows.take i).flatten ++ (rows[i] :: rows.drop (i + 1)).flatten := by rw [← List.flatten_append, ← e0]
   rw [e1, this, hlast]
   simp only [List.flatten_cons, List.flatten_nil, List.append_nil]
   congr 2
  ·rw [if_neg hz, if_pos (by omega)]
   have lx : 0 + i * 3 + (rows.drop (i + 1)).flatten.length ≤ rows.flatten.length := by rw [d3, hl, Nat.zero_add, ← Nat.add_mul]; exact Nat.mul_le_mul_right 3 (by omega)
   rw [write_of hb, if_pos ⟨lx, by
    rw [List.all_eq_true]; intro x hx
    obtain ⟨r, hr, hx⟩ := List.mem_flatten.1 hx
    exact List.all_eq_true.1 (hc r (List.mem_of_mem_drop hr)) x hx⟩]
   refine ⟨K.set b (.rw (splice rows.flatten (0 + i * 3) (rows.drop (i + 1)).flatten)), by rw [show i + (rows.length - (i + 1)) = rows.length - 1 by omega]; rfl, by rw [List.length_set], ?_, fun z hz => at_set_ne _ _ _ _ hz⟩
   ·have : i + (rows.length - (i + 1)) = rows.length - 1 := by omega
    rw [at_set _ _ _ lb, splice_long _ _ _ (by rw [d3]; omega)]
    congr 2
    rw [Nat.zero_add, d3, show i * 3 + (rows.length - (i + 1)) * 3 = (rows.length - 1) * 3 by rw [← Nat.add_mul]; congr 1]
    have e1 : rows.flatten = (rows.take i).flatten ++ (rows[i] :: rows.drop (i + 1)).flatten := by rw [← List.flatten_append, ← e0]
    have e2 : rows.flatten = (rows.take (rows.length - 1)).flatten ++ last := by
     have : rows = rows.take (rows.length - 1) ++ [last] := by
      rw [hlast, List.take_append_getElem, show rows.length - 1 + 1 = rows.length by omega, List.take_length]
     conv => lhs; rw [this]
     rw [List.flatten_append]; simp
    have l2 : (rows.take (rows.length - 1)).flatten.length = (rows.length - 1) * 3 := by rw [rows_len (fun r hr => h3 r (List.mem_of_mem_take hr)), List.length_take]; congr 1; omega
    rw [List.flatten_append]
    congr 1
    ·congr 1
     rw [e1, ← t3, List.take_left]
    ·rw [e2, ← l2, List.drop_left]
 obtain ⟨K1, ea, l1, b1, o1⟩ := step
 have fl : (rows.take i ++ rows.drop (i + 1)).flatten.length = (rows.length - 1) * 3 := by
  rw [List.flatten_append, List.length_append, t3, d3, ← Nat.add_mul]; congr 1; omega
 have sl4 : sliceS 3 (.sl b 0 3 (rows.length - 1) rows.length false) (some (.int .i64 ((rows.length - 1 : Nat) : Int))) (some (.int .i64 (rows.length : Int))) none = some (.sl b (0 + (rows.length - 1) * 3) 3 1 (rows.length - (rows.length - 1)) false) := by
  simp only [sliceS, asI, Option.bind_some]
  rw [if_neg (by simp), if_pos ⟨by omega, by omega, by omega⟩]
  simp only [Int.toNat_natCast]
  rw [show rows.length - (rows.length - 1) = 1 by omega]
 have ec : clearV (ty 3 true 56 [.int .i64 0, .nilSl, .nilSl]) (.sl b (0 + (rows.length - 1) * 3) 3 1 (rows.length - (rows.length - 1)) false) K1 = some (.tup [], K1.set b (.rw ((rows.take i ++ rows.drop (i + 1)).flatten ++ zeroR))) := by
  unfold clearV
  simp only [show (ty 3 true 56 [AV.int .i64 0, .nilSl, .nilSl]).size = 3 from rfl]
  rw [if_neg (by simp), if_neg (by simp), show (List.replicate 1 (ty 3 true 56 [AV.int .i64 0, .nilSl, .nilSl]).zero).flatten = zeroR from rfl]
  rw [write_of b1, if_pos ⟨by rw [List.length_append, fl, z1, l3]; omega, rfl⟩, splice_long _ _ _ (by rw [z1]; omega)]
  generalize (rows.take i ++ rows.drop (i + 1)).flatten = Y at *
  have ed : (Y ++ last).drop (Y.length + zeroR.length) = [] := List.drop_eq_nil_of_le (by rw [List.length_append, z1, l3]; exact Nat.le_refl _)
  rw [Nat.zero_add, ← fl, List.take_left, ed, List.append_nil]
  rfl
 refine ⟨_, ?_, by rw [List.length_set, l1], at_set _ _ _ (by omega), fun z hz => by rw [at_set_ne _ _ _ _ hz]; exact o1 z hz⟩
 rw [Nat.zero_add] at sl3 sl4 ec ea sl1
 rw [c26]
 unfold b26
 simp -implicitDefEqProofs (maxSteps := 5000000) only [go_sem, Nat.reduceShiftRight, Nat.reduceAnd, Nat.reduceBNe, Int.reduceEq, Nat.reduceAdd, Nat.reduceSub, Nat.reduceMul, Nat.reduceLeDiff, reduceIte, reduceCtorEq, Nat.reduceBEq, Nat.reduceEqDiff, wrap64, runC_loop, runC_range, callF_fn, callV_fn, callV_yld, yield_eq, yieldBody, yieldRaw, roundMid, roundEnd, rangeEnd, Bool.not_not, put_cons, put_nil, trim_same, at_zero, at_add, set_zero, set_add, store_one, write_zero, write_add, write_head, write_succ, splice_one, splice_more, List.drop_nil, List.take_nil, cell_int, cell_bool, fillS, splice_one, idxA, Ex.isNormal, List.set_nil, List.length_set, List.all_cons, List.all_nil, Bool.and_self, and_self, true_and, and_true, List.getElem?_nil, Int.reduceLT, Int.reduceLE, Int.reduceToNat, Int.toNat_zero, Int.toNat_one, Int.reduceAdd, Int.reduceSub, Int.reduceMul, Int.reduceNeg, Int.reduceBEq, Int.reduceBNe, Int.reduceGE, Int.reduceGT, Nat.reduceLT, trim_keep, under_fn, under_ptr, under_sl, Nat.lt_irrefl, not_lt_add, trim_tail, keepOk, ABlk.vals, Int.cast_ofNat_Int, decide_true, decide_false, List.all_cons, List.all_nil, Nat.zero_mul, Nat.mul_one, Nat.one_mul, sl1, neq, sl2, sl3, ea, sl4, ec]
 exact trim_same (by rw [List.length_set, l1])
end Go.Proofs.Ytfioahnogphnfaa.G12
end
section
namespace Go.Proofs.Ytfioahnogphnfaa.G12
open Go Go.Proofs.Ytfioahnogphnfaa.Eng
theorem snR_pat {H : AHeap} {r : List AV} {s : SnS} (g : SnR H r s) : ∃ vc vt, r = [.int .i64 s.id, vc, vt] ∧ BS H vc s.ch ∧ IsP H vt s.tb := g
theorem gc_sl {H : AHeap} {B : Nat} {v : AV} {L : List SnS} {rows : List (List AV)} (g : Gc H B v L rows) (h : L ≠ []) : ∃ b, B ≤ b ∧ v = .sl b 0 3 L.length L.length false ∧ H[b]? = some (.rw rows.flatten) := by
 rcases g.g with ⟨rfl, rfl⟩ | ⟨_, b, hb, rfl, hH⟩
 ·exact absurd (List.length_eq_zero_iff.1 g.ch.len.symm) h
 ·exact ⟨b, hb, by rw [g.ch.len], hH⟩
theorem chR_cells {H : AHeap} {rows : List (List AV)} {L : List SnS} (g : ChR H rows L) : ∀ r ∈ rows, r.all AV.isCell = true := fun r hr => by obtain ⟨s, _, q⟩ := g.row hr; exact q.cell
theorem sl_end {H K : AHeap} {b o z n c : Nat} {e : Bool} (hb : H.length ≤ b) (a : Adds H K) : trim H (some (.sl b o z n c e, K)) = some (.sl b o z n c e, K) := by
 rcases trim_adds (v := .sl b o z n c e) a with h | ⟨u, _⟩
 ·exact h
 ·have := slb_under u rfl; omega
section
variable {H : AHeap} {v : AV} {L : List SnS} (g : IsC H v L) (fi : Fits L)
include g fi
set_option maxHeartbeats 8000000 in
theorem dropC (i : Int) : ∃ w K, callBody prog (envX prog X3) 12 [v, .int .i64 i] H = some (w, K) ∧ Adds H K ∧ IsC K w (dropS L i) := by
 obtain ⟨x, K, ec, A, rows, gk⟩ := copiesC g fi
 have wl := gk.isC.len
 have fl := fi.1
 by_cases h0 : i < 0
 ·have d0 := decide_eq_true h0
  have hs : dropS L i = L := by unfold dropS; rw [if_pos (.inl h0)]
  rw [hs]
  obtain ⟨K', e, a, rows, r⟩ := gc_cut g fi A gk
  refine ⟨x, K', ?_, a, r.isC⟩
  rw [d12]
  unfold b12
  simp -implicitDefEqProofs (maxSteps := 5000000) only [go_sem, Nat.reduceShiftRight, Nat.reduceAnd, Nat.reduceBNe, Int.reduceEq, Nat.reduceAdd, Nat.reduceSub, Nat.reduceMul, Nat.reduceLeDiff, reduceIte, reduceCtorEq, Nat.reduceBEq, Nat.reduceEqDiff, wrap64, runC_loop, runC_range, callF_fn, callV_fn, callV_yld, yield_eq, yieldBody, yieldRaw, roundMid, roundEnd, rangeEnd, Bool.not_not, put_cons, put_nil, trim_same, at_zero, at_add, set_zero, set_add, store_one, write_zero, write_add, write_head, write_succ, splice_one, splice_more, List.drop_nil, List.take_nil, cell_int, cell_bool, fillS, splice_one, idxA, Ex.isNormal, List.set_nil, List.length_set, List.all_cons, List.all_nil, Bool.and_self, and_self, true_and, and_true, List.getElem?_nil, Int.reduceLT, Int.reduceLE, Int.reduceToNat, Int.toNat_zero, Int.toNat_one, Int.reduceAdd, Int.reduceSub, Int.reduceMul, Int.reduceNeg, Int.reduceBEq, Int.reduceBNe, Int.reduceGE, Int.reduceGT, Nat.reduceLT, trim_keep, under_fn, under_ptr, under_sl, Nat.lt_irrefl, not_lt_add, trim_tail, keepOk, ABlk.vals, Int.cast_ofNat_Int, decide_true, decide_false, List.all_cons, List.all_nil, Nat.zero_mul, Nat.mul_one, Nat.one_mul, x3_call, ec, d0, e]
 have d0 := decide_eq_false h0
 by_cases h1 : i ≥ (L.length : Int)
 ·have d1 := decide_eq_true h1
  have hs : dropS L i = L := by unfold dropS; rw [if_pos (.inr h1)]
  rw [hs]
  obtain ⟨K', e, a, rows, r⟩ := gc_cut g fi A gk
  refine ⟨x, K', ?_, a, r.isC⟩
  rw [d12]
  unfold b12
  simp -implicitDefEqProofs (maxSteps := 5000000) only [go_sem, Nat.reduceShiftRight, Nat.reduceAnd, Nat.reduceBNe, Int.reduceEq, Nat.reduceAdd, Nat.reduceSub, Nat.reduceMul, Nat.reduceLeDiff, reduceIte, reduceCtorEq, Nat.reduceBEq, Nat.reduceEqDiff, wrap64, runC_loop, runC_range, callF_fn, callV_fn, callV_yld, yield_eq, yieldBody, yieldRaw, roundMid, roundEnd, rangeEnd, Bool.not_not, put_cons, put_nil, trim_same, at_zero, at_add, set_zero, set_add, store_one, write_zero, write_add, write_head, write_succ, splice_one, splice_more, List.drop_nil, List.take_nil, cell_int, cell_bool, fillS, splice_one, idxA, Ex.isNormal, List.set_nil, List.length_set, List.all_cons, List.all_nil, Bool.and_self, and_self, true_and, and_true, List.getElem?_nil, Int.reduceLT, Int.reduceLE, Int.reduceToNat, Int.toNat_zero, Int.toNat_one, Int.reduceAdd, Int.reduceSub, Int.reduceMul, Int.reduceNeg, Int.reduceBEq, Int.reduceBNe, Int.reduceGE, Int.reduceGT, Nat.reduceLT, trim_keep, under_fn, under_ptr, under_sl, Nat.lt_irrefl, not_lt_add, trim_tail, keepOk, ABlk.vals, Int.cast_ofNat_Int, decide_true, decide_false, List.all_cons, List.all_nil, Nat.zero_mul, Nat.mul_one, Nat.one_mul, x3_call, ec, d0, wl, d1, e]
 have d1 := decide_eq_false h1
 obtain ⟨n, rfl⟩ : ∃ n : Nat, i = n := ⟨i.toNat, by omega⟩
 have hn : n < L.length := by omega
 have hs : dropS L (n : Int) = dropN L n := by unfold dropS; rw [if_neg (by omega), Int.toNat_natCast]
 rw [hs]
 obtain ⟨b, hb, rfl, hH⟩ := gc_sl gk (fun e => by rw [e] at hn; simp at hn)
 have lr := gk.ch.len
 have h3 := gk.ch.len3
 have lb := lt_of_at hH
 have e2 : IntKind.i64.wrap ((n : Int) + 1) = ((n + 1 : Nat) : Int) := by rw [wrap64 (by omega) (by omega)]; omega
 have nb : ∀ r ∈ rows, ∀ x ∈ r, ∀ z, slb x = some z → ¬ z = b := fun r hr x hx z hz h => gk.ap r hr x hx z hz (by rw [h]; rfl)
 cases n with
 | zero =>
  have dg : decide (((0 : Nat) : Int) > 0) = false := rfl
  obtain ⟨K', ed, l', b', o'⟩ := deleteC hH h3 (chR_cells gk.ch) (i := 0) (by omega) (by omega)
  have fr : Fr K K' (fun z => z = b) := ⟨by omega, fun z hz hn => o' z hn⟩
  have aK : Adds H K' := fr.old A fun z hz h => by omega
  rw [lr, show ((0 : Nat) : Int) = 0 from rfl, show ((0 + 1 : Nat) : Int) = 1 from rfl] at ed
  rw [show ((0 : Nat) : Int) = 0 from rfl] at d1
  have tr := sl_end (o := 0) (z := 3) (n := L.length - 1) (c := L.length) (e := false) hb aK
  refine ⟨_, K', ?_, aK, .inr ⟨b, L.length, false, rows.take 0 ++ rows.drop (0 + 1), zeroR, by unfold dropN; rw [List.length_drop], by unfold dropN; rw [List.length_drop]; omega, cells_rw b', ?_⟩⟩
  ·rw [d12]
   unfold b12
   simp -implicitDefEqProofs (maxSteps := 5000000) only [go_sem, Nat.reduceShiftRight, Nat.reduceAnd, Nat.reduceBNe, Int.reduceEq, Nat.reduceAdd, Nat.reduceSub, Nat.reduceMul, Nat.reduceLeDiff, reduceIte, reduceCtorEq, Nat.reduceBEq, Nat.reduceEqDiff, wrap64, runC_loop, runC_range, callF_fn, callV_fn, callV_yld, yield_eq, yieldBody, yieldRaw, roundMid, roundEnd, rangeEnd, Bool.not_not, put_cons, put_nil, trim_same, at_zero, at_add, set_zero, set_add, store_one, write_zero, write_add, write_head, write_succ, splice_one, splice_more, List.drop_nil, List.take_nil, cell_int, cell_bool, fillS, splice_one, idxA, Ex.isNormal, List.set_nil, List.length_set, List.all_cons, List.all_nil, Bool.and_self, and_self, true_and, and_true, List.getElem?_nil, Int.reduceLT, Int.reduceLE, Int.reduceToNat, Int.toNat_zero, Int.toNat_one, Int.reduceAdd, Int.reduceSub, Int.reduceMul, Int.reduceNeg, Int.reduceBEq, Int.reduceBNe, Int.reduceGE, Int.reduceGT, Nat.reduceLT, trim_keep, under_fn, under_ptr, under_sl, Nat.lt_irrefl, not_lt_add, trim_tail, keepOk, ABlk.vals, Int.cast_ofNat_Int, decide_true, decide_false, List.all_cons, List.all_nil, Nat.zero_mul, Nat.mul_one, Nat.one_mul, x3_call, ec, d0, wl, d1, dg, e2, ed]
   exact tr
  ·exact (chR_drop (gk.ch.fr fr nb) 1)
 | succ k =>
  have dg : decide (((k + 1 : Nat) : Int) > 0) = true := decide_eq_true (by omega)
  have e1 : IntKind.i64.wrap (((k + 1 : Nat) : Int) - 1) = (k : Int) := by rw [wrap64 (by omega) (by omega)]; omega
  have hk : k < L.length := by omega
  have hx := List.getElem?_eq_getElem hk
  have hy := List.getElem?_eq_getElem hn
  have f1 := fits_get fi hx
  have f2 := fits_get fi hy
  have hd : dropN L (k + 1) = L.take k ++ joinS L[k] L[k + 1] :: L.drop (k + 2) := by simp only [dropN, hx, hy]
  rw [hd]
  generalize L[k] = s at *
  generalize L[k + 1] = u at *
  obtain ⟨r, hr, gr⟩ := gk.ch.get hx
  obtain ⟨vc, vt, rfl, bc, pt⟩ := snR_pat gr
  obtain ⟨ru, hru, gu⟩ := gk.ch.get hy
  obtain ⟨uc, ut, rfl, bu, pu⟩ := snR_pat gu
  have cu := gu.cell
  have hl := rows_len h3
  have ixk := idx_nat b 3 L.length L.length k false .i64 (by omega) hk
  have ixn := idx_nat b 3 L.length L.length (k + 1) false .i64 (by omega) hn
  have cH := cells_rw hH
  have tku : (rows.flatten.drop ((k + 1) * 3)).take 3 = [.int .i64 u.id, uc, ut] := rows_take h3 hru
  have hle : (k + 1) * 3 + 3 ≤ rows.flatten.length := by rw [hl]; omega
  obtain ⟨K1, hK1⟩ : ∃ K1, K1 = K ++ [ABlk.rw [.int .i64 u.id, uc, ut]] := ⟨_, rfl⟩
  have A1 : Adds K K1 := ⟨_, hK1⟩
  have w0 : writeN (K ++ [ABlk.rw [AV.int .i64 0, .nilSl, .nilSl]]) K.length 0 [.int .i64 u.id, uc, ut] = some K1 := by
   rw [write_zero, if_pos ⟨by simp, cu⟩, hK1]; rfl
  have b1 : K1[b]? = some (.rw rows.flatten) := A1.at hH
  have c1 := cells_rw b1
  have n1 : cellsOf K1 K.length = some [.int .i64 u.id, uc, ut] := by rw [hK1]; unfold cellsOf; simp
  have m1 : rows.flatten[k * 3 + 1]? = some vc := by rw [rows_get h3 hr 1 (by omega)]; rfl
  obtain ⟨w1, G, ow, eo⟩ := Bt.orC (A1.bs bc) (A1.bs bu) (by have := f1.lc; omega) (by have := f2.lc; omega)
  have wg := own_ge ow
  have lK1 : K1.length = K.length + 1 := by rw [hK1]; simp
  have cw := ow.bs.cell
  obtain ⟨K2, hK2⟩ : ∃ K2, K2 = K1 ++ G := ⟨_, rfl⟩
  have A2 : Adds K1 K2 := ⟨_, hK2⟩
  have bw : BS K2 w1 (Bt.orS s.ch u.ch) := by rw [hK2]; exact ow.bs
  rw [← hK2] at eo
  have b2 : K2[b]? = some (.rw rows.flatten) := A2.at b1
  have wr1 : writeN K2 b (k * 3 + 1) [w1] = some (K2.set b (.rw (rows.set k [.int .i64 s.id, w1, vt]).flatten)) := by
   rw [write_of b2, if_pos ⟨by show k * 3 + 1 + 1 ≤ _; rw [rows_len h3]; omega, by simp [cw.2]⟩, splice_one, rows_set h3 hr 1 _ (by omega)]; rfl
  obtain ⟨rows1, hr1⟩ : ∃ r, r = rows.set k [AV.int .i64 s.id, w1, vt] := ⟨_, rfl⟩
  rw [← hr1] at wr1
  have h31 : ∀ r ∈ rows1, r.length = 3 := fun r h => by
   rw [hr1] at h
   rcases List.mem_or_eq_of_mem_set h with h | h
   ·exact h3 r h
   ·rw [h]; rfl
  have hkr : k < rows.length := by omega
  have g1 : rows1[k]? = some [AV.int .i64 s.id, w1, vt] := by rw [hr1]; simp [hkr]
  have l1 : rows1.length = rows.length := by rw [hr1, List.length_set]
  have hl1 := rows_len h31
  obtain ⟨K3, hK3⟩ : ∃ K3, K3 = K2.set b (ABlk.rw rows1.flatten) := ⟨_, rfl⟩
  rw [← hK3] at wr1
  have lb2 : b < K2.length := lt_of_at b2
  have b3 : K3[b]? = some (.rw rows1.flatten) := by rw [hK3]; exact at_set _ _ _ lb2
  have c3 := cells_rw b3
  have m3 : rows1.flatten[k * 3 + 2]? = some vt := by rw [rows_get h31 g1 2 (by omega)]; rfl
  have fr3 : Fr K2 K3 (fun z => z = b) := by rw [hK3]; exact Fr.set _ _ (F := fun z => z = b) rfl
  have nK : K.length ≠ b := by omega
  have n3 : cellsOf K3 K.length = some [.int .i64 u.id, uc, ut] := fr3.cells (A2.cells n1) nK
  have nbr := fun z hz => nb _ (List.mem_of_getElem? hr) vt (by simp) z hz
  have nbu := fun z hz => nb _ (List.mem_of_getElem? hru) ut (by simp) z hz
  have pt3 : IsP K3 vt s.tb := ((pt.adds A1).adds A2).fr fr3 nbr
  have pu3 : IsP K3 ut u.tb := ((pu.adds A1).adds A2).fr fr3 nbu
  obtain ⟨v4, v5, K4, em, A4, g4, g5⟩ := mergeC pt3 f1.lt pu3 f2.lt
  have em := x3_merge em
  have b4 : K4[b]? = some (.rw rows1.flatten) := A4.at b3
  have cv := g4.isP.cell
  have vg := g4.out
  have wr2 : writeN K4 b (k * 3 + 2) [v4] = some (K4.set b (.rw (rows1.set k [.int .i64 s.id, w1, v4]).flatten)) := by
   rw [write_of b4, if_pos ⟨by show k * 3 + 2 + 1 ≤ _; rw [rows_len h31]; omega, by simp [cv.2]⟩, splice_one, rows_set h31 g1 2 _ (by omega)]; rfl
  obtain ⟨rows2, hr2⟩ : ∃ r, r = rows1.set k [AV.int .i64 s.id, w1, v4] := ⟨_, rfl⟩
  rw [← hr2] at wr2
  have h32 : ∀ r ∈ rows2, r.length = 3 := fun r h => by
   rw [hr2] at h
   rcases List.mem_or_eq_of_mem_set h with h | h
   ·exact h31 r h
   ·rw [h]; rfl
  have l2 : rows2.length = L.length := by rw [hr2, List.length_set, l1, lr]
  obtain ⟨K5, hK5⟩ : ∃ K5, K5 = K4.set b (ABlk.rw rows2.flatten) := ⟨_, rfl⟩
  rw [← hK5] at wr2
  have b5 : K5[b]? = some (.rw rows2.flatten) := by rw [hK5]; exact at_set _ _ _ (lt_of_at b4)
  have lK3 : K3.length = K2.length := by rw [hK3, List.length_set]
  have fr5 : Fr K4 K5 (fun z => z = b) := by rw [hK5]; exact Fr.set _ _ (F := fun z => z = b) rfl
  have e3 : rows2 = rows.take k ++ [AV.int .i64 s.id, w1, v4] :: rows.drop (k + 1) := by
   rw [hr2, hr1, List.set_set, List.set_eq_take_append_cons_drop, if_pos hkr]
  have hc2 : ∀ r ∈ rows2, r.all AV.isCell = true := fun r h => by
   rw [e3] at h
   rcases List.mem_append.1 h with h | h
   ·exact chR_cells gk.ch r (List.mem_of_mem_take h)
   ·rcases List.mem_cons.1 h with rfl | h
    ·simp only [List.all_cons, List.all_nil, cw.2, cv.2, Bool.and_true]; rfl
    ·exact chR_cells gk.ch r (List.mem_of_mem_drop h)
  obtain ⟨K6, ed, l6, b6, o6⟩ := deleteC b5 h32 hc2 (i := k + 1) (by omega) (by omega)
  rw [l2] at ed
  have e4 : IntKind.i64.wrap (((k + 1 : Nat) : Int) + 1) = ((k + 1 + 1 : Nat) : Int) := by rw [wrap64 (by omega) (by omega)]; omega
  have fr6 : Fr K5 K6 (fun z => z = b) := ⟨by omega, fun z hz hn => o6 z hn⟩
  have fr46 : Fr K4 K6 (fun z => z = b) := fr5.trans fr6 (fun _ _ h => h)
  have fr06 : Fr K K6 (fun z => z = b) := ((Fr.adds (A1.trans A2) (fun z => z = b)).trans (fr3.trans (Fr.adds A4 (fun z => z = b)) (fun _ _ h => h)) (fun _ _ h => h)).trans fr46 (fun _ _ h => h)
  have aK : Adds H K6 := fr06.old A fun z hz h => by omega
  have tr := sl_end (o := 0) (z := 3) (n := L.length - 1) (c := L.length) (e := false) hb aK
  have w6 : BS K6 w1 (Bt.orS s.ch u.ch) := ((A4.bs (bw.fr fr3 fun z hz h => by have := wg z hz; omega))).fr fr46 fun z hz h => by have := wg z hz; omega
  have v6 : IsP K6 v4 (tmerge s.tb u.tb s.tb []).1 := g4.isP.fr fr46 fun z hz h => by have := (vg z hz).1; have := A2.len; omega
  have tk : (rows.take k).length = k := by rw [List.length_take]; omega
  have rr : rows2.take (k + 1) ++ rows2.drop (k + 1 + 1) = rows.take k ++ ([AV.int .i64 s.id, w1, v4] :: rows.drop (k + 2)) := by
   have t1 : rows2.take (k + 1) = rows.take k ++ [[AV.int .i64 s.id, w1, v4]] := by
    rw [e3, List.take_append, tk, List.take_of_length_le (by omega), show k + 1 - k = 1 by omega]; rfl
   have t2 : rows2.drop (k + 1 + 1) = rows.drop (k + 2) := by
    rw [e3, List.drop_append, tk, List.drop_eq_nil_of_le (by omega), show k + 1 + 1 - k = 2 by omega, List.nil_append, List.drop_succ_cons, List.drop_drop]
   rw [t1, t2, List.append_assoc]; rfl
  rw [rr] at b6
  have lL : (L.take k ++ joinS s u :: L.drop (k + 2)).length = L.length - 1 := by
   rw [List.length_append, List.length_take, List.length_cons, List.length_drop]; omega
  have hK1 := hK1.symm
  have cu1 := bu.cell.2
  have cu2 := pu.cell.2
  refine ⟨_, K6, ?_, aK, .inr ⟨b, L.length, false, _, zeroR, by rw [lL], by rw [lL]; omega, cells_rw b6, chR_app (chR_take (gk.ch.fr fr06 nb) k) (chR_app (chR_one (s := joinS s u) ⟨_, _, rfl, w6, v6⟩) (chR_drop (gk.ch.fr fr06 nb) (k + 2)))⟩⟩
  rw [d12]
  unfold b12
  simp -implicitDefEqProofs (maxSteps := 5000000) only [go_sem, Nat.reduceShiftRight, Nat.reduceAnd, Nat.reduceBNe, Int.reduceEq, Nat.reduceAdd, Nat.reduceSub, Nat.reduceMul, Nat.reduceLeDiff, reduceIte, reduceCtorEq, Nat.reduceBEq, Nat.reduceEqDiff, wrap64, runC_loop, runC_range, callF_fn, callV_fn, callV_yld, yield_eq, yieldBody, yieldRaw, roundMid, roundEnd, rangeEnd, Bool.not_not, put_cons, put_nil, trim_same, at_zero, at_add, set_zero, set_add, store_one, write_zero, write_add, write_head, write_succ, splice_one, splice_more, List.drop_nil, List.take_nil, cell_int, cell_bool, fillS, splice_one, idxA, Ex.isNormal, List.set_nil, List.length_set, List.all_cons, List.all_nil, Bool.and_self, and_self, true_and, and_true, List.getElem?_nil, Int.reduceLT, Int.reduceLE, Int.reduceToNat, Int.toNat_zero, Int.toNat_one, Int.reduceAdd, Int.reduceSub, Int.reduceMul, Int.reduceNeg, Int.reduceBEq, Int.reduceBNe, Int.reduceGE, Int.reduceGT, Nat.reduceLT, trim_keep, under_fn, under_ptr, under_sl, Nat.lt_irrefl, not_lt_add, trim_tail, keepOk, ABlk.vals, Int.cast_ofNat_Int, decide_true, decide_false, List.all_cons, List.all_nil, Nat.zero_mul, Nat.mul_one, Nat.one_mul, x3_call, ec, d0, wl, d1, dg, e1, ixk, ixn, cH, tku, hle, w0, cu1, cu2, hK1, b1, c1, n1, m1, eo, cw.1, wr1, c3, m3, n3, em, cv.1, wr2, e4, ed]
  exact tr
end
end Go.Proofs.Ytfioahnogphnfaa.G12
end
section
namespace Go.Proofs.Ytfioahnogphnfaa.G12
open Go Go.Proofs.Ytfioahnogphnfaa.Eng
section
variable {H : AHeap} {v : AV} {L : List SnS} (g : IsC H v L) (fi : Fits L)
include g fi
end
end Go.Proofs.Ytfioahnogphnfaa.G12
end
section
namespace Go.Proofs.Ytfioahnogphnfaa.G12
open Go Go.Proofs.Ytfioahnogphnfaa.Eng
section
variable {H : AHeap} {v : AV} {L : List SnS} (g : IsC H v L) (fi : Fits L)
include g fi
end
end Go.Proofs.Ytfioahnogphnfaa.G12
end
section
namespace Go.Proofs.Ytfioahnogphnfaa.G12
open Go Go.Proofs.Ytfioahnogphnfaa.Eng
def oneS (s : SnS) (bl ar : Int) (last : Bool) : Bool := decide (1 ≤ s.id) && (decide (s.id ≤ 1000000) && (Bt.goodS s.ch bl && (tgood s.tb bl ar && (s.tb.all (fun p => Bt.hasS s.ch p.1) && (last || ((s.tb.length : Int) == Bt.sumO s.ch))))))
section
variable {H : AHeap} {s : SnS} {vc vt : AV} (bc : BS H vc s.ch) (pt : IsP H vt s.tb) (ft : s.Fit) {q : Nat} (hq : cellsOf H q = some [.int .i64 s.id, vc, vt]) (hp : ∀ p ∈ s.tb, p.1 ≤ 9223372036854775807)
include bc pt ft hq hp
end
section
variable {H : AHeap} {s : SnS} {vc vt : AV} (bc : BS H vc s.ch) (pt : IsP H vt s.tb) (ft : s.Fit) {bl : Int} (hbl : bl ≤ 9223372036854775807) (ar : Int)
include bc pt ft hbl
end
end Go.Proofs.Ytfioahnogphnfaa.G12
end
section
namespace Go.Proofs.Ytfioahnogphnfaa.G12
open Go Go.Proofs.Ytfioahnogphnfaa.Eng
def atsF : List PrS → List Int → Bool
 | [], _ => true
 | p :: l, ats => !ats.contains p.2 && atsF l (ats ++ [p.2])
def pvOk (pv : Option Int) (id : Int) : Bool := match pv with | none => true | some q => decide (q < id)
def cgoodF (bl ar : Int) : List SnS → Option Int → List Int → Bool
 | [], _, _ => true
 | s :: L, pv, ats => oneS s bl ar L.isEmpty && (pvOk pv s.id && (atsF s.tb ats && cgoodF bl ar L (some s.id) (ats ++ s.tb.map (·.2))))
def cgood (L : List SnS) (bl ar : Int) : Bool := decide (L.length ≤ 8) && cgoodF bl ar L none []
def pvAt (L : List SnS) (i : Nat) : Option Int := if i = 0 then none else (L[i - 1]?).map (·.id)
theorem FS.out {K : AHeap} {B : Nat} {v : AV} {zs : List Int} (g : FS K B v zs) : ∀ b, slb v = some b → B ≤ b ∧ b < K.length := GR.out g
theorem FS.frT {K K' : AHeap} {F : Nat → Prop} {B : Nat} {v : AV} {zs : List Int} (g : FS K B v zs) (a : Fr K K' F) (n : ∀ b, slb v = some b → ¬ F b) : FS K' B v zs := GR.frS g a n
section
variable {H : AHeap} {v : AV} {bl ar : Int} {s : SnS} {vt : AV} (pt : IsP H vt s.tb) (ft : s.Fit)
include pt ft
end
theorem pvAt_succ {L : List SnS} {i : Nat} {s : SnS} (h : L[i]? = some s) : pvAt L (i + 1) = some s.id := by
 unfold pvAt; rw [if_neg (by omega), Nat.add_sub_cancel, h]; rfl
section
variable {H : AHeap} {v : AV} {L : List SnS} (g : IsC H v L) (fi : Fits L) (h8 : L.length ≤ 8) {bl : Int} (hbl : bl ≤ 9223372036854775807) (ar : Int)
include g fi h8 hbl
end
end Go.Proofs.Ytfioahnogphnfaa.G12
end
section
namespace Go.Proofs.Ytfioahnogphnfaa.G12
open Go Go.Proofs.Ytfioahnogphnfaa.Eng
section
variable {H : AHeap} {v : AV} {L : List SnS} (g : IsC H v L) (fi : Fits L) {bl : Int} (hbl : bl ≤ 9223372036854775807) (ar : Int)
include g fi hbl
end
end Go.Proofs.Ytfioahnogphnfaa.G12
end
section
namespace Go.Proofs.Ytfioahnogphnfaa.G12
open Go Go.Proofs.Ytfioahnogphnfaa.Eng
section
variable {H : AHeap} {v : AV} {L : List SnS} (g : IsC H v L) (fi : Fits L)
include g fi
end
section
variable {H : AHeap} {v : AV} {L : List SnS} (g : IsC H v L) (fb : L.length ≤ 9223372036854775807 ∧ ∀ s ∈ L, s.ch.length ≤ 9223372036854775807 ∧ s.tb.length ≤ 9223372036854775807)
include g fb
end
end Go.Proofs.Ytfioahnogphnfaa.G12
end
section
namespace Go.Proofs.Ytfioahnogphnfaa.G12
open Go Go.Proofs.Ytfioahnogphnfaa.Eng
section
variable {H : AHeap} {v : AV} {L : List SnS} (g : IsC H v L) (fi : Fits L)
include g fi
end
end Go.Proofs.Ytfioahnogphnfaa.G12
end
section
namespace Go.Proofs.Ytfioahnogphnfaa.G12
open Go Go.Proofs.Ytfioahnogphnfaa.Eng
theorem sub_len : ∀ {B A : List Int}, A.Pairwise (· < ·) → B.Pairwise (· < ·) → (∀ x ∈ A, x ∈ B) → A.length ≤ B.length ∧ (A.length = B.length → A = B)
 | [], A, _, _, h => by
  cases A with
  | nil => exact ⟨Nat.le_refl _, fun _ => rfl⟩
  | cons a A => exact absurd (h a (by simp)) (by simp)
 | b :: B, [], _, _, _ => ⟨by simp, fun h => by simp at h⟩
 | b :: B, a :: A, ha, hb, h => by
  obtain ⟨a1, a2⟩ := List.pairwise_cons.1 ha
  obtain ⟨b1, b2⟩ := List.pairwise_cons.1 hb
  rcases List.mem_cons.1 (h a (by simp)) with rfl | hab
  ·have ih := sub_len a2 b2 fun x hx => by
    rcases List.mem_cons.1 (h x (by simp [hx])) with rfl | q
    ·exact absurd (a1 _ hx) (by omega)
    ·exact q
   exact ⟨by simp only [List.length_cons]; omega, fun e => by rw [ih.2 (by simpa using e)]⟩
  ·have lt := b1 a hab
   have ih := sub_len ha b2 fun x hx => by
    rcases List.mem_cons.1 (h x hx) with rfl | q
    ·rcases List.mem_cons.1 hx with rfl | hx
     ·exact hab
     ·exact absurd (a1 _ hx) (by omega)
    ·exact q
   exact ⟨by simp only [List.length_cons] at *; omega, fun e => by simp only [List.length_cons] at *; omega⟩
theorem allU_of {zs : List Int} : ∀ {i : Nat} {z : Int}, 0 ≤ z → z < i → Bt.hasS zs z = true → z ∈ Bt.allU zs i
 | 0, z, h0, h1, _ => by omega
 | i + 1, z, h0, h1, h => by
  simp only [Bt.allU]
  by_cases e : z = i
  ·subst e; rw [if_pos h]; simp
  ·have := allU_of (i := i) h0 (by omega) h
   split
   ·exact List.mem_append_left _ this
   ·exact this
theorem mem_allS {zs : List Int} {z : Int} : z ∈ Bt.allS zs ↔ Bt.hasS zs z = true := by
 constructor
 ·intro h; exact (Bt.allU_mem h).2.2
 ·intro h
  by_cases h0 : z < 0
  ·rw [Bt.hasS_neg _ h0] at h; cases h
  ·obtain ⟨n, rfl⟩ : ∃ n : Nat, z = n := ⟨z.toNat, by omega⟩
   by_cases hn : 8 * zs.length ≤ n
   ·rw [Bt.hasS_high hn] at h; cases h
   ·exact allU_of (by omega) (by omega) h
theorem full_iff {l : List PrS} {zs : List Int} (up : asc l) (hu : IsU8 zs) (hs : l.all (fun p => Bt.hasS zs p.1) = true) : ((l.length : Int) == Bt.sumO zs) = (Bt.allS zs).all (fun c => decide (0 ≤ idxS l c)) := by
 rw [Bt.count_all hu, Bool.eq_iff_iff, beq_iff_eq, List.all_eq_true]
 have sub : ∀ x ∈ l.map (·.1), x ∈ Bt.allS zs := fun x hx => by
  obtain ⟨p, hp, rfl⟩ := List.mem_map.1 hx
  exact mem_allS.2 (List.all_eq_true.1 hs p hp)
 have q := sub_len up (Bt.allU_sorted zs _) sub
 rw [List.length_map] at q
 constructor
 ·intro h c hc
  rw [decide_eq_true_eq, idx_has]
  have e := q.2 (by show _ = (Bt.allS zs).length; omega)
  have hc : c ∈ Bt.allU zs (8 * zs.length) := hc
  rw [← e] at hc
  obtain ⟨p, hp, rfl⟩ := List.mem_map.1 hc
  exact ⟨p, hp, rfl⟩
 ·intro h
  have q2 := sub_len (Bt.allU_sorted zs (8 * zs.length)) up fun x hx => by
   have := h x hx
   rw [decide_eq_true_eq, idx_has] at this
   obtain ⟨p, hp, rfl⟩ := this
   exact List.mem_map.2 ⟨p, hp, rfl⟩
  rw [List.length_map] at q2
  have : (Bt.allS zs).length = (Bt.allU zs (8 * zs.length)).length := rfl
  omega
theorem ats_iff : ∀ {l : List PrS} {ats : List Int}, (∀ p ∈ l, ∀ q ∈ l, p.2 = q.2 → p = q) → asc l → atsF l ats = l.all (fun p => !ats.contains p.2)
 | [], _, _, _ => rfl
 | p :: l, ats, inj, up => by
  obtain ⟨u1, u2⟩ := asc_cons.1 up
  rw [atsF, List.all_cons, ats_iff (fun x hx y hy => inj x (by simp [hx]) y (by simp [hy])) u2]
  congr 1
  rw [Bool.eq_iff_iff, List.all_eq_true, List.all_eq_true]
  have hn : ∀ q ∈ l, (ats ++ [p.2]).contains q.2 = ats.contains q.2 := fun q hq => by
   rw [Bool.eq_iff_iff, List.contains_iff_mem, List.contains_iff_mem, List.mem_append, List.mem_singleton]
   constructor
   ·rintro (h | h)
    ·exact h
    ·have := inj q (by simp [hq]) p (by simp) h
     have lt := u1 q hq
     rw [this] at lt; omega
   ·exact .inl
  constructor
  ·intro h q hq; rw [← hn q hq]; exact h q hq
  ·intro h q hq; rw [hn q hq]; exact h q hq
def rgoodF (bl ar : Int) : List SnS → Option Int → List Int → Bool
 | [], _, _ => true
 | s :: L, pv, ats => decide (1 ≤ s.id) && (decide (s.id ≤ 1000000) && (pvOk pv s.id && (Bt.goodS s.ch bl && (tgood s.tb bl ar && (s.tb.all (fun p => Bt.hasS s.ch p.1 && !ats.contains p.2) && ((L.isEmpty || (Bt.allS s.ch).all (fun c => decide (0 ≤ idxS s.tb c))) && rgoodF bl ar L (some s.id) (ats ++ s.tb.map (·.2))))))))
theorem rgood_eq (bl ar : Int) : ∀ (L : List SnS) (pv : Option Int) (ats : List Int), (∀ s ∈ L, IsU8 s.ch) → rgoodF bl ar L pv ats = cgoodF bl ar L pv ats
 | [], _, _, _ => rfl
 | s :: L, pv, ats, hu => by
  rw [rgoodF, cgoodF, oneS, rgood_eq bl ar L _ _ fun s hs => hu s (by simp [hs])]
  generalize cgoodF bl ar L (some s.id) (ats ++ s.tb.map (·.2)) = R
  generalize decide (1 ≤ s.id) = b1
  generalize decide (s.id ≤ 1000000) = b2
  generalize pvOk pv s.id = b3
  generalize Bt.goodS s.ch bl = b4
  rcases hg : tgood s.tb bl ar with _ | _
  ·cases b1 <;> cases b2 <;> cases b3 <;> cases b4 <;> rfl
  have G := good_iff.1 hg
  rw [ats_iff G.inj G.up]
  have e : s.tb.all (fun p => Bt.hasS s.ch p.1 && !ats.contains p.2) = (s.tb.all (fun p => Bt.hasS s.ch p.1) && s.tb.all (fun p => !ats.contains p.2)) := by
   induction s.tb with
   | nil => rfl
   | cons p l ih =>
    rw [List.all_cons, List.all_cons, List.all_cons, ih]
    cases Bt.hasS s.ch p.1 <;> cases ats.contains p.2 <;> cases l.all (fun p => Bt.hasS s.ch p.1) <;> rfl
  rw [e]
  rcases hh : s.tb.all (fun p => Bt.hasS s.ch p.1) with _ | _
  ·cases b1 <;> cases b2 <;> cases b3 <;> cases b4 <;> rfl
  rw [full_iff G.up (hu s (by simp)) hh]
  generalize s.tb.all (fun p => !ats.contains p.2) = b5
  generalize (Bt.allS s.ch).all (fun c => decide (0 ≤ idxS s.tb c)) = b6
  generalize L.isEmpty = b7
  cases b1 <;> cases b2 <;> cases b3 <;> cases b4 <;> cases b5 <;> cases b6 <;> cases b7 <;> rfl
end Go.Proofs.Ytfioahnogphnfaa.G12
end
section
namespace Go.Proofs.Ytfioahnogphnfaa.G12
open Go Go.Proofs.Ytfioahnogphnfaa.Eng
section
variable {K : AHeap} {B : Nat} {w : AV} {ats : List Int} (fs : FS K B w ats) (al : ats.length ≤ 100000) {s : SnS} {q : Nat} {vc vt : AV} (hq : cellsOf K q = some [.int .i64 s.id, vc, vt]) (bc : BS K vc s.ch) (pt : IsP K vt s.tb) (ft : s.Fit)
include fs al hq pt ft
set_option maxHeartbeats 4000000 in
theorem rgooL0 {k0 : Nat} {p : PrS} (hp : s.tb[k0]? = some p) (x0 x1 x2 x3 x4 x5 x8 x12 x13 x14 x15 x16 x17 x18 x19 x20 x21 x22 x23 x24 x25 x26 x27 x28 x29 x30 x31 x32 x33 x34 x35 x36 x37 x38 x39 x40 x41 x42 x43 x44 x45 x46 x47 x48 x49 x50 x51 x52 x53 x54 x55 x56 x57 x58 x59 x60 x61 x62 x63 x64 x65 x66 x67 x68 x69 x70 x71 x72 x73 x74 x75 x76 x77 x78 x79 x80 x81 x82 x100 x101 x102 x103 x104 x105 x106 x107 x108 x109 x110 x111 x112 x113 x114 x115 x116 x117 x118 x119 x120 x121 x122 x123 x124 x125 x126 x127 x128 x129 x130 x131 x132 x133 x134 x135 x136 x137 x138 x139 : AV) : ∀ (k j : Nat) (j83 j84 j85 j86 j87 j88 j89 j90 j91 j92 j93 j94 j95 j96 j97 j98 j99 : AV), j + k = ats.length →
  Outs (LP1 l11x0 [x0, x1, x2, x3, x4, x5, .bool false, w, x8, .ptr q 0, .int .i64 (k0 : Int), .int .i64 (j : Int), x12, x13, x14, x15, x16, x17, x18, x19, x20, x21, x22, x23, x24, x25, x26, x27, x28, x29, x30, x31, x32, x33, x34, x35, x36, x37, x38, x39, x40, x41, x42, x43, x44, x45, x46, x47, x48, x49, x50, x51, x52, x53, x54, x55, x56, x57, x58, x59, x60, x61, x62, x63, x64, x65, x66, x67, x68, x69, x70, x71, x72, x73, x74, x75, x76, x77, x78, x79, x80, x81, x82, j83, j84, j85, j86, j87, j88, j89, j90, j91, j92, j93, j94, j95, j96, j97, j98, j99, x100, x101, x102, x103, x104, x105, x106, x107, x108, x109, x110, x111, x112, x113, x114, x115, x116, x117, x118, x119, x120, x121, x122, x123, x124, x125, x126, x127, x128, x129, x130, x131, x132, x133, x134, x135, x136, x137, x138, x139] K) fun e t K' => K' = K ∧ ∃ fv : Nat → AV, t = [x0, x1, x2, x3, x4, x5, (fv 6), w, x8, .ptr q 0, .int .i64 (k0 : Int), (fv 11), x12, x13, x14, x15, x16, x17, x18, x19, x20, x21, x22, x23, x24, x25, x26, x27, x28, x29, x30, x31, x32, x33, x34, x35, x36, x37, x38, x39, x40, x41, x42, x43, x44, x45, x46, x47, x48, x49, x50, x51, x52, x53, x54, x55, x56, x57, x58, x59, x60, x61, x62, x63, x64, x65, x66, x67, x68, x69, x70, x71, x72, x73, x74, x75, x76, x77, x78, x79, x80, x81, x82, (fv 83), (fv 84), (fv 85), (fv 86), (fv 87), (fv 88), (fv 89), (fv 90), (fv 91), (fv 92), (fv 93), (fv 94), (fv 95), (fv 96), (fv 97), (fv 98), (fv 99), x100, x101, x102, x103, x104, x105, x106, x107, x108, x109, x110, x111, x112, x113, x114, x115, x116, x117, x118, x119, x120, x121, x122, x123, x124, x125, x126, x127, x128, x129, x130, x131, x132, x133, x134, x135, x136, x137, x138, x139] ∧ fv 6 = .bool false ∧ ((e = .exit 4 ∧ (ats.drop j).contains p.2 = false) ∨ (e = .ret ∧ (ats.drop j).contains p.2 = true)) := by
 intro k
 obtain ⟨L0, hL0⟩ : ∃ L, L = LP1 l11x0 := ⟨_, rfl⟩
 have lo := loop_open hL0
 have wl := fs.len
 rw [← hL0]
 induction k with
 | zero =>
  intro j j83 j84 j85 j86 j87 j88 j89 j90 j91 j92 j93 j94 j95 j96 j97 j98 j99 hj
  obtain rfl : j = ats.length := by omega
  have hd : decide ((ats.length : Int) < (ats.length : Int)) = false := by simp
  rw [List.drop_length, lo]
  unfold l11x0
  simp -implicitDefEqProofs (maxSteps := 5000000) only [go_sem, Nat.reduceShiftRight, Nat.reduceAnd, Nat.reduceBNe, Int.reduceEq, Nat.reduceAdd, Nat.reduceSub, Nat.reduceMul, Nat.reduceLeDiff, reduceIte, reduceCtorEq, Nat.reduceBEq, Nat.reduceEqDiff, wl, hd, seqR_exit', outs_normal]
  exact exF2 rfl ⟨rfl, .inl (by first | rfl | trivial)⟩
 | succ k ih =>
  intro j j83 j84 j85 j86 j87 j88 j89 j90 j91 j92 j93 j94 j95 j96 j97 j98 j99 hj
  have hlt : j < ats.length := by omega
  have hd : decide ((j : Int) < (ats.length : Int)) = true := decide_eq_true (by omega)
  have e2 : IntKind.i64.wrap ((j : Int) + 1) = ((j + 1 : Nat) : Int) := by rw [wrap64 (by omega) (by omega)]; omega
  have hx := List.getElem?_eq_getElem hlt
  rw [List.drop_eq_getElem_cons hlt, List.contains_cons]
  generalize ats[j] = a at *
  obtain ⟨b1, c1, _, ix, hc, h1, _⟩ := fs.read hx
  obtain ⟨b2, c2, _, ix2, hc2, _, r2, _, _⟩ := pt.idx hp
  rw [lo]
  unfold l11x0
  by_cases h : a = p.2
  ·have hb : (a == p.2) = true := by simp [h]
   have hb' : (p.2 == a) = true := by simp [h]
   simp -implicitDefEqProofs (maxSteps := 5000000) only [go_sem, Nat.reduceShiftRight, Nat.reduceAnd, Nat.reduceBNe, Int.reduceEq, Nat.reduceAdd, Nat.reduceSub, Nat.reduceMul, Nat.reduceLeDiff, reduceIte, reduceCtorEq, Nat.reduceBEq, Nat.reduceEqDiff, wrap64, runC_loop, runC_range, callF_fn, callV_fn, callV_yld, yield_eq, yieldBody, yieldRaw, roundMid, roundEnd, rangeEnd, Bool.not_not, put_cons, put_nil, trim_same, at_zero, at_add, set_zero, set_add, store_one, write_zero, write_add, write_head, write_succ, splice_one, splice_more, List.drop_nil, List.take_nil, cell_int, cell_bool, fillS, splice_one, idxA, Ex.isNormal, List.set_nil, List.length_set, List.all_cons, List.all_nil, Bool.and_self, and_self, true_and, and_true, List.getElem?_nil, Int.reduceLT, Int.reduceLE, Int.reduceToNat, Int.toNat_zero, Int.toNat_one, Int.reduceAdd, Int.reduceSub, Int.reduceMul, Int.reduceNeg, Int.reduceBEq, Int.reduceBNe, Int.reduceGE, Int.reduceGT, Nat.reduceLT, trim_keep, under_fn, under_ptr, under_sl, Nat.lt_irrefl, not_lt_add, trim_tail, keepOk, ABlk.vals, Int.cast_ofNat_Int, decide_true, decide_false, List.all_cons, List.all_nil, Nat.zero_mul, Nat.mul_one, Nat.one_mul, wl, hd, ix, hc, h1, hq, ix2, hc2, r2, hb, hb', seqR_ret, outs_normal]
   exact exF2 rfl ⟨rfl, .inr (by first | rfl | trivial)⟩
  ·have hb : (a == p.2) = false := by simp [h]
   have hb' : (p.2 == a) = false := by simp [Ne.symm h]
   simp -implicitDefEqProofs (maxSteps := 5000000) only [go_sem, Nat.reduceShiftRight, Nat.reduceAnd, Nat.reduceBNe, Int.reduceEq, Nat.reduceAdd, Nat.reduceSub, Nat.reduceMul, Nat.reduceLeDiff, reduceIte, reduceCtorEq, Nat.reduceBEq, Nat.reduceEqDiff, wrap64, runC_loop, runC_range, callF_fn, callV_fn, callV_yld, yield_eq, yieldBody, yieldRaw, roundMid, roundEnd, rangeEnd, Bool.not_not, put_cons, put_nil, trim_same, at_zero, at_add, set_zero, set_add, store_one, write_zero, write_add, write_head, write_succ, splice_one, splice_more, List.drop_nil, List.take_nil, cell_int, cell_bool, fillS, splice_one, idxA, Ex.isNormal, List.set_nil, List.length_set, List.all_cons, List.all_nil, Bool.and_self, and_self, true_and, and_true, List.getElem?_nil, Int.reduceLT, Int.reduceLE, Int.reduceToNat, Int.toNat_zero, Int.toNat_one, Int.reduceAdd, Int.reduceSub, Int.reduceMul, Int.reduceNeg, Int.reduceBEq, Int.reduceBNe, Int.reduceGE, Int.reduceGT, Nat.reduceLT, trim_keep, under_fn, under_ptr, under_sl, Nat.lt_irrefl, not_lt_add, trim_tail, keepOk, ABlk.vals, Int.cast_ofNat_Int, decide_true, decide_false, List.all_cons, List.all_nil, Nat.zero_mul, Nat.mul_one, Nat.one_mul, wl, hd, ix, hc, h1, hq, ix2, hc2, r2, hb, hb', e2]
   exact ih (j + 1) _ _ _ _ _ _ _ _ _ _ _ _ _ _ _ _ _ (by omega)
include bc
set_option maxHeartbeats 4000000 in
theorem rgooL1 (hb : ∀ p ∈ s.tb, p.1 ≤ 9223372036854775807) (x0 x1 x2 x3 x4 x5 x8 x12 x13 x14 x15 x16 x17 x18 x19 x20 x21 x22 x23 x24 x25 x26 x27 x28 x29 x30 x31 x32 x33 x34 x35 x36 x37 x38 x39 x40 x41 x42 x43 x44 x45 x46 x47 x48 x49 x50 x51 x52 x53 x54 x55 x56 x57 x58 x59 x60 x61 x62 x63 x64 x65 x100 x101 x102 x103 x104 x105 x106 x107 x108 x109 x110 x111 x112 x113 x114 x115 x116 x117 x118 x119 x120 x121 x122 x123 x124 x125 x126 x127 x128 x129 x130 x131 x132 x133 x134 x135 x136 x137 x138 x139 : AV) : ∀ (k i : Nat) (j11 j66 j67 j68 j69 j70 j71 j72 j73 j74 j75 j76 j77 j78 j79 j80 j81 j82 j83 j84 j85 j86 j87 j88 j89 j90 j91 j92 j93 j94 j95 j96 j97 j98 j99 : AV), i + k = s.tb.length →
  Outs (LP1 l11x1 [x0, x1, x2, x3, x4, x5, .bool false, w, x8, .ptr q 0, .int .i64 (i : Int), j11, x12, x13, x14, x15, x16, x17, x18, x19, x20, x21, x22, x23, x24, x25, x26, x27, x28, x29, x30, x31, x32, x33, x34, x35, x36, x37, x38, x39, x40, x41, x42, x43, x44, x45, x46, x47, x48, x49, x50, x51, x52, x53, x54, x55, x56, x57, x58, x59, x60, x61, x62, x63, x64, x65, j66, j67, j68, j69, j70, j71, j72, j73, j74, j75, j76, j77, j78, j79, j80, j81, j82, j83, j84, j85, j86, j87, j88, j89, j90, j91, j92, j93, j94, j95, j96, j97, j98, j99, x100, x101, x102, x103, x104, x105, x106, x107, x108, x109, x110, x111, x112, x113, x114, x115, x116, x117, x118, x119, x120, x121, x122, x123, x124, x125, x126, x127, x128, x129, x130, x131, x132, x133, x134, x135, x136, x137, x138, x139] K) fun e t K' => K' = K ∧ ∃ fv : Nat → AV, t = [x0, x1, x2, x3, x4, x5, (fv 6), w, x8, .ptr q 0, (fv 10), (fv 11), x12, x13, x14, x15, x16, x17, x18, x19, x20, x21, x22, x23, x24, x25, x26, x27, x28, x29, x30, x31, x32, x33, x34, x35, x36, x37, x38, x39, x40, x41, x42, x43, x44, x45, x46, x47, x48, x49, x50, x51, x52, x53, x54, x55, x56, x57, x58, x59, x60, x61, x62, x63, x64, x65, (fv 66), (fv 67), (fv 68), (fv 69), (fv 70), (fv 71), (fv 72), (fv 73), (fv 74), (fv 75), (fv 76), (fv 77), (fv 78), (fv 79), (fv 80), (fv 81), (fv 82), (fv 83), (fv 84), (fv 85), (fv 86), (fv 87), (fv 88), (fv 89), (fv 90), (fv 91), (fv 92), (fv 93), (fv 94), (fv 95), (fv 96), (fv 97), (fv 98), (fv 99), x100, x101, x102, x103, x104, x105, x106, x107, x108, x109, x110, x111, x112, x113, x114, x115, x116, x117, x118, x119, x120, x121, x122, x123, x124, x125, x126, x127, x128, x129, x130, x131, x132, x133, x134, x135, x136, x137, x138, x139] ∧ fv 6 = .bool false ∧ ((e = .exit 2 ∧ (s.tb.drop i).all (fun p => Bt.hasS s.ch p.1 && !ats.contains p.2) = true) ∨ (e = .ret ∧ (s.tb.drop i).all (fun p => Bt.hasS s.ch p.1 && !ats.contains p.2) = false)) := by
 intro k
 obtain ⟨L0, hL0⟩ : ∃ L, L = LP1 l11x1 := ⟨_, rfl⟩
 have lo := loop_open hL0
 have wl := pt.len
 have lt1 := ft.lt
 rw [← hL0]
 induction k with
 | zero =>
  intro i j11 j66 j67 j68 j69 j70 j71 j72 j73 j74 j75 j76 j77 j78 j79 j80 j81 j82 j83 j84 j85 j86 j87 j88 j89 j90 j91 j92 j93 j94 j95 j96 j97 j98 j99 hi
  obtain rfl : i = s.tb.length := by omega
  have hd : decide ((s.tb.length : Int) < (s.tb.length : Int)) = false := by simp
  rw [List.drop_length, lo]
  unfold l11x1
  simp -implicitDefEqProofs (maxSteps := 5000000) only [go_sem, Nat.reduceShiftRight, Nat.reduceAnd, Nat.reduceBNe, Int.reduceEq, Nat.reduceAdd, Nat.reduceSub, Nat.reduceMul, Nat.reduceLeDiff, reduceIte, reduceCtorEq, Nat.reduceBEq, Nat.reduceEqDiff, wrap64, runC_loop, runC_range, callF_fn, callV_fn, callV_yld, yield_eq, yieldBody, yieldRaw, roundMid, roundEnd, rangeEnd, Bool.not_not, put_cons, put_nil, trim_same, at_zero, at_add, set_zero, set_add, store_one, write_zero, write_add, write_head, write_succ, splice_one, splice_more, List.drop_nil, List.take_nil, cell_int, cell_bool, fillS, splice_one, idxA, Ex.isNormal, List.set_nil, List.length_set, List.all_cons, List.all_nil, Bool.and_self, and_self, true_and, and_true, List.getElem?_nil, Int.reduceLT, Int.reduceLE, Int.reduceToNat, Int.toNat_zero, Int.toNat_one, Int.reduceAdd, Int.reduceSub, Int.reduceMul, Int.reduceNeg, Int.reduceBEq, Int.reduceBNe, Int.reduceGE, Int.reduceGT, Nat.reduceLT, trim_keep, under_fn, under_ptr, under_sl, Nat.lt_irrefl, not_lt_add, trim_tail, keepOk, ABlk.vals, Int.cast_ofNat_Int, decide_true, decide_false, List.all_cons, List.all_nil, Nat.zero_mul, Nat.mul_one, Nat.one_mul, hq, wl, hd, seqR_exit', outs_normal]
  exact exF2 rfl ⟨rfl, .inl (by first | rfl | trivial)⟩
 | succ k ih =>
  intro i j11 j66 j67 j68 j69 j70 j71 j72 j73 j74 j75 j76 j77 j78 j79 j80 j81 j82 j83 j84 j85 j86 j87 j88 j89 j90 j91 j92 j93 j94 j95 j96 j97 j98 j99 hi
  have hlt : i < s.tb.length := by omega
  have hd : decide ((i : Int) < (s.tb.length : Int)) = true := decide_eq_true (by omega)
  have e2 : IntKind.i64.wrap ((i : Int) + 1) = ((i + 1 : Nat) : Int) := by rw [wrap64 (by omega) (by omega)]; omega
  have hx := List.getElem?_eq_getElem hlt
  have hpb := hb _ (List.getElem_mem hlt)
  rw [List.drop_eq_getElem_cons hlt, List.all_cons]
  generalize s.tb[i] = p at *
  obtain ⟨b2, c2, _, ix2, hc2, r1, r2, _, _⟩ := pt.idx hx
  have eh := Bt.hasR bc p.1 hpb
  have l0 := rgooL0 fs al hq pt ft hx (k := ats.length) (j := 0)
  rw [show ((0 : Nat) : Int) = 0 from rfl, List.drop_zero] at l0
  rw [lo]
  unfold l11x1
  rcases hh : Bt.hasS s.ch p.1 with _ | _ <;> rw [hh] at eh
  ·simp -implicitDefEqProofs (maxSteps := 5000000) only [go_sem, Nat.reduceShiftRight, Nat.reduceAnd, Nat.reduceBNe, Int.reduceEq, Nat.reduceAdd, Nat.reduceSub, Nat.reduceMul, Nat.reduceLeDiff, reduceIte, reduceCtorEq, Nat.reduceBEq, Nat.reduceEqDiff, wrap64, runC_loop, runC_range, callF_fn, callV_fn, callV_yld, yield_eq, yieldBody, yieldRaw, roundMid, roundEnd, rangeEnd, Bool.not_not, put_cons, put_nil, trim_same, at_zero, at_add, set_zero, set_add, store_one, write_zero, write_add, write_head, write_succ, splice_one, splice_more, List.drop_nil, List.take_nil, cell_int, cell_bool, fillS, splice_one, idxA, Ex.isNormal, List.set_nil, List.length_set, List.all_cons, List.all_nil, Bool.and_self, and_self, true_and, and_true, List.getElem?_nil, Int.reduceLT, Int.reduceLE, Int.reduceToNat, Int.toNat_zero, Int.toNat_one, Int.reduceAdd, Int.reduceSub, Int.reduceMul, Int.reduceNeg, Int.reduceBEq, Int.reduceBNe, Int.reduceGE, Int.reduceGT, Nat.reduceLT, trim_keep, under_fn, under_ptr, under_sl, Nat.lt_irrefl, not_lt_add, trim_tail, keepOk, ABlk.vals, Int.cast_ofNat_Int, decide_true, decide_false, List.all_cons, List.all_nil, Nat.zero_mul, Nat.mul_one, Nat.one_mul, hq, wl, hd, ix2, hc2, r1, eh, seqR_ret, outs_normal]
   exact exF2 rfl ⟨rfl, .inr (by first | rfl | trivial)⟩
  ·simp -implicitDefEqProofs (maxSteps := 5000000) only [go_sem, Nat.reduceShiftRight, Nat.reduceAnd, Nat.reduceBNe, Int.reduceEq, Nat.reduceAdd, Nat.reduceSub, Nat.reduceMul, Nat.reduceLeDiff, reduceIte, reduceCtorEq, Nat.reduceBEq, Nat.reduceEqDiff, wrap64, runC_loop, runC_range, callF_fn, callV_fn, callV_yld, yield_eq, yieldBody, yieldRaw, roundMid, roundEnd, rangeEnd, Bool.not_not, put_cons, put_nil, trim_same, at_zero, at_add, set_zero, set_add, store_one, write_zero, write_add, write_head, write_succ, splice_one, splice_more, List.drop_nil, List.take_nil, cell_int, cell_bool, fillS, splice_one, idxA, Ex.isNormal, List.set_nil, List.length_set, List.all_cons, List.all_nil, Bool.and_self, and_self, true_and, and_true, List.getElem?_nil, Int.reduceLT, Int.reduceLE, Int.reduceToNat, Int.toNat_zero, Int.toNat_one, Int.reduceAdd, Int.reduceSub, Int.reduceMul, Int.reduceNeg, Int.reduceBEq, Int.reduceBNe, Int.reduceGE, Int.reduceGT, Nat.reduceLT, trim_keep, under_fn, under_ptr, under_sl, Nat.lt_irrefl, not_lt_add, trim_tail, keepOk, ABlk.vals, Int.cast_ofNat_Int, decide_true, decide_false, List.all_cons, List.all_nil, Nat.zero_mul, Nat.mul_one, Nat.one_mul, runC_loop, hq, wl, hd, ix2, hc2, r1, eh]
   unfold LP1 at l0
   generalize (envL prog).loop (runC (envL prog) (l11x0 (envL prog))) = LL at l0 ⊢
   refine outs_ctx (fun r => seqR (seqR (blockR 3 (blockR 4 r)) _) _) (l0 _ _ _ _ _ _ _ _ _ _ _ _ _ _ _ _ _ _ _ _ _ _ _ _ _ _ _ _ _ _ _ _ _ _ _ _ _ _ _ _ _ _ _ _ _ _ _ _ _ _ _ _ _ _ _ _ _ _ _ _ _ _ _ _ _ _ _ _ _ _ _ _ _ _ _ _ _ _ _ _ _ _ _ _ _ _ _ _ _ _ _ _ _ _ _ _ _ _ _ _ _ _ _ _ _ _ _ _ _ _ _ _ _ _ _ _ _ _ _ _ _ _ _ _ _ _ _ _ _ _ _ _ _ _ _ (by omega)) ?_
   rintro e t K' ⟨rfl, fv, rfl, f6, ⟨rfl, ho⟩ | ⟨rfl, ho⟩⟩
   ·rw [ho]
    simp -implicitDefEqProofs (maxSteps := 5000000) only [go_sem, Nat.reduceShiftRight, Nat.reduceAnd, Nat.reduceBNe, Int.reduceEq, Nat.reduceAdd, Nat.reduceSub, Nat.reduceMul, Nat.reduceLeDiff, reduceIte, reduceCtorEq, Nat.reduceBEq, Nat.reduceEqDiff, wrap64, runC_loop, runC_range, callF_fn, callV_fn, callV_yld, yield_eq, yieldBody, yieldRaw, roundMid, roundEnd, rangeEnd, Bool.not_not, put_cons, put_nil, trim_same, at_zero, at_add, set_zero, set_add, store_one, write_zero, write_add, write_head, write_succ, splice_one, splice_more, List.drop_nil, List.take_nil, cell_int, cell_bool, fillS, splice_one, idxA, Ex.isNormal, List.set_nil, List.length_set, List.all_cons, List.all_nil, Bool.and_self, and_self, true_and, and_true, List.getElem?_nil, Int.reduceLT, Int.reduceLE, Int.reduceToNat, Int.toNat_zero, Int.toNat_one, Int.reduceAdd, Int.reduceSub, Int.reduceMul, Int.reduceNeg, Int.reduceBEq, Int.reduceBNe, Int.reduceGE, Int.reduceGT, Nat.reduceLT, trim_keep, under_fn, under_ptr, under_sl, Nat.lt_irrefl, not_lt_add, trim_tail, keepOk, ABlk.vals, Int.cast_ofNat_Int, decide_true, decide_false, List.all_cons, List.all_nil, Nat.zero_mul, Nat.mul_one, Nat.one_mul, f6, e2]
    exact ih (i + 1) _ _ _ _ _ _ _ _ _ _ _ _ _ _ _ _ _ _ _ _ _ _ _ _ _ _ _ _ _ _ _ _ _ _ _ (by omega)
   ·rw [ho]
    simp -implicitDefEqProofs (maxSteps := 5000000) only [go_sem, Nat.reduceShiftRight, Nat.reduceAnd, Nat.reduceBNe, Int.reduceEq, Nat.reduceAdd, Nat.reduceSub, Nat.reduceMul, Nat.reduceLeDiff, reduceIte, reduceCtorEq, Nat.reduceBEq, Nat.reduceEqDiff, wrap64, runC_loop, runC_range, callF_fn, callV_fn, callV_yld, yield_eq, yieldBody, yieldRaw, roundMid, roundEnd, rangeEnd, Bool.not_not, put_cons, put_nil, trim_same, at_zero, at_add, set_zero, set_add, store_one, write_zero, write_add, write_head, write_succ, splice_one, splice_more, List.drop_nil, List.take_nil, cell_int, cell_bool, fillS, splice_one, idxA, Ex.isNormal, List.set_nil, List.length_set, List.all_cons, List.all_nil, Bool.and_self, and_self, true_and, and_true, List.getElem?_nil, Int.reduceLT, Int.reduceLE, Int.reduceToNat, Int.toNat_zero, Int.toNat_one, Int.reduceAdd, Int.reduceSub, Int.reduceMul, Int.reduceNeg, Int.reduceBEq, Int.reduceBNe, Int.reduceGE, Int.reduceGT, Nat.reduceLT, trim_keep, under_fn, under_ptr, under_sl, Nat.lt_irrefl, not_lt_add, trim_tail, keepOk, ABlk.vals, Int.cast_ofNat_Int, decide_true, decide_false, List.all_cons, List.all_nil, Nat.zero_mul, Nat.mul_one, Nat.one_mul, seqR_ret, outs_normal]
    exact exF2 rfl ⟨f6, .inr (by first | rfl | trivial)⟩
end
section
variable {H : AHeap} {s : SnS} {q : Nat} {vc vt : AV} (pt : IsP H vt s.tb) (ft : s.Fit)
include pt ft
set_option maxHeartbeats 4000000 in
theorem rgooL2 (x0 x1 x2 x3 x4 x5 x6 x8 x10 x11 x13 x14 x15 x16 x17 x18 x19 x20 x21 x22 x23 x24 x25 x26 x27 x28 x29 x30 x31 x32 x33 x34 x35 x36 x37 x38 x39 x40 x41 x42 x43 x44 x45 x46 x47 x48 x49 x50 x51 x52 x53 x54 x55 x56 x57 x58 x59 x60 x61 x62 x63 x64 x65 x66 x67 x68 x69 x70 x71 x72 x73 x74 x75 x76 x77 x78 x79 x80 x81 x82 x83 x84 x85 x86 x87 x88 x89 x90 x91 x92 x93 x94 x95 x96 x97 x98 x99 x116 x117 x118 x119 x120 x121 x122 x123 x124 x125 x126 x127 x128 x129 x130 x131 x132 x133 x134 x135 x136 x137 x138 x139 : AV) : ∀ (k i : Nat) (K : AHeap) (w : AV) (ats : List Int) (j100 j101 j102 j103 j104 j105 j106 j107 j108 j109 j110 j111 j112 j113 j114 j115 : AV), Adds H K → FS K H.length w ats → cellsOf K q = some [.int .i64 s.id, vc, vt] → (∀ b, slb w = some b → b ≠ q) → ats.length ≤ 100000 + i → i + k = s.tb.length →
  Outs (LP1 l11x2 [x0, x1, x2, x3, x4, x5, x6, w, x8, .ptr q 0, x10, x11, .int .i64 (i : Int), x13, x14, x15, x16, x17, x18, x19, x20, x21, x22, x23, x24, x25, x26, x27, x28, x29, x30, x31, x32, x33, x34, x35, x36, x37, x38, x39, x40, x41, x42, x43, x44, x45, x46, x47, x48, x49, x50, x51, x52, x53, x54, x55, x56, x57, x58, x59, x60, x61, x62, x63, x64, x65, x66, x67, x68, x69, x70, x71, x72, x73, x74, x75, x76, x77, x78, x79, x80, x81, x82, x83, x84, x85, x86, x87, x88, x89, x90, x91, x92, x93, x94, x95, x96, x97, x98, x99, j100, j101, j102, j103, j104, j105, j106, j107, j108, j109, j110, j111, j112, j113, j114, j115, x116, x117, x118, x119, x120, x121, x122, x123, x124, x125, x126, x127, x128, x129, x130, x131, x132, x133, x134, x135, x136, x137, x138, x139] K) fun e t K' => e = .exit 6 ∧ Adds H K' ∧ cellsOf K' q = some [.int .i64 s.id, vc, vt] ∧ ∃ fv : Nat → AV, t = [x0, x1, x2, x3, x4, x5, x6, (fv 7), x8, .ptr q 0, x10, x11, (fv 12), x13, x14, x15, x16, x17, x18, x19, x20, x21, x22, x23, x24, x25, x26, x27, x28, x29, x30, x31, x32, x33, x34, x35, x36, x37, x38, x39, x40, x41, x42, x43, x44, x45, x46, x47, x48, x49, x50, x51, x52, x53, x54, x55, x56, x57, x58, x59, x60, x61, x62, x63, x64, x65, x66, x67, x68, x69, x70, x71, x72, x73, x74, x75, x76, x77, x78, x79, x80, x81, x82, x83, x84, x85, x86, x87, x88, x89, x90, x91, x92, x93, x94, x95, x96, x97, x98, x99, (fv 100), (fv 101), (fv 102), (fv 103), (fv 104), (fv 105), (fv 106), (fv 107), (fv 108), (fv 109), (fv 110), (fv 111), (fv 112), (fv 113), (fv 114), (fv 115), x116, x117, x118, x119, x120, x121, x122, x123, x124, x125, x126, x127, x128, x129, x130, x131, x132, x133, x134, x135, x136, x137, x138, x139] ∧ FS K' H.length (fv 7) (ats ++ (s.tb.drop i).map (·.2)) := by
 intro k
 obtain ⟨L0, hL0⟩ : ∃ L, L = LP1 l11x2 := ⟨_, rfl⟩
 have lo := loop_open hL0
 have wl := pt.len
 have lt1 := ft.lt
 rw [← hL0]
 induction k with
 | zero =>
  intro i K w ats j100 j101 j102 j103 j104 j105 j106 j107 j108 j109 j110 j111 j112 j113 j114 j115 aK fs hq hne al hi
  obtain rfl : i = s.tb.length := by omega
  have hd : decide ((s.tb.length : Int) < (s.tb.length : Int)) = false := by simp
  rw [List.drop_length, lo]
  unfold l11x2
  simp -implicitDefEqProofs (maxSteps := 5000000) only [go_sem, Nat.reduceShiftRight, Nat.reduceAnd, Nat.reduceBNe, Int.reduceEq, Nat.reduceAdd, Nat.reduceSub, Nat.reduceMul, Nat.reduceLeDiff, reduceIte, reduceCtorEq, Nat.reduceBEq, Nat.reduceEqDiff, wrap64, runC_loop, runC_range, callF_fn, callV_fn, callV_yld, yield_eq, yieldBody, yieldRaw, roundMid, roundEnd, rangeEnd, Bool.not_not, put_cons, put_nil, trim_same, at_zero, at_add, set_zero, set_add, store_one, write_zero, write_add, write_head, write_succ, splice_one, splice_more, List.drop_nil, List.take_nil, cell_int, cell_bool, fillS, splice_one, idxA, Ex.isNormal, List.set_nil, List.length_set, List.all_cons, List.all_nil, Bool.and_self, and_self, true_and, and_true, List.getElem?_nil, Int.reduceLT, Int.reduceLE, Int.reduceToNat, Int.toNat_zero, Int.toNat_one, Int.reduceAdd, Int.reduceSub, Int.reduceMul, Int.reduceNeg, Int.reduceBEq, Int.reduceBNe, Int.reduceGE, Int.reduceGT, Nat.reduceLT, trim_keep, under_fn, under_ptr, under_sl, Nat.lt_irrefl, not_lt_add, trim_tail, keepOk, ABlk.vals, Int.cast_ofNat_Int, decide_true, decide_false, List.all_cons, List.all_nil, Nat.zero_mul, Nat.mul_one, Nat.one_mul, hq, wl, hd, seqR_exit', outs_normal]
  exact ⟨aK, exF2 rfl fs⟩
 | succ k ih =>
  intro i K w ats j100 j101 j102 j103 j104 j105 j106 j107 j108 j109 j110 j111 j112 j113 j114 j115 aK fs hq hne al hi
  have hlt : i < s.tb.length := by omega
  have hd : decide ((i : Int) < (s.tb.length : Int)) = true := decide_eq_true (by omega)
  have e2 : IntKind.i64.wrap ((i : Int) + 1) = ((i + 1 : Nat) : Int) := by rw [wrap64 (by omega) (by omega)]; omega
  have hx := List.getElem?_eq_getElem hlt
  rw [List.drop_eq_getElem_cons hlt, List.map_cons]
  generalize s.tb[i] = p at *
  obtain ⟨b2, c2, _, ix2, hc0, r1, r2, _, _⟩ := pt.idx hx
  have hc2 := aK.cells hc0
  obtain ⟨K2, hK2⟩ : ∃ K2, K2 = K ++ [ABlk.rw [.int .i64 p.2]] := ⟨_, rfl⟩
  have A2 : Adds K K2 := ⟨_, hK2⟩
  have cs2 : cellsOf K2 K.length = some [.int .i64 p.2] := by rw [hK2]; unfold cellsOf; simp
  obtain ⟨w', K3, ep, f3, fr3, sb3, l3⟩ := FS.push (fs.frT (Fr.adds A2 (fun _ => False)) fun _ _ h => h) cs2 (by omega) (by have := aK.len; have := A2.len; omega)
  have a3 : Adds H K3 := fr3.old (aK.trans A2) fun b hb h => by have := (FS.out fs b h).1; omega
  have q3 : cellsOf K3 q = some [.int .i64 s.id, vc, vt] := fr3.cells (A2.cells hq) fun h => hne q h rfl
  have hK2 := hK2.symm
  have key := ih (i + 1) K3 w' (ats ++ [p.2])
  rw [List.append_assoc, List.singleton_append] at key
  have lq : q < K.length := lt_of_cells hq
  rw [lo]
  unfold l11x2
  simp -implicitDefEqProofs (maxSteps := 5000000) only [go_sem, Nat.reduceShiftRight, Nat.reduceAnd, Nat.reduceBNe, Int.reduceEq, Nat.reduceAdd, Nat.reduceSub, Nat.reduceMul, Nat.reduceLeDiff, reduceIte, reduceCtorEq, Nat.reduceBEq, Nat.reduceEqDiff, wrap64, runC_loop, runC_range, callF_fn, callV_fn, callV_yld, yield_eq, yieldBody, yieldRaw, roundMid, roundEnd, rangeEnd, Bool.not_not, put_cons, put_nil, trim_same, at_zero, at_add, set_zero, set_add, store_one, write_zero, write_add, write_head, write_succ, splice_one, splice_more, List.drop_nil, List.take_nil, cell_int, cell_bool, fillS, splice_one, idxA, Ex.isNormal, List.set_nil, List.length_set, List.all_cons, List.all_nil, Bool.and_self, and_self, true_and, and_true, List.getElem?_nil, Int.reduceLT, Int.reduceLE, Int.reduceToNat, Int.toNat_zero, Int.toNat_one, Int.reduceAdd, Int.reduceSub, Int.reduceMul, Int.reduceNeg, Int.reduceBEq, Int.reduceBNe, Int.reduceGE, Int.reduceGT, Nat.reduceLT, trim_keep, under_fn, under_ptr, under_sl, Nat.lt_irrefl, not_lt_add, trim_tail, keepOk, ABlk.vals, Int.cast_ofNat_Int, decide_true, decide_false, List.all_cons, List.all_nil, Nat.zero_mul, Nat.mul_one, Nat.one_mul, hq, wl, hd, ix2, hc2, r2, hK2, ep, e2]
  exact key _ _ _ _ _ _ _ _ _ _ _ _ _ _ _ _ a3 f3 q3 (fun b h => by rw [sb3] at h; injection h with h; have := A2.len; omega) (by rw [List.length_append, List.length_singleton]; omega) (by omega)
end
section
variable {K : AHeap} {v : AV} {n i0 : Nat} (wv : lenSl v = some (.int .i64 (n : Int))) (hn : n ≤ 1000) (hi0 : i0 < n) {cl : AV} {cs : List Int} (hcl : IS K cl cs) (cn : cs.length ≤ 100000) {s : SnS} {q : Nat} {vc vt : AV} (hq : cellsOf K q = some [.int .i64 s.id, vc, vt]) (pt : IsP K vt s.tb) (ft : s.Fit)
include wv hn hi0 hcl cn hq pt ft
set_option maxHeartbeats 4000000 in
theorem rgooL3 (x1 x2 x3 x4 x5 x7 x10 x11 x12 x15 x16 x17 x18 x19 x20 x21 x22 x23 x24 x25 x26 x27 x28 x29 x30 x31 x32 x33 x34 x35 x36 x37 x38 x39 x40 x41 x42 x43 x44 x45 x46 x47 x48 x49 x50 x51 x52 x53 x54 x55 x56 x57 x58 x59 x60 x61 x62 x63 x64 x65 x66 x67 x68 x69 x70 x71 x72 x73 x74 x75 x76 x77 x78 x79 x80 x81 x82 x83 x84 x85 x86 x87 x88 x89 x90 x91 x92 x93 x94 x95 x96 x97 x98 x99 x100 x101 x102 x103 x104 x105 x106 x107 x108 x109 x110 x111 x112 x113 x114 x115 x116 x117 x118 : AV) : ∀ (k j : Nat) (j119 j120 j121 j122 j123 j124 j125 j126 j127 j128 j129 j130 j131 j132 j133 j134 j135 j136 j137 j138 j139 : AV), j + k = cs.length →
  Outs (LP1 l11x3 [v, x1, x2, x3, x4, x5, .bool false, x7, .int .i64 (i0 : Int), .ptr q 0, x10, x11, x12, cl, .int .i64 (j : Int), x15, x16, x17, x18, x19, x20, x21, x22, x23, x24, x25, x26, x27, x28, x29, x30, x31, x32, x33, x34, x35, x36, x37, x38, x39, x40, x41, x42, x43, x44, x45, x46, x47, x48, x49, x50, x51, x52, x53, x54, x55, x56, x57, x58, x59, x60, x61, x62, x63, x64, x65, x66, x67, x68, x69, x70, x71, x72, x73, x74, x75, x76, x77, x78, x79, x80, x81, x82, x83, x84, x85, x86, x87, x88, x89, x90, x91, x92, x93, x94, x95, x96, x97, x98, x99, x100, x101, x102, x103, x104, x105, x106, x107, x108, x109, x110, x111, x112, x113, x114, x115, x116, x117, x118, j119, j120, j121, j122, j123, j124, j125, j126, j127, j128, j129, j130, j131, j132, j133, j134, j135, j136, j137, j138, j139] K) fun e t K' => K' = K ∧ ∃ fv : Nat → AV, t = [v, x1, x2, x3, x4, x5, (fv 6), x7, .int .i64 (i0 : Int), .ptr q 0, x10, x11, x12, cl, (fv 14), x15, x16, x17, x18, x19, x20, x21, x22, x23, x24, x25, x26, x27, x28, x29, x30, x31, x32, x33, x34, x35, x36, x37, x38, x39, x40, x41, x42, x43, x44, x45, x46, x47, x48, x49, x50, x51, x52, x53, x54, x55, x56, x57, x58, x59, x60, x61, x62, x63, x64, x65, x66, x67, x68, x69, x70, x71, x72, x73, x74, x75, x76, x77, x78, x79, x80, x81, x82, x83, x84, x85, x86, x87, x88, x89, x90, x91, x92, x93, x94, x95, x96, x97, x98, x99, x100, x101, x102, x103, x104, x105, x106, x107, x108, x109, x110, x111, x112, x113, x114, x115, x116, x117, x118, (fv 119), (fv 120), (fv 121), (fv 122), (fv 123), (fv 124), (fv 125), (fv 126), (fv 127), (fv 128), (fv 129), (fv 130), (fv 131), (fv 132), (fv 133), (fv 134), (fv 135), (fv 136), (fv 137), (fv 138), (fv 139)] ∧ fv 6 = .bool false ∧ ((e = .exit 8 ∧ (decide (n ≤ i0 + 1) || (cs.drop j).all (fun c => decide (0 ≤ idxS s.tb c))) = true) ∨ (e = .ret ∧ (decide (n ≤ i0 + 1) || (cs.drop j).all (fun c => decide (0 ≤ idxS s.tb c))) = false)) := by
 intro k
 obtain ⟨L0, hL0⟩ : ∃ L, L = LP1 l11x3 := ⟨_, rfl⟩
 have lo := loop_open hL0
 have wl := hcl.len
 have lt1 := ft.lt
 have e1 : IntKind.i64.wrap ((i0 : Int) + 1) = ((i0 + 1 : Nat) : Int) := by rw [wrap64 (by omega) (by omega)]; omega
 rw [← hL0]
 induction k with
 | zero =>
  intro j j119 j120 j121 j122 j123 j124 j125 j126 j127 j128 j129 j130 j131 j132 j133 j134 j135 j136 j137 j138 j139 hj
  obtain rfl : j = cs.length := by omega
  have hd : decide ((cs.length : Int) < (cs.length : Int)) = false := by simp
  rw [List.drop_length, List.all_nil, Bool.or_true, lo]
  unfold l11x3
  simp -implicitDefEqProofs (maxSteps := 5000000) only [go_sem, Nat.reduceShiftRight, Nat.reduceAnd, Nat.reduceBNe, Int.reduceEq, Nat.reduceAdd, Nat.reduceSub, Nat.reduceMul, Nat.reduceLeDiff, reduceIte, reduceCtorEq, Nat.reduceBEq, Nat.reduceEqDiff, wrap64, runC_loop, runC_range, callF_fn, callV_fn, callV_yld, yield_eq, yieldBody, yieldRaw, roundMid, roundEnd, rangeEnd, Bool.not_not, put_cons, put_nil, trim_same, at_zero, at_add, set_zero, set_add, store_one, write_zero, write_add, write_head, write_succ, splice_one, splice_more, List.drop_nil, List.take_nil, cell_int, cell_bool, fillS, splice_one, idxA, Ex.isNormal, List.set_nil, List.length_set, List.all_cons, List.all_nil, Bool.and_self, and_self, true_and, and_true, List.getElem?_nil, Int.reduceLT, Int.reduceLE, Int.reduceToNat, Int.toNat_zero, Int.toNat_one, Int.reduceAdd, Int.reduceSub, Int.reduceMul, Int.reduceNeg, Int.reduceBEq, Int.reduceBNe, Int.reduceGE, Int.reduceGT, Nat.reduceLT, trim_keep, under_fn, under_ptr, under_sl, Nat.lt_irrefl, not_lt_add, trim_tail, keepOk, ABlk.vals, Int.cast_ofNat_Int, decide_true, decide_false, List.all_cons, List.all_nil, Nat.zero_mul, Nat.mul_one, Nat.one_mul, wl, hd, seqR_exit', outs_normal]
  exact exF2 rfl ⟨rfl, .inl (by first | rfl | trivial)⟩
 | succ k ih =>
  intro j j119 j120 j121 j122 j123 j124 j125 j126 j127 j128 j129 j130 j131 j132 j133 j134 j135 j136 j137 j138 j139 hj
  have hlt : j < cs.length := by omega
  have hd : decide ((j : Int) < (cs.length : Int)) = true := decide_eq_true (by omega)
  have e2 : IntKind.i64.wrap ((j : Int) + 1) = ((j + 1 : Nat) : Int) := by rw [wrap64 (by omega) (by omega)]; omega
  have hx := List.getElem?_eq_getElem hlt
  rw [lo]
  unfold l11x3
  by_cases hl : n ≤ i0 + 1
  ·have dl : decide (((i0 + 1 : Nat) : Int) < (n : Int)) = false := decide_eq_false (by omega)
   rw [decide_eq_true hl, Bool.true_or]
   simp -implicitDefEqProofs (maxSteps := 5000000) only [go_sem, Nat.reduceShiftRight, Nat.reduceAnd, Nat.reduceBNe, Int.reduceEq, Nat.reduceAdd, Nat.reduceSub, Nat.reduceMul, Nat.reduceLeDiff, reduceIte, reduceCtorEq, Nat.reduceBEq, Nat.reduceEqDiff, wrap64, runC_loop, runC_range, callF_fn, callV_fn, callV_yld, yield_eq, yieldBody, yieldRaw, roundMid, roundEnd, rangeEnd, Bool.not_not, put_cons, put_nil, trim_same, at_zero, at_add, set_zero, set_add, store_one, write_zero, write_add, write_head, write_succ, splice_one, splice_more, List.drop_nil, List.take_nil, cell_int, cell_bool, fillS, splice_one, idxA, Ex.isNormal, List.set_nil, List.length_set, List.all_cons, List.all_nil, Bool.and_self, and_self, true_and, and_true, List.getElem?_nil, Int.reduceLT, Int.reduceLE, Int.reduceToNat, Int.toNat_zero, Int.toNat_one, Int.reduceAdd, Int.reduceSub, Int.reduceMul, Int.reduceNeg, Int.reduceBEq, Int.reduceBNe, Int.reduceGE, Int.reduceGT, Nat.reduceLT, trim_keep, under_fn, under_ptr, under_sl, Nat.lt_irrefl, not_lt_add, trim_tail, keepOk, ABlk.vals, Int.cast_ofNat_Int, decide_true, decide_false, List.all_cons, List.all_nil, Nat.zero_mul, Nat.mul_one, Nat.one_mul, wl, hd, e1, wv, dl, seqR_exit', outs_normal]
   exact exF2 rfl ⟨rfl, .inl (by first | rfl | trivial)⟩
  ·have dl : decide (((i0 + 1 : Nat) : Int) < (n : Int)) = true := decide_eq_true (by omega)
   simp -zeta only [decide_eq_false hl, Bool.false_or] at ih
   rw [decide_eq_false hl, Bool.false_or]
   rw [List.drop_eq_getElem_cons hlt, List.all_cons]
   generalize cs[j] = c at *
   obtain ⟨a, ix, ld⟩ := hcl.idx hx .i64
   have ef := rfindC pt (by omega) c
   by_cases h : idxS s.tb c < 0
   ·have dn := decide_eq_true h
    rw [decide_eq_false (show ¬ 0 ≤ idxS s.tb c by omega)]
    simp -implicitDefEqProofs (maxSteps := 5000000) only [go_sem, Nat.reduceShiftRight, Nat.reduceAnd, Nat.reduceBNe, Int.reduceEq, Nat.reduceAdd, Nat.reduceSub, Nat.reduceMul, Nat.reduceLeDiff, reduceIte, reduceCtorEq, Nat.reduceBEq, Nat.reduceEqDiff, wrap64, runC_loop, runC_range, callF_fn, callV_fn, callV_yld, yield_eq, yieldBody, yieldRaw, roundMid, roundEnd, rangeEnd, Bool.not_not, put_cons, put_nil, trim_same, at_zero, at_add, set_zero, set_add, store_one, write_zero, write_add, write_head, write_succ, splice_one, splice_more, List.drop_nil, List.take_nil, cell_int, cell_bool, fillS, splice_one, idxA, Ex.isNormal, List.set_nil, List.length_set, List.all_cons, List.all_nil, Bool.and_self, and_self, true_and, and_true, List.getElem?_nil, Int.reduceLT, Int.reduceLE, Int.reduceToNat, Int.toNat_zero, Int.toNat_one, Int.reduceAdd, Int.reduceSub, Int.reduceMul, Int.reduceNeg, Int.reduceBEq, Int.reduceBNe, Int.reduceGE, Int.reduceGT, Nat.reduceLT, trim_keep, under_fn, under_ptr, under_sl, Nat.lt_irrefl, not_lt_add, trim_tail, keepOk, ABlk.vals, Int.cast_ofNat_Int, decide_true, decide_false, List.all_cons, List.all_nil, Nat.zero_mul, Nat.mul_one, Nat.one_mul, wl, hd, e1, wv, dl, hq, ix, ld, ef, dn, seqR_ret, outs_normal]
    exact exF2 rfl ⟨rfl, .inr (by first | rfl | trivial)⟩
   ·have dn := decide_eq_false h
    rw [decide_eq_true (show 0 ≤ idxS s.tb c by omega), Bool.true_and]
    simp -implicitDefEqProofs (maxSteps := 5000000) only [go_sem, Nat.reduceShiftRight, Nat.reduceAnd, Nat.reduceBNe, Int.reduceEq, Nat.reduceAdd, Nat.reduceSub, Nat.reduceMul, Nat.reduceLeDiff, reduceIte, reduceCtorEq, Nat.reduceBEq, Nat.reduceEqDiff, wrap64, runC_loop, runC_range, callF_fn, callV_fn, callV_yld, yield_eq, yieldBody, yieldRaw, roundMid, roundEnd, rangeEnd, Bool.not_not, put_cons, put_nil, trim_same, at_zero, at_add, set_zero, set_add, store_one, write_zero, write_add, write_head, write_succ, splice_one, splice_more, List.drop_nil, List.take_nil, cell_int, cell_bool, fillS, splice_one, idxA, Ex.isNormal, List.set_nil, List.length_set, List.all_cons, List.all_nil, Bool.and_self, and_self, true_and, and_true, List.getElem?_nil, Int.reduceLT, Int.reduceLE, Int.reduceToNat, Int.toNat_zero, Int.toNat_one, Int.reduceAdd, Int.reduceSub, Int.reduceMul, Int.reduceNeg, Int.reduceBEq, Int.reduceBNe, Int.reduceGE, Int.reduceGT, Nat.reduceLT, trim_keep, under_fn, under_ptr, under_sl, Nat.lt_irrefl, not_lt_add, trim_tail, keepOk, ABlk.vals, Int.cast_ofNat_Int, decide_true, decide_false, List.all_cons, List.all_nil, Nat.zero_mul, Nat.mul_one, Nat.one_mul, wl, hd, e1, wv, dl, hq, ix, ld, ef, dn, e2]
    exact ih (j + 1) _ _ _ _ _ _ _ _ _ _ _ _ _ _ _ _ _ _ _ _ _ (by omega)
end
end Go.Proofs.Ytfioahnogphnfaa.G12
end
section
namespace Go.Proofs.Ytfioahnogphnfaa.G12
open Go Go.Proofs.Ytfioahnogphnfaa.Eng
theorem isC_row {H : AHeap} {v : AV} {L : List SnS} (g : IsC H v L) {i : Nat} {s : SnS} (h : L[i]? = some s) :
  ∃ b cs vc vt, idxAddrS 3 v (.int .i64 (i : Int)) = some (.ptr b (i * 3)) ∧ cellsOf H b = some cs ∧ cs[i * 3]? = some (.int .i64 s.id) ∧ (cs.drop (i * 3)).take 3 = [.int .i64 s.id, vc, vt] ∧ i * 3 + 3 ≤ cs.length ∧ BS H vc s.ch ∧ IsP H vt s.tb := by
 obtain ⟨b, cs, vc, vt, sb, ix, hc, h1, h2, h3, ht, hle, hb, hp⟩ := g.idx h
 exact ⟨b, cs, vc, vt, ix, hc, h1, ht, hle, hb, hp⟩
section
variable {H : AHeap} {v : AV} {L : List SnS} (g : IsC H v L) {bl : Int} (ar : Int) (fi : ∀ s ∈ L, s.tb.length ≤ 9223372036854775807 ∧ (Bt.goodS s.ch bl = true → tgood s.tb bl ar = true → s.Fit)) (h8 : L.length ≤ 8) (hbl : bl ≤ 9223372036854775807)
include g fi h8 hbl
set_option maxHeartbeats 8000000 in
theorem rgooL4 (x3 x4 x5 x15 x16 x17 : AV) : ∀ (k i : Nat) (K : AHeap) (w : AV) (ats : List Int) (j9 j10 j11 j12 j13 j14 j18 j19 j20 j21 j22 j23 j24 j25 j26 j27 j28 j29 j30 j31 j32 j33 j34 j35 j36 j37 j38 j39 j40 j41 j42 j43 j44 j45 j46 j47 j48 j49 j50 j51 j52 j53 j54 j55 j56 j57 j58 j59 j60 j61 j62 j63 j64 j65 j66 j67 j68 j69 j70 j71 j72 j73 j74 j75 j76 j77 j78 j79 j80 j81 j82 j83 j84 j85 j86 j87 j88 j89 j90 j91 j92 j93 j94 j95 j96 j97 j98 j99 j100 j101 j102 j103 j104 j105 j106 j107 j108 j109 j110 j111 j112 j113 j114 j115 j116 j117 j118 j119 j120 j121 j122 j123 j124 j125 j126 j127 j128 j129 j130 j131 j132 j133 j134 j135 j136 j137 j138 j139 : AV), Adds H K → FS K H.length w ats → ats.length ≤ 1000 * i → i + k = L.length →
  Outs (LP1 l11x4 [v, .int .i64 bl, .int .i64 ar, x3, x4, x5, .bool false, w, .int .i64 (i : Int), j9, j10, j11, j12, j13, j14, x15, x16, x17, j18, j19, j20, j21, j22, j23, j24, j25, j26, j27, j28, j29, j30, j31, j32, j33, j34, j35, j36, j37, j38, j39, j40, j41, j42, j43, j44, j45, j46, j47, j48, j49, j50, j51, j52, j53, j54, j55, j56, j57, j58, j59, j60, j61, j62, j63, j64, j65, j66, j67, j68, j69, j70, j71, j72, j73, j74, j75, j76, j77, j78, j79, j80, j81, j82, j83, j84, j85, j86, j87, j88, j89, j90, j91, j92, j93, j94, j95, j96, j97, j98, j99, j100, j101, j102, j103, j104, j105, j106, j107, j108, j109, j110, j111, j112, j113, j114, j115, j116, j117, j118, j119, j120, j121, j122, j123, j124, j125, j126, j127, j128, j129, j130, j131, j132, j133, j134, j135, j136, j137, j138, j139] K) fun e t K' => Adds H K' ∧ ∃ fv : Nat → AV, t = [v, .int .i64 bl, .int .i64 ar, x3, x4, x5, (fv 6), (fv 7), (fv 8), (fv 9), (fv 10), (fv 11), (fv 12), (fv 13), (fv 14), x15, x16, x17, (fv 18), (fv 19), (fv 20), (fv 21), (fv 22), (fv 23), (fv 24), (fv 25), (fv 26), (fv 27), (fv 28), (fv 29), (fv 30), (fv 31), (fv 32), (fv 33), (fv 34), (fv 35), (fv 36), (fv 37), (fv 38), (fv 39), (fv 40), (fv 41), (fv 42), (fv 43), (fv 44), (fv 45), (fv 46), (fv 47), (fv 48), (fv 49), (fv 50), (fv 51), (fv 52), (fv 53), (fv 54), (fv 55), (fv 56), (fv 57), (fv 58), (fv 59), (fv 60), (fv 61), (fv 62), (fv 63), (fv 64), (fv 65), (fv 66), (fv 67), (fv 68), (fv 69), (fv 70), (fv 71), (fv 72), (fv 73), (fv 74), (fv 75), (fv 76), (fv 77), (fv 78), (fv 79), (fv 80), (fv 81), (fv 82), (fv 83), (fv 84), (fv 85), (fv 86), (fv 87), (fv 88), (fv 89), (fv 90), (fv 91), (fv 92), (fv 93), (fv 94), (fv 95), (fv 96), (fv 97), (fv 98), (fv 99), (fv 100), (fv 101), (fv 102), (fv 103), (fv 104), (fv 105), (fv 106), (fv 107), (fv 108), (fv 109), (fv 110), (fv 111), (fv 112), (fv 113), (fv 114), (fv 115), (fv 116), (fv 117), (fv 118), (fv 119), (fv 120), (fv 121), (fv 122), (fv 123), (fv 124), (fv 125), (fv 126), (fv 127), (fv 128), (fv 129), (fv 130), (fv 131), (fv 132), (fv 133), (fv 134), (fv 135), (fv 136), (fv 137), (fv 138), (fv 139)] ∧ fv 6 = .bool false ∧ ((e = .exit 0 ∧ rgoodF bl ar (L.drop i) (pvAt L i) ats = true) ∨ (e = .ret ∧ rgoodF bl ar (L.drop i) (pvAt L i) ats = false)) := by
 intro k
 obtain ⟨L0, hL0⟩ : ∃ L, L = LP1 l11x4 := ⟨_, rfl⟩
 have lo := loop_open hL0
 have wl := g.len
 rw [← hL0]
 induction k with
 | zero =>
  intro i K w ats j9 j10 j11 j12 j13 j14 j18 j19 j20 j21 j22 j23 j24 j25 j26 j27 j28 j29 j30 j31 j32 j33 j34 j35 j36 j37 j38 j39 j40 j41 j42 j43 j44 j45 j46 j47 j48 j49 j50 j51 j52 j53 j54 j55 j56 j57 j58 j59 j60 j61 j62 j63 j64 j65 j66 j67 j68 j69 j70 j71 j72 j73 j74 j75 j76 j77 j78 j79 j80 j81 j82 j83 j84 j85 j86 j87 j88 j89 j90 j91 j92 j93 j94 j95 j96 j97 j98 j99 j100 j101 j102 j103 j104 j105 j106 j107 j108 j109 j110 j111 j112 j113 j114 j115 j116 j117 j118 j119 j120 j121 j122 j123 j124 j125 j126 j127 j128 j129 j130 j131 j132 j133 j134 j135 j136 j137 j138 j139 aK fs al hi
  obtain rfl : i = L.length := by omega
  have hd : decide ((L.length : Int) < (L.length : Int)) = false := by simp
  rw [List.drop_length, lo]
  unfold l11x4
  simp -implicitDefEqProofs (maxSteps := 5000000) only [go_sem, Nat.reduceShiftRight, Nat.reduceAnd, Nat.reduceBNe, Int.reduceEq, Nat.reduceAdd, Nat.reduceSub, Nat.reduceMul, Nat.reduceLeDiff, reduceIte, reduceCtorEq, Nat.reduceBEq, Nat.reduceEqDiff, wrap64, runC_loop, runC_range, callF_fn, callV_fn, callV_yld, yield_eq, yieldBody, yieldRaw, roundMid, roundEnd, rangeEnd, Bool.not_not, put_cons, put_nil, trim_same, at_zero, at_add, set_zero, set_add, store_one, write_zero, write_add, write_head, write_succ, splice_one, splice_more, List.drop_nil, List.take_nil, cell_int, cell_bool, fillS, splice_one, idxA, Ex.isNormal, List.set_nil, List.length_set, List.all_cons, List.all_nil, Bool.and_self, and_self, true_and, and_true, List.getElem?_nil, Int.reduceLT, Int.reduceLE, Int.reduceToNat, Int.toNat_zero, Int.toNat_one, Int.reduceAdd, Int.reduceSub, Int.reduceMul, Int.reduceNeg, Int.reduceBEq, Int.reduceBNe, Int.reduceGE, Int.reduceGT, Nat.reduceLT, trim_keep, under_fn, under_ptr, under_sl, Nat.lt_irrefl, not_lt_add, trim_tail, keepOk, ABlk.vals, Int.cast_ofNat_Int, decide_true, decide_false, List.all_cons, List.all_nil, Nat.zero_mul, Nat.mul_one, Nat.one_mul, wl, hd, seqR_exit', outs_normal]
  exact ⟨aK, exF2 rfl ⟨rfl, .inl (by first | rfl | trivial)⟩⟩
 | succ k ih =>
  intro i K w ats j9 j10 j11 j12 j13 j14 j18 j19 j20 j21 j22 j23 j24 j25 j26 j27 j28 j29 j30 j31 j32 j33 j34 j35 j36 j37 j38 j39 j40 j41 j42 j43 j44 j45 j46 j47 j48 j49 j50 j51 j52 j53 j54 j55 j56 j57 j58 j59 j60 j61 j62 j63 j64 j65 j66 j67 j68 j69 j70 j71 j72 j73 j74 j75 j76 j77 j78 j79 j80 j81 j82 j83 j84 j85 j86 j87 j88 j89 j90 j91 j92 j93 j94 j95 j96 j97 j98 j99 j100 j101 j102 j103 j104 j105 j106 j107 j108 j109 j110 j111 j112 j113 j114 j115 j116 j117 j118 j119 j120 j121 j122 j123 j124 j125 j126 j127 j128 j129 j130 j131 j132 j133 j134 j135 j136 j137 j138 j139 aK fs al hi
  have hlt : i < L.length := by omega
  have hd : decide ((i : Int) < (L.length : Int)) = true := decide_eq_true (by omega)
  have e2 : IntKind.i64.wrap ((i : Int) + 1) = ((i + 1 : Nat) : Int) := by rw [wrap64 (by omega) (by omega)]; omega
  have hx := List.getElem?_eq_getElem hlt
  have fo := fi _ (List.mem_of_getElem? hx)
  have hpv := pvAt_succ hx
  have hem : (L.drop (i + 1)).isEmpty = decide (L.length ≤ i + 1) := by
   by_cases h : L.length ≤ i + 1
   ·rw [decide_eq_true h, List.drop_eq_nil_of_le h]; rfl
   ·rw [decide_eq_false h]
    cases hq : L.drop (i + 1) with
    | nil => have := congrArg List.length hq; rw [List.length_drop] at this; simp at this; omega
    | cons _ _ => rfl
  rw [List.drop_eq_getElem_cons hlt]
  generalize L[i] = s at *
  obtain ⟨bb, cs, vc, vt, ix, hc0, h1, ht, hle, bc, pt⟩ := isC_row g hx
  have hc := aK.cells hc0
  have hcA := fun {X} (a : Adds K X) => a.cells hc
  obtain ⟨K1, hK1⟩ : ∃ K1, K1 = K ++ [ABlk.rw [.int .i64 s.id, vc, vt]] := ⟨_, rfl⟩
  have A1 : Adds K K1 := ⟨_, hK1⟩
  have a1 := aK.trans A1
  have hc1 := hcA A1
  have cc := bc.cell
  have ct := pt.cell
  have cq : cellsOf K1 K.length = some [.int .i64 s.id, vc, vt] := by rw [hK1]; unfold cellsOf; simp
  have bc1 := a1.bs bc
  have pt1 := pt.adds a1
  have eg := Bt.goodR' bc1 bl
  have et := rgoodC pt1 fo.1 bl ar
  have fs1 : FS K1 H.length w ats := fs.frT (Fr.adds A1 (fun _ => False)) fun _ _ h => h
  have hne : ∀ b, slb w = some b → b ≠ K.length := fun b hb h => by have := (FS.out fs b hb).2; omega
  have hK1 := hK1.symm
  have wt := pt.len
  rw [rgoodF, hem]
  have out : ∀ {x : Bool}, x = false → (Adds H K1) := fun _ => a1
  have w1 : IntKind.i64.wrap ((i : Int) - 1) = (i : Int) - 1 := wrap64 (by omega) (by omega)
  rw [lo]
  unfold l11x4
  by_cases c1 : s.id < 1
  ·have d1 := decide_eq_true c1
   rw [decide_eq_false (show ¬ 1 ≤ s.id by omega), Bool.false_and]
   simp -implicitDefEqProofs (maxSteps := 5000000) only [go_sem, Nat.reduceShiftRight, Nat.reduceAnd, Nat.reduceBNe, Int.reduceEq, Nat.reduceAdd, Nat.reduceSub, Nat.reduceMul, Nat.reduceLeDiff, reduceIte, reduceCtorEq, Nat.reduceBEq, Nat.reduceEqDiff, wrap64, runC_loop, runC_range, callF_fn, callV_fn, callV_yld, yield_eq, yieldBody, yieldRaw, roundMid, roundEnd, rangeEnd, Bool.not_not, put_cons, put_nil, trim_same, at_zero, at_add, set_zero, set_add, store_one, write_zero, write_add, write_head, write_succ, splice_one, splice_more, List.drop_nil, List.take_nil, cell_int, cell_bool, fillS, splice_one, idxA, Ex.isNormal, List.set_nil, List.length_set, List.all_cons, List.all_nil, Bool.and_self, and_self, true_and, and_true, List.getElem?_nil, Int.reduceLT, Int.reduceLE, Int.reduceToNat, Int.toNat_zero, Int.toNat_one, Int.reduceAdd, Int.reduceSub, Int.reduceMul, Int.reduceNeg, Int.reduceBEq, Int.reduceBNe, Int.reduceGE, Int.reduceGT, Nat.reduceLT, trim_keep, under_fn, under_ptr, under_sl, Nat.lt_irrefl, not_lt_add, trim_tail, keepOk, ABlk.vals, Int.cast_ofNat_Int, decide_true, decide_false, List.all_cons, List.all_nil, Nat.zero_mul, Nat.mul_one, Nat.one_mul, wl, hd, ix, hc, ht, hle, cellsA_agg, cc.2, ct.2, hK1, cq, d1, seqR_ret, outs_normal]
   exact ⟨a1, exF2 rfl ⟨rfl, .inr (by first | rfl | trivial)⟩⟩
  have d1 := decide_eq_false c1
  rw [decide_eq_true (show 1 ≤ s.id by omega), Bool.true_and]
  by_cases c2 : s.id > 1000000
  ·have d2 := decide_eq_true c2
   rw [decide_eq_false (show ¬ s.id ≤ 1000000 by omega), Bool.false_and]
   simp -implicitDefEqProofs (maxSteps := 5000000) only [go_sem, Nat.reduceShiftRight, Nat.reduceAnd, Nat.reduceBNe, Int.reduceEq, Nat.reduceAdd, Nat.reduceSub, Nat.reduceMul, Nat.reduceLeDiff, reduceIte, reduceCtorEq, Nat.reduceBEq, Nat.reduceEqDiff, wrap64, runC_loop, runC_range, callF_fn, callV_fn, callV_yld, yield_eq, yieldBody, yieldRaw, roundMid, roundEnd, rangeEnd, Bool.not_not, put_cons, put_nil, trim_same, at_zero, at_add, set_zero, set_add, store_one, write_zero, write_add, write_head, write_succ, splice_one, splice_more, List.drop_nil, List.take_nil, cell_int, cell_bool, fillS, splice_one, idxA, Ex.isNormal, List.set_nil, List.length_set, List.all_cons, List.all_nil, Bool.and_self, and_self, true_and, and_true, List.getElem?_nil, Int.reduceLT, Int.reduceLE, Int.reduceToNat, Int.toNat_zero, Int.toNat_one, Int.reduceAdd, Int.reduceSub, Int.reduceMul, Int.reduceNeg, Int.reduceBEq, Int.reduceBNe, Int.reduceGE, Int.reduceGT, Nat.reduceLT, trim_keep, under_fn, under_ptr, under_sl, Nat.lt_irrefl, not_lt_add, trim_tail, keepOk, ABlk.vals, Int.cast_ofNat_Int, decide_true, decide_false, List.all_cons, List.all_nil, Nat.zero_mul, Nat.mul_one, Nat.one_mul, wl, hd, ix, hc, ht, hle, cellsA_agg, cc.2, ct.2, hK1, cq, d1, d2, seqR_ret, outs_normal]
   exact ⟨a1, exF2 rfl ⟨rfl, .inr (by first | rfl | trivial)⟩⟩
  have d2 := decide_eq_false c2
  rw [decide_eq_true (show s.id ≤ 1000000 by omega), Bool.true_and]
  have pvc : (i = 0 ∧ pvOk (pvAt L i) s.id = true) ∨ (∃ n x b2 c2, i = n + 1 ∧ idxAddrS 3 v (.int .i64 (n : Int)) = some (.ptr b2 (n * 3)) ∧ cellsOf K1 b2 = some c2 ∧ c2[n * 3]? = some (.int .i64 x) ∧ pvOk (pvAt L i) s.id = decide (x < s.id)) := by
   cases i with
   | zero => exact .inl ⟨rfl, rfl⟩
   | succ n =>
    have hn : n < L.length := by omega
    have hy := List.getElem?_eq_getElem hn
    obtain ⟨b2, c2, _, _, ix2, hcy, r1, _⟩ := isC_row g hy
    exact .inr ⟨n, L[n].id, b2, c2, rfl, ix2, a1.cells hcy, r1, by rw [pvAt_succ hy]; rfl⟩
  rcases pvc with ⟨hi0, pv0⟩ | ⟨n, x, b2, c2', hin, ix2, hc2, r2, pv1⟩
  ·rw [pv0, Bool.true_and]
   have dz : decide ((i : Int) > 0) = false := decide_eq_false (by omega)
   rcases hg : Bt.goodS s.ch bl with _ | _ <;> rw [hg] at eg
   ·simp -implicitDefEqProofs (maxSteps := 5000000) only [go_sem, Nat.reduceShiftRight, Nat.reduceAnd, Nat.reduceBNe, Int.reduceEq, Nat.reduceAdd, Nat.reduceSub, Nat.reduceMul, Nat.reduceLeDiff, reduceIte, reduceCtorEq, Nat.reduceBEq, Nat.reduceEqDiff, wrap64, runC_loop, runC_range, callF_fn, callV_fn, callV_yld, yield_eq, yieldBody, yieldRaw, roundMid, roundEnd, rangeEnd, Bool.not_not, put_cons, put_nil, trim_same, at_zero, at_add, set_zero, set_add, store_one, write_zero, write_add, write_head, write_succ, splice_one, splice_more, List.drop_nil, List.take_nil, cell_int, cell_bool, fillS, splice_one, idxA, Ex.isNormal, List.set_nil, List.length_set, List.all_cons, List.all_nil, Bool.and_self, and_self, true_and, and_true, List.getElem?_nil, Int.reduceLT, Int.reduceLE, Int.reduceToNat, Int.toNat_zero, Int.toNat_one, Int.reduceAdd, Int.reduceSub, Int.reduceMul, Int.reduceNeg, Int.reduceBEq, Int.reduceBNe, Int.reduceGE, Int.reduceGT, Nat.reduceLT, trim_keep, under_fn, under_ptr, under_sl, Nat.lt_irrefl, not_lt_add, trim_tail, keepOk, ABlk.vals, Int.cast_ofNat_Int, decide_true, decide_false, List.all_cons, List.all_nil, Nat.zero_mul, Nat.mul_one, Nat.one_mul, wl, hd, ix, hc, ht, hle, cellsA_agg, cc.2, ct.2, hK1, cq, d1, d2, dz, eg, seqR_ret, outs_normal]
    exact ⟨a1, exF2 rfl ⟨rfl, .inr (by first | rfl | trivial)⟩⟩
   rcases hg2 : tgood s.tb bl ar with _ | _ <;> rw [hg2] at et
   ·simp -implicitDefEqProofs (maxSteps := 5000000) only [go_sem, Nat.reduceShiftRight, Nat.reduceAnd, Nat.reduceBNe, Int.reduceEq, Nat.reduceAdd, Nat.reduceSub, Nat.reduceMul, Nat.reduceLeDiff, reduceIte, reduceCtorEq, Nat.reduceBEq, Nat.reduceEqDiff, wrap64, runC_loop, runC_range, callF_fn, callV_fn, callV_yld, yield_eq, yieldBody, yieldRaw, roundMid, roundEnd, rangeEnd, Bool.not_not, put_cons, put_nil, trim_same, at_zero, at_add, set_zero, set_add, store_one, write_zero, write_add, write_head, write_succ, splice_one, splice_more, List.drop_nil, List.take_nil, cell_int, cell_bool, fillS, splice_one, idxA, Ex.isNormal, List.set_nil, List.length_set, List.all_cons, List.all_nil, Bool.and_self, and_self, true_and, and_true, List.getElem?_nil, Int.reduceLT, Int.reduceLE, Int.reduceToNat, Int.toNat_zero, Int.toNat_one, Int.reduceAdd, Int.reduceSub, Int.reduceMul, Int.reduceNeg, Int.reduceBEq, Int.reduceBNe, Int.reduceGE, Int.reduceGT, Nat.reduceLT, trim_keep, under_fn, under_ptr, under_sl, Nat.lt_irrefl, not_lt_add, trim_tail, keepOk, ABlk.vals, Int.cast_ofNat_Int, decide_true, decide_false, List.all_cons, List.all_nil, Nat.zero_mul, Nat.mul_one, Nat.one_mul, wl, hd, ix, hc, ht, hle, cellsA_agg, cc.2, ct.2, hK1, cq, d1, d2, dz, eg, et, seqR_ret, outs_normal]
    exact ⟨a1, exF2 rfl ⟨rfl, .inr (by first | rfl | trivial)⟩⟩
   have G := good_iff.1 hg2
   have ft := fo.2 hg hg2
   have l1 := rgooL1 fs1 (by omega) cq bc1 pt1 ft (fun p hp => by have := (G.rng p hp).1; omega) (k := s.tb.length) (i := 0)
   rw [show ((0 : Nat) : Int) = 0 from rfl, List.drop_zero] at l1
   rw [Bool.true_and, Bool.true_and]
   simp -implicitDefEqProofs (maxSteps := 5000000) only [go_sem, Nat.reduceShiftRight, Nat.reduceAnd, Nat.reduceBNe, Int.reduceEq, Nat.reduceAdd, Nat.reduceSub, Nat.reduceMul, Nat.reduceLeDiff, reduceIte, reduceCtorEq, Nat.reduceBEq, Nat.reduceEqDiff, wrap64, runC_loop, runC_range, callF_fn, callV_fn, callV_yld, yield_eq, yieldBody, yieldRaw, roundMid, roundEnd, rangeEnd, Bool.not_not, put_cons, put_nil, trim_same, at_zero, at_add, set_zero, set_add, store_one, write_zero, write_add, write_head, write_succ, splice_one, splice_more, List.drop_nil, List.take_nil, cell_int, cell_bool, fillS, splice_one, idxA, Ex.isNormal, List.set_nil, List.length_set, List.all_cons, List.all_nil, Bool.and_self, and_self, true_and, and_true, List.getElem?_nil, Int.reduceLT, Int.reduceLE, Int.reduceToNat, Int.toNat_zero, Int.toNat_one, Int.reduceAdd, Int.reduceSub, Int.reduceMul, Int.reduceNeg, Int.reduceBEq, Int.reduceBNe, Int.reduceGE, Int.reduceGT, Nat.reduceLT, trim_keep, under_fn, under_ptr, under_sl, Nat.lt_irrefl, not_lt_add, trim_tail, keepOk, ABlk.vals, Int.cast_ofNat_Int, decide_true, decide_false, List.all_cons, List.all_nil, Nat.zero_mul, Nat.mul_one, Nat.one_mul, runC_loop, wl, hd, ix, hc, ht, hle, cellsA_agg, cc.2, ct.2, hK1, cq, d1, d2, dz, eg, et]
   unfold LP1 at l1
   generalize (envL prog).loop (runC (envL prog) (l11x1 (envL prog))) = LL1 at l1 ⊢
   refine outs_ctx (fun r => seqR (seqR (blockR 1 (seqR (blockR 2 r) _)) _) _) (l1 _ _ _ _ _ _ _ _ _ _ _ _ _ _ _ _ _ _ _ _ _ _ _ _ _ _ _ _ _ _ _ _ _ _ _ _ _ _ _ _ _ _ _ _ _ _ _ _ _ _ _ _ _ _ _ _ _ _ _ _ _ _ _ _ _ _ _ _ _ _ _ _ _ _ _ _ _ _ _ _ _ _ _ _ _ _ _ _ _ _ _ _ _ _ _ _ _ _ _ _ _ _ _ _ _ _ _ _ _ _ _ _ _ _ _ _ _ _ _ _ _ _ _ _ _ _ _ _ _ _ _ _ _ _ _ _ (by omega)) ?_
   rintro e t K' ⟨rfl, fv, rfl, f6, ⟨rfl, ho⟩ | ⟨rfl, ho⟩⟩
   ·rw [ho, Bool.true_and]
    have l2 := rgooL2 (H := H) (q := K.length) (vc := vc) pt ft (k := s.tb.length) (i := 0) (K := K') (w := w) (ats := ats)
    rw [show ((0 : Nat) : Int) = 0 from rfl, List.drop_zero] at l2
    simp -implicitDefEqProofs (maxSteps := 5000000) only [go_sem, Nat.reduceShiftRight, Nat.reduceAnd, Nat.reduceBNe, Int.reduceEq, Nat.reduceAdd, Nat.reduceSub, Nat.reduceMul, Nat.reduceLeDiff, reduceIte, reduceCtorEq, Nat.reduceBEq, Nat.reduceEqDiff, wrap64, runC_loop, runC_range, callF_fn, callV_fn, callV_yld, yield_eq, yieldBody, yieldRaw, roundMid, roundEnd, rangeEnd, Bool.not_not, put_cons, put_nil, trim_same, at_zero, at_add, set_zero, set_add, store_one, write_zero, write_add, write_head, write_succ, splice_one, splice_more, List.drop_nil, List.take_nil, cell_int, cell_bool, fillS, splice_one, idxA, Ex.isNormal, List.set_nil, List.length_set, List.all_cons, List.all_nil, Bool.and_self, and_self, true_and, and_true, List.getElem?_nil, Int.reduceLT, Int.reduceLE, Int.reduceToNat, Int.toNat_zero, Int.toNat_one, Int.reduceAdd, Int.reduceSub, Int.reduceMul, Int.reduceNeg, Int.reduceBEq, Int.reduceBNe, Int.reduceGE, Int.reduceGT, Nat.reduceLT, trim_keep, under_fn, under_ptr, under_sl, Nat.lt_irrefl, not_lt_add, trim_tail, keepOk, ABlk.vals, Int.cast_ofNat_Int, decide_true, decide_false, List.all_cons, List.all_nil, Nat.zero_mul, Nat.mul_one, Nat.one_mul, runC_loop, f6]
    unfold LP1 at l2
    generalize (envL prog).loop (runC (envL prog) (l11x2 (envL prog))) = LL2 at l2 ⊢
    refine outs_ctx (fun r => seqR (seqR (blockR 1 (seqR (blockR 6 r) _)) _) _) (l2 _ _ _ _ _ _ _ _ _ _ _ _ _ _ _ _ _ _ _ _ _ _ _ _ _ _ _ _ _ _ _ _ _ _ _ _ _ _ _ _ _ _ _ _ _ _ _ _ _ _ _ _ _ _ _ _ _ _ _ _ _ _ _ _ _ _ _ _ _ _ _ _ _ _ _ _ _ _ _ _ _ _ _ _ _ _ _ _ _ _ _ _ _ _ _ _ _ _ _ _ _ _ _ _ _ _ _ _ _ _ _ _ _ _ _ _ _ _ _ _ _ _ _ _ _ _ _ _ _ _ _ _ _ _ _ _ _ a1 fs1 cq hne (by omega) (by omega)) ?_
    rintro e t K2 ⟨rfl, a2, cq2, fw, rfl, fs2⟩
    obtain ⟨cl, R, gr, ec⟩ := Bt.allR (a2.bs bc) (by have := ft.lc; omega)
    obtain ⟨K3, hK3⟩ : ∃ K3, K3 = K2 ++ R := ⟨_, rfl⟩
    have A3 : Adds K2 K3 := ⟨_, hK3⟩
    have isc : IS K3 cl (Bt.allS s.ch) := by rw [hK3]; exact Bt.Grown.is gr
    rw [← hK3] at ec
    have a3 := a2.trans A3
    have l3 := rgooL3 (n := L.length) (i0 := i) wl (by omega) hlt isc (by have := Bt.allS_len s.ch; have := ft.lc; omega) (A3.cells cq2) (pt.adds a3) ft (k := (Bt.allS s.ch).length) (j := 0)
    rw [show ((0 : Nat) : Int) = 0 from rfl, List.drop_zero] at l3
    simp -implicitDefEqProofs (maxSteps := 5000000) only [go_sem, Nat.reduceShiftRight, Nat.reduceAnd, Nat.reduceBNe, Int.reduceEq, Nat.reduceAdd, Nat.reduceSub, Nat.reduceMul, Nat.reduceLeDiff, reduceIte, reduceCtorEq, Nat.reduceBEq, Nat.reduceEqDiff, wrap64, runC_loop, runC_range, callF_fn, callV_fn, callV_yld, yield_eq, yieldBody, yieldRaw, roundMid, roundEnd, rangeEnd, Bool.not_not, put_cons, put_nil, trim_same, at_zero, at_add, set_zero, set_add, store_one, write_zero, write_add, write_head, write_succ, splice_one, splice_more, List.drop_nil, List.take_nil, cell_int, cell_bool, fillS, splice_one, idxA, Ex.isNormal, List.set_nil, List.length_set, List.all_cons, List.all_nil, Bool.and_self, and_self, true_and, and_true, List.getElem?_nil, Int.reduceLT, Int.reduceLE, Int.reduceToNat, Int.toNat_zero, Int.toNat_one, Int.reduceAdd, Int.reduceSub, Int.reduceMul, Int.reduceNeg, Int.reduceBEq, Int.reduceBNe, Int.reduceGE, Int.reduceGT, Nat.reduceLT, trim_keep, under_fn, under_ptr, under_sl, Nat.lt_irrefl, not_lt_add, trim_tail, keepOk, ABlk.vals, Int.cast_ofNat_Int, decide_true, decide_false, List.all_cons, List.all_nil, Nat.zero_mul, Nat.mul_one, Nat.one_mul, runC_loop, cq2, ec]
    unfold LP1 at l3
    generalize (envL prog).loop (runC (envL prog) (l11x3 (envL prog))) = LL3 at l3 ⊢
    refine outs_ctx (fun r => seqR (seqR (blockR 1 (blockR 8 r)) _) _) (l3 _ _ _ _ _ _ _ _ _ _ _ _ _ _ _ _ _ _ _ _ _ _ _ _ _ _ _ _ _ _ _ _ _ _ _ _ _ _ _ _ _ _ _ _ _ _ _ _ _ _ _ _ _ _ _ _ _ _ _ _ _ _ _ _ _ _ _ _ _ _ _ _ _ _ _ _ _ _ _ _ _ _ _ _ _ _ _ _ _ _ _ _ _ _ _ _ _ _ _ _ _ _ _ _ _ _ _ _ _ _ _ _ _ _ _ _ _ _ _ _ _ _ _ _ _ _ _ _ _ _ _ _ _ _ (by omega)) ?_
    rintro e t K4 ⟨rfl, fx, rfl, f6', ⟨rfl, ho2⟩ | ⟨rfl, ho2⟩⟩
    ·rw [ho2, Bool.true_and]
     have key := ih (i + 1) K4 (fw 7) (ats ++ s.tb.map (·.2))
     rw [hpv] at key
     simp -implicitDefEqProofs (maxSteps := 5000000) only [go_sem, Nat.reduceShiftRight, Nat.reduceAnd, Nat.reduceBNe, Int.reduceEq, Nat.reduceAdd, Nat.reduceSub, Nat.reduceMul, Nat.reduceLeDiff, reduceIte, reduceCtorEq, Nat.reduceBEq, Nat.reduceEqDiff, wrap64, runC_loop, runC_range, callF_fn, callV_fn, callV_yld, yield_eq, yieldBody, yieldRaw, roundMid, roundEnd, rangeEnd, Bool.not_not, put_cons, put_nil, trim_same, at_zero, at_add, set_zero, set_add, store_one, write_zero, write_add, write_head, write_succ, splice_one, splice_more, List.drop_nil, List.take_nil, cell_int, cell_bool, fillS, splice_one, idxA, Ex.isNormal, List.set_nil, List.length_set, List.all_cons, List.all_nil, Bool.and_self, and_self, true_and, and_true, List.getElem?_nil, Int.reduceLT, Int.reduceLE, Int.reduceToNat, Int.toNat_zero, Int.toNat_one, Int.reduceAdd, Int.reduceSub, Int.reduceMul, Int.reduceNeg, Int.reduceBEq, Int.reduceBNe, Int.reduceGE, Int.reduceGT, Nat.reduceLT, trim_keep, under_fn, under_ptr, under_sl, Nat.lt_irrefl, not_lt_add, trim_tail, keepOk, ABlk.vals, Int.cast_ofNat_Int, decide_true, decide_false, List.all_cons, List.all_nil, Nat.zero_mul, Nat.mul_one, Nat.one_mul, f6', e2]
     exact key _ _ _ _ _ _ _ _ _ _ _ _ _ _ _ _ _ _ _ _ _ _ _ _ _ _ _ _ _ _ _ _ _ _ _ _ _ _ _ _ _ _ _ _ _ _ _ _ _ _ _ _ _ _ _ _ _ _ _ _ _ _ _ _ _ _ _ _ _ _ _ _ _ _ _ _ _ _ _ _ _ _ _ _ _ _ _ _ _ _ _ _ _ _ _ _ _ _ _ _ _ _ _ _ _ _ _ _ _ _ _ _ _ _ _ _ _ _ _ _ _ _ _ _ _ _ _ _ a3 (fs2.frT (Fr.adds A3 (fun _ => False)) fun _ _ h => h) (by rw [List.length_append, List.length_map]; have := ft.lt; omega) (by omega)
    ·rw [ho2, Bool.false_and]
     simp -implicitDefEqProofs (maxSteps := 5000000) only [go_sem, Nat.reduceShiftRight, Nat.reduceAnd, Nat.reduceBNe, Int.reduceEq, Nat.reduceAdd, Nat.reduceSub, Nat.reduceMul, Nat.reduceLeDiff, reduceIte, reduceCtorEq, Nat.reduceBEq, Nat.reduceEqDiff, wrap64, runC_loop, runC_range, callF_fn, callV_fn, callV_yld, yield_eq, yieldBody, yieldRaw, roundMid, roundEnd, rangeEnd, Bool.not_not, put_cons, put_nil, trim_same, at_zero, at_add, set_zero, set_add, store_one, write_zero, write_add, write_head, write_succ, splice_one, splice_more, List.drop_nil, List.take_nil, cell_int, cell_bool, fillS, splice_one, idxA, Ex.isNormal, List.set_nil, List.length_set, List.all_cons, List.all_nil, Bool.and_self, and_self, true_and, and_true, List.getElem?_nil, Int.reduceLT, Int.reduceLE, Int.reduceToNat, Int.toNat_zero, Int.toNat_one, Int.reduceAdd, Int.reduceSub, Int.reduceMul, Int.reduceNeg, Int.reduceBEq, Int.reduceBNe, Int.reduceGE, Int.reduceGT, Nat.reduceLT, trim_keep, under_fn, under_ptr, under_sl, Nat.lt_irrefl, not_lt_add, trim_tail, keepOk, ABlk.vals, Int.cast_ofNat_Int, decide_true, decide_false, List.all_cons, List.all_nil, Nat.zero_mul, Nat.mul_one, Nat.one_mul, seqR_ret, outs_normal]
     exact ⟨a3, exF2 rfl ⟨f6', .inr (by first | rfl | trivial)⟩⟩
   ·rw [ho, Bool.false_and]
    simp -implicitDefEqProofs (maxSteps := 5000000) only [go_sem, Nat.reduceShiftRight, Nat.reduceAnd, Nat.reduceBNe, Int.reduceEq, Nat.reduceAdd, Nat.reduceSub, Nat.reduceMul, Nat.reduceLeDiff, reduceIte, reduceCtorEq, Nat.reduceBEq, Nat.reduceEqDiff, wrap64, runC_loop, runC_range, callF_fn, callV_fn, callV_yld, yield_eq, yieldBody, yieldRaw, roundMid, roundEnd, rangeEnd, Bool.not_not, put_cons, put_nil, trim_same, at_zero, at_add, set_zero, set_add, store_one, write_zero, write_add, write_head, write_succ, splice_one, splice_more, List.drop_nil, List.take_nil, cell_int, cell_bool, fillS, splice_one, idxA, Ex.isNormal, List.set_nil, List.length_set, List.all_cons, List.all_nil, Bool.and_self, and_self, true_and, and_true, List.getElem?_nil, Int.reduceLT, Int.reduceLE, Int.reduceToNat, Int.toNat_zero, Int.toNat_one, Int.reduceAdd, Int.reduceSub, Int.reduceMul, Int.reduceNeg, Int.reduceBEq, Int.reduceBNe, Int.reduceGE, Int.reduceGT, Nat.reduceLT, trim_keep, under_fn, under_ptr, under_sl, Nat.lt_irrefl, not_lt_add, trim_tail, keepOk, ABlk.vals, Int.cast_ofNat_Int, decide_true, decide_false, List.all_cons, List.all_nil, Nat.zero_mul, Nat.mul_one, Nat.one_mul, seqR_ret, outs_normal]
    exact ⟨a1, exF2 rfl ⟨f6, .inr (by first | rfl | trivial)⟩⟩
  ·have dz : decide ((i : Int) > 0) = true := decide_eq_true (by omega)
   have il2 : IntKind.i64.wrap ((i : Int) - 1) = (n : Int) := by rw [w1]; omega
   rw [pv1]
   by_cases hle2 : s.id ≤ x
   ·have dl := decide_eq_true hle2
    rw [decide_eq_false (show ¬ x < s.id by omega), Bool.false_and]
    simp -implicitDefEqProofs (maxSteps := 5000000) only [go_sem, Nat.reduceShiftRight, Nat.reduceAnd, Nat.reduceBNe, Int.reduceEq, Nat.reduceAdd, Nat.reduceSub, Nat.reduceMul, Nat.reduceLeDiff, reduceIte, reduceCtorEq, Nat.reduceBEq, Nat.reduceEqDiff, wrap64, runC_loop, runC_range, callF_fn, callV_fn, callV_yld, yield_eq, yieldBody, yieldRaw, roundMid, roundEnd, rangeEnd, Bool.not_not, put_cons, put_nil, trim_same, at_zero, at_add, set_zero, set_add, store_one, write_zero, write_add, write_head, write_succ, splice_one, splice_more, List.drop_nil, List.take_nil, cell_int, cell_bool, fillS, splice_one, idxA, Ex.isNormal, List.set_nil, List.length_set, List.all_cons, List.all_nil, Bool.and_self, and_self, true_and, and_true, List.getElem?_nil, Int.reduceLT, Int.reduceLE, Int.reduceToNat, Int.toNat_zero, Int.toNat_one, Int.reduceAdd, Int.reduceSub, Int.reduceMul, Int.reduceNeg, Int.reduceBEq, Int.reduceBNe, Int.reduceGE, Int.reduceGT, Nat.reduceLT, trim_keep, under_fn, under_ptr, under_sl, Nat.lt_irrefl, not_lt_add, trim_tail, keepOk, ABlk.vals, Int.cast_ofNat_Int, decide_true, decide_false, List.all_cons, List.all_nil, Nat.zero_mul, Nat.mul_one, Nat.one_mul, wl, hd, ix, hc, ht, hle, cellsA_agg, cc.2, ct.2, hK1, cq, d1, d2, dz, il2, ix2, hc2, r2, dl, seqR_ret, outs_normal]
    exact ⟨a1, exF2 rfl ⟨rfl, .inr (by first | rfl | trivial)⟩⟩
   have dl := decide_eq_false hle2
   rw [decide_eq_true (show x < s.id by omega), Bool.true_and]
   rcases hg : Bt.goodS s.ch bl with _ | _ <;> rw [hg] at eg
   ·simp -implicitDefEqProofs (maxSteps := 5000000) only [go_sem, Nat.reduceShiftRight, Nat.reduceAnd, Nat.reduceBNe, Int.reduceEq, Nat.reduceAdd, Nat.reduceSub, Nat.reduceMul, Nat.reduceLeDiff, reduceIte, reduceCtorEq, Nat.reduceBEq, Nat.reduceEqDiff, wrap64, runC_loop, runC_range, callF_fn, callV_fn, callV_yld, yield_eq, yieldBody, yieldRaw, roundMid, roundEnd, rangeEnd, Bool.not_not, put_cons, put_nil, trim_same, at_zero, at_add, set_zero, set_add, store_one, write_zero, write_add, write_head, write_succ, splice_one, splice_more, List.drop_nil, List.take_nil, cell_int, cell_bool, fillS, splice_one, idxA, Ex.isNormal, List.set_nil, List.length_set, List.all_cons, List.all_nil, Bool.and_self, and_self, true_and, and_true, List.getElem?_nil, Int.reduceLT, Int.reduceLE, Int.reduceToNat, Int.toNat_zero, Int.toNat_one, Int.reduceAdd, Int.reduceSub, Int.reduceMul, Int.reduceNeg, Int.reduceBEq, Int.reduceBNe, Int.reduceGE, Int.reduceGT, Nat.reduceLT, trim_keep, under_fn, under_ptr, under_sl, Nat.lt_irrefl, not_lt_add, trim_tail, keepOk, ABlk.vals, Int.cast_ofNat_Int, decide_true, decide_false, List.all_cons, List.all_nil, Nat.zero_mul, Nat.mul_one, Nat.one_mul, wl, hd, ix, hc, ht, hle, cellsA_agg, cc.2, ct.2, hK1, cq, d1, d2, dz, il2, ix2, hc2, r2, dl, eg, seqR_ret, outs_normal]
    exact ⟨a1, exF2 rfl ⟨rfl, .inr (by first | rfl | trivial)⟩⟩
   rcases hg2 : tgood s.tb bl ar with _ | _ <;> rw [hg2] at et
   ·simp -implicitDefEqProofs (maxSteps := 5000000) only [go_sem, Nat.reduceShiftRight, Nat.reduceAnd, Nat.reduceBNe, Int.reduceEq, Nat.reduceAdd, Nat.reduceSub, Nat.reduceMul, Nat.reduceLeDiff, reduceIte, reduceCtorEq, Nat.reduceBEq, Nat.reduceEqDiff, wrap64, runC_loop, runC_range, callF_fn, callV_fn, callV_yld, yield_eq, yieldBody, yieldRaw, roundMid, roundEnd, rangeEnd, Bool.not_not, put_cons, put_nil, trim_same, at_zero, at_add, set_zero, set_add, store_one, write_zero, write_add, write_head, write_succ, splice_one, splice_more, List.drop_nil, List.take_nil, cell_int, cell_bool, fillS, splice_one, idxA, Ex.isNormal, List.set_nil, List.length_set, List.all_cons, List.all_nil, Bool.and_self, and_self, true_and, and_true, List.getElem?_nil, Int.reduceLT, Int.reduceLE, Int.reduceToNat, Int.toNat_zero, Int.toNat_one, Int.reduceAdd, Int.reduceSub, Int.reduceMul, Int.reduceNeg, Int.reduceBEq, Int.reduceBNe, Int.reduceGE, Int.reduceGT, Nat.reduceLT, trim_keep, under_fn, under_ptr, under_sl, Nat.lt_irrefl, not_lt_add, trim_tail, keepOk, ABlk.vals, Int.cast_ofNat_Int, decide_true, decide_false, List.all_cons, List.all_nil, Nat.zero_mul, Nat.mul_one, Nat.one_mul, wl, hd, ix, hc, ht, hle, cellsA_agg, cc.2, ct.2, hK1, cq, d1, d2, dz, il2, ix2, hc2, r2, dl, eg, et, seqR_ret, outs_normal]
    exact ⟨a1, exF2 rfl ⟨rfl, .inr (by first | rfl | trivial)⟩⟩
   have G := good_iff.1 hg2
   have ft := fo.2 hg hg2
   have l1 := rgooL1 fs1 (by omega) cq bc1 pt1 ft (fun p hp => by have := (G.rng p hp).1; omega) (k := s.tb.length) (i := 0)
   rw [show ((0 : Nat) : Int) = 0 from rfl, List.drop_zero] at l1
   rw [Bool.true_and, Bool.true_and]
   simp -implicitDefEqProofs (maxSteps := 5000000) only [go_sem, Nat.reduceShiftRight, Nat.reduceAnd, Nat.reduceBNe, Int.reduceEq, Nat.reduceAdd, Nat.reduceSub, Nat.reduceMul, Nat.reduceLeDiff, reduceIte, reduceCtorEq, Nat.reduceBEq, Nat.reduceEqDiff, wrap64, runC_loop, runC_range, callF_fn, callV_fn, callV_yld, yield_eq, yieldBody, yieldRaw, roundMid, roundEnd, rangeEnd, Bool.not_not, put_cons, put_nil, trim_same, at_zero, at_add, set_zero, set_add, store_one, write_zero, write_add, write_head, write_succ, splice_one, splice_more, List.drop_nil, List.take_nil, cell_int, cell_bool, fillS, splice_one, idxA, Ex.isNormal, List.set_nil, List.length_set, List.all_cons, List.all_nil, Bool.and_self, and_self, true_and, and_true, List.getElem?_nil, Int.reduceLT, Int.reduceLE, Int.reduceToNat, Int.toNat_zero, Int.toNat_one, Int.reduceAdd, Int.reduceSub, Int.reduceMul, Int.reduceNeg, Int.reduceBEq, Int.reduceBNe, Int.reduceGE, Int.reduceGT, Nat.reduceLT, trim_keep, under_fn, under_ptr, under_sl, Nat.lt_irrefl, not_lt_add, trim_tail, keepOk, ABlk.vals, Int.cast_ofNat_Int, decide_true, decide_false, List.all_cons, List.all_nil, Nat.zero_mul, Nat.mul_one, Nat.one_mul, runC_loop, wl, hd, ix, hc, ht, hle, cellsA_agg, cc.2, ct.2, hK1, cq, d1, d2, dz, il2, ix2, hc2, r2, dl, eg, et]
   unfold LP1 at l1
   generalize (envL prog).loop (runC (envL prog) (l11x1 (envL prog))) = LL1 at l1 ⊢
   refine outs_ctx (fun r => seqR (seqR (blockR 1 (seqR (blockR 2 r) _)) _) _) (l1 _ _ _ _ _ _ _ _ _ _ _ _ _ _ _ _ _ _ _ _ _ _ _ _ _ _ _ _ _ _ _ _ _ _ _ _ _ _ _ _ _ _ _ _ _ _ _ _ _ _ _ _ _ _ _ _ _ _ _ _ _ _ _ _ _ _ _ _ _ _ _ _ _ _ _ _ _ _ _ _ _ _ _ _ _ _ _ _ _ _ _ _ _ _ _ _ _ _ _ _ _ _ _ _ _ _ _ _ _ _ _ _ _ _ _ _ _ _ _ _ _ _ _ _ _ _ _ _ _ _ _ _ _ _ _ _ (by omega)) ?_
   rintro e t K' ⟨rfl, fv, rfl, f6, ⟨rfl, ho⟩ | ⟨rfl, ho⟩⟩
   ·rw [ho, Bool.true_and]
    have l2 := rgooL2 (H := H) (q := K.length) (vc := vc) pt ft (k := s.tb.length) (i := 0) (K := K') (w := w) (ats := ats)
    rw [show ((0 : Nat) : Int) = 0 from rfl, List.drop_zero] at l2
    simp -implicitDefEqProofs (maxSteps := 5000000) only [go_sem, Nat.reduceShiftRight, Nat.reduceAnd, Nat.reduceBNe, Int.reduceEq, Nat.reduceAdd, Nat.reduceSub, Nat.reduceMul, Nat.reduceLeDiff, reduceIte, reduceCtorEq, Nat.reduceBEq, Nat.reduceEqDiff, wrap64, runC_loop, runC_range, callF_fn, callV_fn, callV_yld, yield_eq, yieldBody, yieldRaw, roundMid, roundEnd, rangeEnd, Bool.not_not, put_cons, put_nil, trim_same, at_zero, at_add, set_zero, set_add, store_one, write_zero, write_add, write_head, write_succ, splice_one, splice_more, List.drop_nil, List.take_nil, cell_int, cell_bool, fillS, splice_one, idxA, Ex.isNormal, List.set_nil, List.length_set, List.all_cons, List.all_nil, Bool.and_self, and_self, true_and, and_true, List.getElem?_nil, Int.reduceLT, Int.reduceLE, Int.reduceToNat, Int.toNat_zero, Int.toNat_one, Int.reduceAdd, Int.reduceSub, Int.reduceMul, Int.reduceNeg, Int.reduceBEq, Int.reduceBNe, Int.reduceGE, Int.reduceGT, Nat.reduceLT, trim_keep, under_fn, under_ptr, under_sl, Nat.lt_irrefl, not_lt_add, trim_tail, keepOk, ABlk.vals, Int.cast_ofNat_Int, decide_true, decide_false, List.all_cons, List.all_nil, Nat.zero_mul, Nat.mul_one, Nat.one_mul, runC_loop, f6]
    unfold LP1 at l2
    generalize (envL prog).loop (runC (envL prog) (l11x2 (envL prog))) = LL2 at l2 ⊢
    refine outs_ctx (fun r => seqR (seqR (blockR 1 (seqR (blockR 6 r) _)) _) _) (l2 _ _ _ _ _ _ _ _ _ _ _ _ _ _ _ _ _ _ _ _ _ _ _ _ _ _ _ _ _ _ _ _ _ _ _ _ _ _ _ _ _ _ _ _ _ _ _ _ _ _ _ _ _ _ _ _ _ _ _ _ _ _ _ _ _ _ _ _ _ _ _ _ _ _ _ _ _ _ _ _ _ _ _ _ _ _ _ _ _ _ _ _ _ _ _ _ _ _ _ _ _ _ _ _ _ _ _ _ _ _ _ _ _ _ _ _ _ _ _ _ _ _ _ _ _ _ _ _ _ _ _ _ _ _ _ _ _ a1 fs1 cq hne (by omega) (by omega)) ?_
    rintro e t K2 ⟨rfl, a2, cq2, fw, rfl, fs2⟩
    obtain ⟨cl, R, gr, ec⟩ := Bt.allR (a2.bs bc) (by have := ft.lc; omega)
    obtain ⟨K3, hK3⟩ : ∃ K3, K3 = K2 ++ R := ⟨_, rfl⟩
    have A3 : Adds K2 K3 := ⟨_, hK3⟩
    have isc : IS K3 cl (Bt.allS s.ch) := by rw [hK3]; exact Bt.Grown.is gr
    rw [← hK3] at ec
    have a3 := a2.trans A3
    have l3 := rgooL3 (n := L.length) (i0 := i) wl (by omega) hlt isc (by have := Bt.allS_len s.ch; have := ft.lc; omega) (A3.cells cq2) (pt.adds a3) ft (k := (Bt.allS s.ch).length) (j := 0)
    rw [show ((0 : Nat) : Int) = 0 from rfl, List.drop_zero] at l3
    simp -implicitDefEqProofs (maxSteps := 5000000) only [go_sem, Nat.reduceShiftRight, Nat.reduceAnd, Nat.reduceBNe, Int.reduceEq, Nat.reduceAdd, Nat.reduceSub, Nat.reduceMul, Nat.reduceLeDiff, reduceIte, reduceCtorEq, Nat.reduceBEq, Nat.reduceEqDiff, wrap64, runC_loop, runC_range, callF_fn, callV_fn, callV_yld, yield_eq, yieldBody, yieldRaw, roundMid, roundEnd, rangeEnd, Bool.not_not, put_cons, put_nil, trim_same, at_zero, at_add, set_zero, set_add, store_one, write_zero, write_add, write_head, write_succ, splice_one, splice_more, List.drop_nil, List.take_nil, cell_int, cell_bool, fillS, splice_one, idxA, Ex.isNormal, List.set_nil, List.length_set, List.all_cons, List.all_nil, Bool.and_self, and_self, true_and, and_true, List.getElem?_nil, Int.reduceLT, Int.reduceLE, Int.reduceToNat, Int.toNat_zero, Int.toNat_one, Int.reduceAdd, Int.reduceSub, Int.reduceMul, Int.reduceNeg, Int.reduceBEq, Int.reduceBNe, Int.reduceGE, Int.reduceGT, Nat.reduceLT, trim_keep, under_fn, under_ptr, under_sl, Nat.lt_irrefl, not_lt_add, trim_tail, keepOk, ABlk.vals, Int.cast_ofNat_Int, decide_true, decide_false, List.all_cons, List.all_nil, Nat.zero_mul, Nat.mul_one, Nat.one_mul, runC_loop, cq2, ec]
    unfold LP1 at l3
    generalize (envL prog).loop (runC (envL prog) (l11x3 (envL prog))) = LL3 at l3 ⊢
    refine outs_ctx (fun r => seqR (seqR (blockR 1 (blockR 8 r)) _) _) (l3 _ _ _ _ _ _ _ _ _ _ _ _ _ _ _ _ _ _ _ _ _ _ _ _ _ _ _ _ _ _ _ _ _ _ _ _ _ _ _ _ _ _ _ _ _ _ _ _ _ _ _ _ _ _ _ _ _ _ _ _ _ _ _ _ _ _ _ _ _ _ _ _ _ _ _ _ _ _ _ _ _ _ _ _ _ _ _ _ _ _ _ _ _ _ _ _ _ _ _ _ _ _ _ _ _ _ _ _ _ _ _ _ _ _ _ _ _ _ _ _ _ _ _ _ _ _ _ _ _ _ _ _ _ _ (by omega)) ?_
    rintro e t K4 ⟨rfl, fx, rfl, f6', ⟨rfl, ho2⟩ | ⟨rfl, ho2⟩⟩
    ·rw [ho2, Bool.true_and]
     have key := ih (i + 1) K4 (fw 7) (ats ++ s.tb.map (·.2))
     rw [hpv] at key
     simp -implicitDefEqProofs (maxSteps := 5000000) only [go_sem, Nat.reduceShiftRight, Nat.reduceAnd, Nat.reduceBNe, Int.reduceEq, Nat.reduceAdd, Nat.reduceSub, Nat.reduceMul, Nat.reduceLeDiff, reduceIte, reduceCtorEq, Nat.reduceBEq, Nat.reduceEqDiff, wrap64, runC_loop, runC_range, callF_fn, callV_fn, callV_yld, yield_eq, yieldBody, yieldRaw, roundMid, roundEnd, rangeEnd, Bool.not_not, put_cons, put_nil, trim_same, at_zero, at_add, set_zero, set_add, store_one, write_zero, write_add, write_head, write_succ, splice_one, splice_more, List.drop_nil, List.take_nil, cell_int, cell_bool, fillS, splice_one, idxA, Ex.isNormal, List.set_nil, List.length_set, List.all_cons, List.all_nil, Bool.and_self, and_self, true_and, and_true, List.getElem?_nil, Int.reduceLT, Int.reduceLE, Int.reduceToNat, Int.toNat_zero, Int.toNat_one, Int.reduceAdd, Int.reduceSub, Int.reduceMul, Int.reduceNeg, Int.reduceBEq, Int.reduceBNe, Int.reduceGE, Int.reduceGT, Nat.reduceLT, trim_keep, under_fn, under_ptr, under_sl, Nat.lt_irrefl, not_lt_add, trim_tail, keepOk, ABlk.vals, Int.cast_ofNat_Int, decide_true, decide_false, List.all_cons, List.all_nil, Nat.zero_mul, Nat.mul_one, Nat.one_mul, f6', e2]
     exact key _ _ _ _ _ _ _ _ _ _ _ _ _ _ _ _ _ _ _ _ _ _ _ _ _ _ _ _ _ _ _ _ _ _ _ _ _ _ _ _ _ _ _ _ _ _ _ _ _ _ _ _ _ _ _ _ _ _ _ _ _ _ _ _ _ _ _ _ _ _ _ _ _ _ _ _ _ _ _ _ _ _ _ _ _ _ _ _ _ _ _ _ _ _ _ _ _ _ _ _ _ _ _ _ _ _ _ _ _ _ _ _ _ _ _ _ _ _ _ _ _ _ _ _ _ _ _ _ a3 (fs2.frT (Fr.adds A3 (fun _ => False)) fun _ _ h => h) (by rw [List.length_append, List.length_map]; have := ft.lt; omega) (by omega)
    ·rw [ho2, Bool.false_and]
     simp -implicitDefEqProofs (maxSteps := 5000000) only [go_sem, Nat.reduceShiftRight, Nat.reduceAnd, Nat.reduceBNe, Int.reduceEq, Nat.reduceAdd, Nat.reduceSub, Nat.reduceMul, Nat.reduceLeDiff, reduceIte, reduceCtorEq, Nat.reduceBEq, Nat.reduceEqDiff, wrap64, runC_loop, runC_range, callF_fn, callV_fn, callV_yld, yield_eq, yieldBody, yieldRaw, roundMid, roundEnd, rangeEnd, Bool.not_not, put_cons, put_nil, trim_same, at_zero, at_add, set_zero, set_add, store_one, write_zero, write_add, write_head, write_succ, splice_one, splice_more, List.drop_nil, List.take_nil, cell_int, cell_bool, fillS, splice_one, idxA, Ex.isNormal, List.set_nil, List.length_set, List.all_cons, List.all_nil, Bool.and_self, and_self, true_and, and_true, List.getElem?_nil, Int.reduceLT, Int.reduceLE, Int.reduceToNat, Int.toNat_zero, Int.toNat_one, Int.reduceAdd, Int.reduceSub, Int.reduceMul, Int.reduceNeg, Int.reduceBEq, Int.reduceBNe, Int.reduceGE, Int.reduceGT, Nat.reduceLT, trim_keep, under_fn, under_ptr, under_sl, Nat.lt_irrefl, not_lt_add, trim_tail, keepOk, ABlk.vals, Int.cast_ofNat_Int, decide_true, decide_false, List.all_cons, List.all_nil, Nat.zero_mul, Nat.mul_one, Nat.one_mul, seqR_ret, outs_normal]
     exact ⟨a3, exF2 rfl ⟨f6', .inr (by first | rfl | trivial)⟩⟩
   ·rw [ho, Bool.false_and]
    simp -implicitDefEqProofs (maxSteps := 5000000) only [go_sem, Nat.reduceShiftRight, Nat.reduceAnd, Nat.reduceBNe, Int.reduceEq, Nat.reduceAdd, Nat.reduceSub, Nat.reduceMul, Nat.reduceLeDiff, reduceIte, reduceCtorEq, Nat.reduceBEq, Nat.reduceEqDiff, wrap64, runC_loop, runC_range, callF_fn, callV_fn, callV_yld, yield_eq, yieldBody, yieldRaw, roundMid, roundEnd, rangeEnd, Bool.not_not, put_cons, put_nil, trim_same, at_zero, at_add, set_zero, set_add, store_one, write_zero, write_add, write_head, write_succ, splice_one, splice_more, List.drop_nil, List.take_nil, cell_int, cell_bool, fillS, splice_one, idxA, Ex.isNormal, List.set_nil, List.length_set, List.all_cons, List.all_nil, Bool.and_self, and_self, true_and, and_true, List.getElem?_nil, Int.reduceLT, Int.reduceLE, Int.reduceToNat, Int.toNat_zero, Int.toNat_one, Int.reduceAdd, Int.reduceSub, Int.reduceMul, Int.reduceNeg, Int.reduceBEq, Int.reduceBNe, Int.reduceGE, Int.reduceGT, Nat.reduceLT, trim_keep, under_fn, under_ptr, under_sl, Nat.lt_irrefl, not_lt_add, trim_tail, keepOk, ABlk.vals, Int.cast_ofNat_Int, decide_true, decide_false, List.all_cons, List.all_nil, Nat.zero_mul, Nat.mul_one, Nat.one_mul, seqR_ret, outs_normal]
    exact ⟨a1, exF2 rfl ⟨f6, .inr (by first | rfl | trivial)⟩⟩
theorem rcgoodC : (envL prog).call 11 [v, .int .i64 bl, .int .i64 ar] H = some (.bool (rgoodF bl ar L none []), H) := by
 have wl := g.len
 have d8 : decide ((L.length : Int) > 8) = false := decide_eq_false (by omega)
 have l0 := rgooL4 g ar fi h8 hbl (k := L.length) (i := 0) (K := H) (w := .nilSl) (ats := [])
 rw [show ((0 : Nat) : Int) = 0 from rfl, List.drop_zero, show pvAt L 0 = none from rfl] at l0
 have key : Outs (runC (envL prog) (b11 (envL prog)) ([v, .int .i64 bl, .int .i64 ar] ++ List.replicate (140 - [v, AV.int .i64 bl, .int .i64 ar].length) .undef) H) fun e' t K => Adds H K ∧ fin [.tmp 6] (some (e', t, K)) = some (.bool (rgoodF bl ar L none []), K) := by
  unfold b11
  generalize hQ : (fun (e' : Ex) (t : T) (K : AHeap) => Adds H K ∧ fin [.tmp 6] (some (e', t, K)) = some (AV.bool (rgoodF bl ar L none []), K)) = Q
  simp -implicitDefEqProofs (maxSteps := 5000000) only [go_sem, Nat.reduceShiftRight, Nat.reduceAnd, Nat.reduceBNe, Int.reduceEq, Nat.reduceAdd, Nat.reduceSub, Nat.reduceMul, Nat.reduceLeDiff, reduceIte, reduceCtorEq, Nat.reduceBEq, Nat.reduceEqDiff, wrap64, runC_loop, runC_range, callF_fn, callV_fn, callV_yld, yield_eq, yieldBody, yieldRaw, roundMid, roundEnd, rangeEnd, Bool.not_not, put_cons, put_nil, trim_same, at_zero, at_add, set_zero, set_add, store_one, write_zero, write_add, write_head, write_succ, splice_one, splice_more, List.drop_nil, List.take_nil, cell_int, cell_bool, fillS, splice_one, idxA, Ex.isNormal, List.set_nil, List.length_set, List.all_cons, List.all_nil, Bool.and_self, and_self, true_and, and_true, List.getElem?_nil, Int.reduceLT, Int.reduceLE, Int.reduceToNat, Int.toNat_zero, Int.toNat_one, Int.reduceAdd, Int.reduceSub, Int.reduceMul, Int.reduceNeg, Int.reduceBEq, Int.reduceBNe, Int.reduceGE, Int.reduceGT, Nat.reduceLT, trim_keep, under_fn, under_ptr, under_sl, Nat.lt_irrefl, not_lt_add, trim_tail, keepOk, ABlk.vals, Int.cast_ofNat_Int, decide_true, decide_false, List.all_cons, List.all_nil, Nat.zero_mul, Nat.mul_one, Nat.one_mul, runC_loop, wl, d8]
  unfold LP1 at l0
  generalize (envL prog).loop (runC (envL prog) (l11x4 (envL prog))) = L0 at l0 ⊢
  refine outs_ctx (fun r => seqR (blockR 0 r) _) (l0 _ _ _ _ _ _ _ _ _ _ _ _ _ _ _ _ _ _ _ _ _ _ _ _ _ _ _ _ _ _ _ _ _ _ _ _ _ _ _ _ _ _ _ _ _ _ _ _ _ _ _ _ _ _ _ _ _ _ _ _ _ _ _ _ _ _ _ _ _ _ _ _ _ _ _ _ _ _ _ _ _ _ _ _ _ _ _ _ _ _ _ _ _ _ _ _ _ _ _ _ _ _ _ _ _ _ _ _ _ _ _ _ _ _ _ _ _ _ _ _ _ _ _ _ _ _ _ _ _ _ _ _ _ _ (Adds.refl H) (.inl ⟨rfl, rfl⟩) (by simp) (by omega)) ?_
  rintro e t K ⟨aK, fv, rfl, f6, ⟨rfl, ho⟩ | ⟨rfl, ho⟩⟩
  ·simp -implicitDefEqProofs (maxSteps := 5000000) only [go_sem, Nat.reduceShiftRight, Nat.reduceAnd, Nat.reduceBNe, Int.reduceEq, Nat.reduceAdd, Nat.reduceSub, Nat.reduceMul, Nat.reduceLeDiff, reduceIte, reduceCtorEq, Nat.reduceBEq, Nat.reduceEqDiff, outs_normal]
   subst hQ
   rw [ho]
   refine ⟨aK, ?_⟩
   simp -implicitDefEqProofs (maxSteps := 5000000) only [go_sem, Nat.reduceShiftRight, Nat.reduceAnd, Nat.reduceBNe, Int.reduceEq, Nat.reduceAdd, Nat.reduceSub, Nat.reduceMul, Nat.reduceLeDiff, reduceIte, reduceCtorEq, Nat.reduceBEq, Nat.reduceEqDiff]
  ·simp -implicitDefEqProofs (maxSteps := 5000000) only [go_sem, Nat.reduceShiftRight, Nat.reduceAnd, Nat.reduceBNe, Int.reduceEq, Nat.reduceAdd, Nat.reduceSub, Nat.reduceMul, Nat.reduceLeDiff, reduceIte, reduceCtorEq, Nat.reduceBEq, Nat.reduceEqDiff, outs_normal]
   subst hQ
   rw [ho]
   refine ⟨aK, ?_⟩
   simp -implicitDefEqProofs (maxSteps := 5000000) only [go_sem, Nat.reduceShiftRight, Nat.reduceAnd, Nat.reduceBNe, Int.reduceEq, Nat.reduceAdd, Nat.reduceSub, Nat.reduceMul, Nat.reduceLeDiff, reduceIte, reduceCtorEq, Nat.reduceBEq, Nat.reduceEqDiff, f6]
 obtain ⟨e', t, K, hr, aK, hf⟩ := key
 rw [c11, hr, hf]
 exact aK.trimS rfl
end
end Go.Proofs.Ytfioahnogphnfaa.G12
end
section
namespace Go.Proofs.Ytfioahnogphnfaa.G12
open Go Go.Proofs.Ytfioahnogphnfaa.Eng
noncomputable def XD : Over := X3.up prog 12
theorem xd_ok : XD.Ok prog := up_ok goodP x3_ok _
theorem xd_call (f : Nat) (args : List AV) (h : AHeap) (ed : (f == 12) = false) (em : (f == 25) = false) (e0 : (f == 37) = false) (e1 : (f == 52) = false) (e2 : (f == 61) = false) : (envX prog XD).call f args h = (envL prog).call f args h := by
 unfold XD Over.up; rw [x_miss _ _ ed, x3_call _ _ _ em e0 e1 e2]
theorem xd_drop {args : List AV} {h : AHeap} {r : AV × AHeap} (e : callBody prog (envX prog X3) 12 args h = some r) : (envX prog XD).call 12 args h = some r := x_hit e
structure Fair (L : List SnS) : Prop where
 n : L.length ≤ 12
 u8 : ∀ s ∈ L, IsU8 s.ch
 lc : ∀ s ∈ L, s.ch.length ≤ 40
 lt : ∀ s ∈ L, s.tb.length ≤ 80
theorem Fair.fits {L : List SnS} (f : Fair L) : Fits L := ⟨by have := f.n; omega, fun s hs => ⟨f.u8 s hs, by have := f.lc s hs; omega, by have := f.lt s hs; omega⟩⟩
theorem tmerge_len (a : List PrS) : ∀ (b k : List PrS) (f : List Int), (tmerge a b k f).1.length ≤ k.length + b.length
 | [], k, f => by simp [tmerge]
 | p :: b, k, f => by
  rw [tmerge]
  split
  ·have := tmerge_len a b k (f ++ [p.2]); simp only [List.length_cons]; omega
  ·have := tmerge_len a b (tput k p.1 p.2) f
   have := tput_len k p.1 p.2
   simp only [List.length_cons]; omega
theorem join_fit {s u : SnS} (h1 : IsU8 s.ch) (h2 : IsU8 u.ch) (l1 : s.ch.length ≤ 40) (l2 : u.ch.length ≤ 40) (t1 : s.tb.length ≤ 80) (t2 : u.tb.length ≤ 80) : (joinS s u).Fit :=
 ⟨Bt.orS_u8 h1 h2, by show (Bt.orS s.ch u.ch).length ≤ 1000; rw [Bt.orS_len]; omega, by have := tmerge_len s.tb u.tb s.tb []; show (tmerge s.tb u.tb s.tb []).1.length ≤ 1000; omega⟩
theorem dropN_mem {L : List SnS} : ∀ {k : Nat} {x : SnS}, x ∈ dropN L k → x ∈ L ∨ ∃ s ∈ L, ∃ u ∈ L, x = joinS s u
 | 0, x, h => .inl (List.mem_of_mem_drop h)
 | k + 1, x, h => by
  simp only [dropN] at h
  split at h
  ·rename_i s u hs hu
   rcases List.mem_append.1 h with h | h
   ·exact .inl (List.mem_of_mem_take h)
   ·rcases List.mem_cons.1 h with h | h
    ·exact .inr ⟨s, List.mem_of_getElem? hs, u, List.mem_of_getElem? hu, h⟩
    ·exact .inl (List.mem_of_mem_drop h)
  ·exact .inl h
theorem dropN_len {L : List SnS} : ∀ k : Nat, (dropN L k).length ≤ L.length
 | 0 => by unfold dropN; rw [List.length_drop]; omega
 | k + 1 => by
  simp only [dropN]
  split
  ·rename_i s u hs hu
   have := (List.getElem?_eq_some_iff.1 hu).1
   rw [List.length_append, List.length_take, List.length_cons, List.length_drop]; omega
  ·exact Nat.le_refl _
theorem Fair.drop {L : List SnS} (f : Fair L) (i : Int) : Fits (dropS L i) := by
 unfold dropS
 split
 ·exact f.fits
 ·refine ⟨by have := dropN_len (L := L) i.toNat; have := f.n; omega, fun x hx => ?_⟩
  rcases dropN_mem hx with h | ⟨s, hs, u, hu, rfl⟩
  ·exact f.fits.2 x h
  ·exact join_fit (f.u8 s hs) (f.u8 u hu) (f.lc s hs) (f.lc u hu) (f.lt s hs) (f.lt u hu)
theorem Fair.cut {L : List SnS} (f : Fair L) (i : Int) : Fits (cutS L i) := by
 unfold cutS
 split
 ·exact f.fits
 ·split
  ·rename_i s hs
   refine ⟨by rw [List.length_append, List.length_take, List.length_singleton]; have := f.n; omega, fun x hx => ?_⟩
   rcases List.mem_append.1 hx with h | h
   ·exact f.fits.2 x (List.mem_of_mem_take h)
   ·rw [List.mem_singleton.1 h]
    exact ⟨Bt.rep_u8 _, by show (List.replicate s.ch.length (0 : Int)).length ≤ 1000; rw [List.length_replicate]; have := f.lc s (List.mem_of_getElem? hs); omega, by simp⟩
  ·exact f.fits
theorem tmod_nat {n m : Int} (h : 0 ≤ n) (hm : 0 < m) : 0 ≤ n.tmod m ∧ n.tmod m < m := by
 rw [Int.tmod_eq_emod_of_nonneg h]
 exact ⟨Int.emod_nonneg _ (by omega), Int.emod_lt_of_pos _ hm⟩
end Go.Proofs.Ytfioahnogphnfaa.G12
end
section
namespace Go.Proofs.Ytfioahnogphnfaa.G12
open Go Go.Proofs.Ytfioahnogphnfaa.Eng
structure OneC (bl ar : Int) (s : SnS) : Prop where
 u8 : IsU8 s.ch
 id : 1 ≤ s.id ∧ s.id ≤ 1000000
 ch : Bt.goodS s.ch bl = true
 tb : GoodL bl ar s.tb
 sub : ∀ p ∈ s.tb, Bt.hasS s.ch p.1 = true
def Full (s : SnS) : Prop := ∀ c, Bt.hasS s.ch c = true → 0 ≤ idxS s.tb c
def Apart (s u : SnS) : Prop := ∀ p ∈ s.tb, ∀ q ∈ u.tb, p.2 ≠ q.2
structure GoodC (bl ar : Int) (L : List SnS) : Prop where
 one : ∀ s ∈ L, OneC bl ar s
 up : (L.map (·.id)).Pairwise (· < ·)
 ap : L.Pairwise Apart
 full : ∀ s ∈ L.dropLast, Full s
theorem full_all {s : SnS} : (Bt.allS s.ch).all (fun c => decide (0 ≤ idxS s.tb c)) = true ↔ Full s := by
 rw [List.all_eq_true]
 constructor
 ·intro h c hc; exact of_decide_eq_true (h c (mem_allS.2 hc))
 ·intro h c hc; exact decide_eq_true (h c (mem_allS.1 hc))
theorem cgoodF_iff {bl ar : Int} : ∀ (L : List SnS) (pv : Option Int) (ats : List Int), (∀ s ∈ L, IsU8 s.ch) → (cgoodF bl ar L pv ats = true ↔ GoodC bl ar L ∧ (∀ q, pv = some q → ∀ s ∈ L, q < s.id) ∧ ∀ s ∈ L, ∀ p ∈ s.tb, p.2 ∉ ats)
 | [], pv, ats, _ => by
  constructor
  ·intro _; exact ⟨⟨fun s h => (by cases h), by simp, by simp, fun s h => (by cases h)⟩, fun q _ s h => (by cases h), fun s h => (by cases h)⟩
  ·intro _; rfl
 | s :: L, pv, ats, hu => by
  have ih := cgoodF_iff (bl := bl) (ar := ar) L (some s.id) (ats ++ s.tb.map (·.2)) fun s hs => hu s (by simp [hs])
  rw [← rgood_eq bl ar _ _ _ hu, rgoodF, rgood_eq bl ar L _ _ fun s hs => hu s (by simp [hs])]
  simp only [Bool.and_eq_true, decide_eq_true_eq, good_iff]
  rw [ih]
  have hpv : pvOk pv s.id = true ↔ ∀ q, pv = some q → q < s.id := by
   unfold pvOk
   cases pv with
   | none => simp
   | some q => simp
  have htb : s.tb.all (fun p => Bt.hasS s.ch p.1 && !ats.contains p.2) = true ↔ (∀ p ∈ s.tb, Bt.hasS s.ch p.1 = true) ∧ ∀ p ∈ s.tb, p.2 ∉ ats := by
   rw [List.all_eq_true]
   constructor
   ·intro h
    refine ⟨fun p hp => ?_, fun p hp => ?_⟩
    ·have := h p hp; rw [Bool.and_eq_true] at this; exact this.1
    ·have := h p hp; rw [Bool.and_eq_true, Bool.not_eq_true', ← Bool.not_eq_true, List.contains_iff_mem] at this; exact this.2
   ·rintro ⟨h1, h2⟩ p hp
    rw [Bool.and_eq_true, Bool.not_eq_true', ← Bool.not_eq_true, List.contains_iff_mem]
    exact ⟨h1 p hp, h2 p hp⟩
  rw [hpv, htb]
  have hfu : (L.isEmpty || (Bt.allS s.ch).all fun c => decide (0 ≤ idxS s.tb c)) = true ↔ (L ≠ [] → Full s) := by
   rw [Bool.or_eq_true, full_all, List.isEmpty_iff]
   constructor
   ·rintro (h | h) h'
    ·exact absurd h h'
    ·exact h
   ·intro h
    by_cases e : L = []
    ·exact .inl e
    ·exact .inr (h e)
  rw [hfu]
  constructor
  ·rintro ⟨h1, h2, h3, h4, h5, ⟨h6, h7⟩, h8, g, h9, h10⟩
   refine ⟨⟨fun x hx => ?_, ?_, ?_, fun x hx => ?_⟩, fun q hq x hx => ?_, fun x hx p hp => ?_⟩
   ·rcases List.mem_cons.1 hx with rfl | hx
    ·exact ⟨hu _ (by simp), ⟨h1, h2⟩, h4, h5, h6⟩
    ·exact g.one x hx
   ·rw [List.map_cons, List.pairwise_cons]
    exact ⟨fun a ha => by obtain ⟨u, hu, rfl⟩ := List.mem_map.1 ha; exact h9 _ rfl u hu, g.up⟩
   ·rw [List.pairwise_cons]
    exact ⟨fun u hu p hp q hq e => h10 u hu q hq (by rw [← e]; exact List.mem_append_right _ (List.mem_map.2 ⟨p, hp, rfl⟩)), g.ap⟩
   ·cases L with
    | nil => simp at hx
    | cons u L =>
     rw [List.dropLast_cons_of_ne_nil (by simp)] at hx
     rcases List.mem_cons.1 hx with rfl | hx
     ·exact h8 (by simp)
     ·exact g.full x hx
   ·rcases List.mem_cons.1 hx with rfl | hx
    ·exact h3 q hq
    ·have := h3 q hq; have := h9 _ rfl x hx; omega
   ·rcases List.mem_cons.1 hx with rfl | hx
    ·exact h7 p hp
    ·exact fun h => h10 x hx p hp (List.mem_append_left _ h)
  ·rintro ⟨g, h1, h2⟩
   have o := g.one s (by simp)
   have up := g.up
   rw [List.map_cons, List.pairwise_cons] at up
   have ap := g.ap
   rw [List.pairwise_cons] at ap
   refine ⟨o.id.1, o.id.2, fun q hq => h1 q hq s (by simp), o.ch, o.tb, ⟨o.sub, h2 s (by simp)⟩, fun hn => g.full s (by rw [List.dropLast_cons_of_ne_nil hn]; simp), ⟨fun x hx => g.one x (by simp [hx]), up.2, ap.2, fun x hx => ?_⟩, fun q hq x hx => ?_, fun x hx p hp h => ?_⟩
   ·cases L with
    | nil => simp at hx
    | cons u L => exact g.full x (by rw [List.dropLast_cons_of_ne_nil (by simp)]; simp [hx])
   ·injection hq with hq; subst hq
    exact up.1 _ (List.mem_map.2 ⟨x, hx, rfl⟩)
   ·rcases List.mem_append.1 h with h | h
    ·exact h2 x (by simp [hx]) p hp h
    ·obtain ⟨q, hq, e⟩ := List.mem_map.1 h
     exact ap.1 x hx q hq p hp e
theorem cgood_iff {bl ar : Int} {L : List SnS} (hu : ∀ s ∈ L, IsU8 s.ch) : cgood L bl ar = true ↔ L.length ≤ 8 ∧ GoodC bl ar L := by
 unfold cgood
 rw [Bool.and_eq_true, decide_eq_true_eq, cgoodF_iff L none [] hu]
 constructor
 ·rintro ⟨h, g, _⟩; exact ⟨h, g⟩
 ·rintro ⟨h, g⟩; exact ⟨h, g, fun q hq => (by cases hq), fun s _ p _ hm => (by cases hm)⟩
theorem goodS_iff {zs : List Int} {k : Int} : Bt.goodS zs k = true ↔ zs.length = Bt.newN k ∧ ∀ j : Nat, Bt.hasS zs j = true → (j : Int) < k := by
 unfold Bt.goodS
 rw [Bool.and_eq_true, decide_eq_true_eq, Bt.okF_iff]
 constructor
 ·rintro ⟨h1, h2⟩
  refine ⟨h1, fun j hj => ?_⟩
  by_cases hh : 8 * zs.length ≤ j
  ·rw [Bt.hasS_high hh] at hj; cases hj
  ·exact h2 j (by omega) (by omega) hj
 ·rintro ⟨h1, h2⟩; exact ⟨h1, fun j _ _ hj => h2 j hj⟩
theorem tm_mem {s u : SnS} {bl ar bl2 ar2 : Int} (g1 : GoodL bl ar s.tb) (g2 : GoodL bl2 ar2 u.tb) : asc (joinS s u).tb ∧ ∀ p, p ∈ (joinS s u).tb ↔ p ∈ s.tb ∨ (p ∈ u.tb ∧ ¬ ∃ q ∈ s.tb, q.1 = p.1) := by
 have := tmerge_mem (a := s.tb) u.tb s.tb [] g1.up g2.up (fun p hp => .inl hp) (fun p hp => hp)
 exact ⟨this.1, this.2.1⟩
theorem join_one {s u : SnS} {bl ar : Int} (h1 : OneC bl ar s) (h2 : OneC bl ar u) (ha : Apart s u) : OneC bl ar (joinS s u) := by
 obtain ⟨t1, t2⟩ := tm_mem h1.tb h2.tb
 have hor := Bt.has_or h1.u8 h2.u8
 obtain ⟨c1, c2⟩ := goodS_iff.1 h1.ch
 obtain ⟨d1, d2⟩ := goodS_iff.1 h2.ch
 refine ⟨Bt.orS_u8 h1.u8 h2.u8, h1.id, goodS_iff.2 ⟨?_, fun j hj => ?_⟩, ⟨fun p hp => ?_, t1, fun p hp q hq e => ?_⟩, fun p hp => ?_⟩
 ·show (Bt.orS s.ch u.ch).length = _
  rw [Bt.orS_len, c1, d1]; omega
 ·have hj : Bt.hasS (Bt.orS s.ch u.ch) j = true := hj
  rw [hor, Bool.or_eq_true] at hj
  exact hj.elim (c2 j) (d2 j)
 ·rcases (t2 p).1 hp with h | ⟨h, _⟩
  ·exact h1.tb.rng p h
  ·exact h2.tb.rng p h
 ·rcases (t2 p).1 hp with hp | ⟨hp, _⟩ <;> rcases (t2 q).1 hq with hq | ⟨hq, _⟩
  ·exact h1.tb.inj p hp q hq e
  ·exact absurd e (ha p hp q hq)
  ·exact absurd e.symm (ha q hq p hp)
  ·exact h2.tb.inj p hp q hq e
 ·show Bt.hasS (Bt.orS s.ch u.ch) p.1 = true
  rw [hor, Bool.or_eq_true]
  rcases (t2 p).1 hp with hp | ⟨hp, _⟩
  ·exact .inl (h1.sub p hp)
  ·exact .inr (h2.sub p hp)
theorem join_has {s u : SnS} {bl ar : Int} (h1 : OneC bl ar s) (h2 : OneC bl ar u) (c : Int) : 0 ≤ idxS (joinS s u).tb c ↔ 0 ≤ idxS s.tb c ∨ 0 ≤ idxS u.tb c := by
 obtain ⟨t1, t2⟩ := tm_mem h1.tb h2.tb
 rw [idx_has, idx_has, idx_has]
 constructor
 ·rintro ⟨p, hp, e⟩
  rcases (t2 p).1 hp with h | ⟨h, _⟩
  ·exact .inl ⟨p, h, e⟩
  ·exact .inr ⟨p, h, e⟩
 ·rintro (⟨p, hp, e⟩ | ⟨p, hp, e⟩)
  ·exact ⟨p, (t2 p).2 (.inl hp), e⟩
  ·by_cases h : ∃ q ∈ s.tb, q.1 = p.1
   ·obtain ⟨q, hq, e2⟩ := h
    exact ⟨q, (t2 q).2 (.inl hq), by rw [e2, e]⟩
   ·exact ⟨p, (t2 p).2 (.inr ⟨hp, h⟩), e⟩
theorem join_full {s u : SnS} {bl ar : Int} (h1 : OneC bl ar s) (h2 : OneC bl ar u) (f1 : Full s) (f2 : Full u) : Full (joinS s u) := fun c hc => by
 have hc : Bt.hasS (Bt.orS s.ch u.ch) c = true := hc
 rw [Bt.has_or h1.u8 h2.u8, Bool.or_eq_true] at hc
 rw [join_has h1 h2]
 exact hc.imp (f1 c) (f2 c)
theorem drop_split {L : List SnS} {n : Nat} (h : n + 1 < L.length) : ∃ A s u B, L = A ++ s :: u :: B ∧ A.length = n ∧ dropN L (n + 1) = A ++ joinS s u :: B := by
 have hn : n < L.length := by omega
 refine ⟨L.take n, L[n], L[n + 1], L.drop (n + 2), ?_, by rw [List.length_take]; omega, ?_⟩
 ·rw [← List.drop_eq_getElem_cons h, ← List.drop_eq_getElem_cons hn, List.take_append_drop]
 ·simp only [dropN]
  rw [List.getElem?_eq_getElem hn, List.getElem?_eq_getElem h]
theorem dl_app {A B : List SnS} (h : B ≠ []) : (A ++ B).dropLast = A ++ B.dropLast := List.dropLast_append_of_ne_nil h
theorem good_tail {bl ar : Int} {s : SnS} {L : List SnS} (g : GoodC bl ar (s :: L)) : GoodC bl ar L := by
 have up := g.up
 rw [List.map_cons, List.pairwise_cons] at up
 have ap := g.ap
 rw [List.pairwise_cons] at ap
 refine ⟨fun x hx => g.one x (by simp [hx]), up.2, ap.2, fun x hx => ?_⟩
 cases L with
 | nil => simp at hx
 | cons u L => exact g.full x (by rw [List.dropLast_cons_of_ne_nil (by simp)]; simp [hx])
theorem good_join {bl ar : Int} {A B : List SnS} {s u : SnS} (g : GoodC bl ar (A ++ s :: u :: B)) : GoodC bl ar (A ++ joinS s u :: B) := by
 have os := g.one s (by simp)
 have ou := g.one u (by simp)
 have up := g.up
 rw [List.map_append, List.map_cons, List.map_cons, List.pairwise_append, List.pairwise_cons, List.pairwise_cons] at up
 obtain ⟨u1, ⟨u2, u3, u4⟩, u5⟩ := up
 have ap := g.ap
 rw [List.pairwise_append, List.pairwise_cons, List.pairwise_cons] at ap
 obtain ⟨a1, ⟨a2, a3, a4⟩, a5⟩ := ap
 obtain ⟨t1, t2⟩ := tm_mem os.tb ou.tb
 have asu := a2 u (by simp)
 refine ⟨fun x hx => ?_, ?_, ?_, ?_⟩
 ·rcases List.mem_append.1 hx with h | h
  ·exact g.one x (by simp [h])
  ·rcases List.mem_cons.1 h with rfl | h
   ·exact join_one os ou asu
   ·exact g.one x (by simp [h])
 ·rw [List.map_append, List.map_cons, List.pairwise_append, List.pairwise_cons]
  refine ⟨u1, ⟨fun a ha => u2 a (by simp [ha]), u4⟩, fun a ha b hb => u5 a ha b ?_⟩
  rcases List.mem_cons.1 hb with rfl | hb
  ·simp [joinS]
  ·simp [hb]
 ·rw [List.pairwise_append, List.pairwise_cons]
  refine ⟨a1, ⟨fun x hx p hp q hq => ?_, a4⟩, fun x hx y hy => ?_⟩
  ·rcases (t2 p).1 hp with h | ⟨h, _⟩
   ·exact a2 x (by simp [hx]) p h q hq
   ·exact a3 x hx p h q hq
  ·rcases List.mem_cons.1 hy with rfl | hy
   ·intro p hp q hq
    rcases (t2 q).1 hq with h | ⟨h, _⟩
    ·exact a5 x hx s (by simp) p hp q h
    ·exact a5 x hx u (by simp) p hp q h
   ·exact a5 x hx y (by simp [hy])
 ·have fu := g.full
  rw [dl_app (by simp), List.dropLast_cons_of_ne_nil (by simp)] at fu
  rw [dl_app (by simp)]
  intro x hx
  rcases List.mem_append.1 hx with h | h
  ·exact fu x (by simp [h])
  ·cases B with
   | nil => simp at h
   | cons y B =>
    rw [List.dropLast_cons_of_ne_nil (by simp)] at h fu
    rcases List.mem_cons.1 h with rfl | h
    ·exact join_full os ou (fu s (by simp)) (fu u (by simp))
    ·exact fu x (by simp [h])
theorem good_drop {bl ar : Int} {L : List SnS} (g : GoodC bl ar L) {i : Nat} (hi : i < L.length) : GoodC bl ar (dropN L i) ∧ (dropN L i).length = L.length - 1 := by
 cases i with
 | zero =>
  cases L with
  | nil => simp at hi
  | cons s L => exact ⟨good_tail g, by unfold dropN; simp⟩
 | succ n =>
  obtain ⟨A, s, u, B, rfl, hA, e⟩ := drop_split hi
  rw [e]
  exact ⟨good_join g, by simp⟩
theorem asc_short {l : List PrS} {n : Nat} (h : asc l) (hr : ∀ p ∈ l, 0 ≤ p.1 ∧ p.1 < n) : l.length ≤ n := by
 have q := sub_len (B := (List.range n).map Int.ofNat) (A := l.map fun p : PrS => p.1) h (List.pairwise_map.2 (List.pairwise_lt_range.imp fun h => Int.ofNat_lt.2 h)) (fun x hx => by
  obtain ⟨p, hp, rfl⟩ := List.mem_map.1 hx
  have := hr p hp
  exact List.mem_map.2 ⟨p.1.toNat, List.mem_range.2 (by omega), Int.toNat_of_nonneg this.1⟩)
 simpa using q.1
theorem GoodC.fair {L : List SnS} (g : GoodC 10 200 L) (h : L.length ≤ 8) : Fair L := by
 refine ⟨by omega, fun s hs => (g.one s hs).u8, fun s hs => ?_, fun s hs => ?_⟩
 ·have := (goodS_iff.1 (g.one s hs).ch).1
  rw [this]; decide
 ·have := asc_short (n := 10) (g.one s hs).tb.up fun p hp => ((g.one s hs).tb.rng p hp).1
  omega
end Go.Proofs.Ytfioahnogphnfaa.G12
end
section
namespace Go.Proofs.Ytfioahnogphnfaa.G12
open Go Go.Proofs.Ytfioahnogphnfaa.Eng
def ren189 : Go.Shelf.Ren := ⟨fun n => if n = 125 then 30 else if n = 128 then 49 else if n = 129 then 50 else if n = 189 then 15 else if n = 215 then 60 else if n = 216 then 46 else if n = 257 then 29 else if n = 294 then 40 else if n = 295 then 41 else if n = 296 then 42 else if n = 297 then 43 else if n = 298 then 44 else if n = 299 then 45 else if n = 300 then 47 else if n = 301 then 48 else if n = 328 then 55 else if n = 329 then 56 else if n = 330 then 57 else if n = 331 then 58 else if n = 332 then 59 else if n = 343 then 63 else 0, fun n => if n = 0 then 0 else if n = 3 then 3 else if n = 4 then 4 else if n = 5 then 5 else if n = 9 then 9 else if n = 28 then 22 else if n = 46 then 71 else if n = 51 then 89 else if n = 53 then 91 else if n = 131 then 44 else if n = 182 then 81 else if n = 183 then 82 else if n = 218 then 95 else if n = 222 then 99 else if n = 228 then 103 else if n = 229 then 104 else 0, fun _ => 0⟩
set_option maxRecDepth 100000 in
theorem lays189 : Go.Proofs.Lays.n189 prog ren189 where
 mixed := by kernel_rfl
 f125 := Go.Proofs.Try.func30.trans (congrArg some (by kernel_rfl))
 f128 := Go.Proofs.Try.func49.trans (congrArg some (by kernel_rfl))
 f129 := Go.Proofs.Try.func50.trans (congrArg some (by kernel_rfl))
 f189 := Go.Proofs.Try.func15.trans (congrArg some (by kernel_rfl))
 f215 := Go.Proofs.Try.func60.trans (congrArg some (by kernel_rfl))
 f216 := Go.Proofs.Try.func46.trans (congrArg some (by kernel_rfl))
 f257 := Go.Proofs.Try.func29.trans (congrArg some (by kernel_rfl))
 f294 := Go.Proofs.Try.func40.trans (congrArg some (by kernel_rfl))
 f295 := Go.Proofs.Try.func41.trans (congrArg some (by kernel_rfl))
 f296 := Go.Proofs.Try.func42.trans (congrArg some (by kernel_rfl))
 f297 := Go.Proofs.Try.func43.trans (congrArg some (by kernel_rfl))
 f298 := Go.Proofs.Try.func44.trans (congrArg some (by kernel_rfl))
 f299 := Go.Proofs.Try.func45.trans (congrArg some (by kernel_rfl))
 f300 := Go.Proofs.Try.func47.trans (congrArg some (by kernel_rfl))
 f301 := Go.Proofs.Try.func48.trans (congrArg some (by kernel_rfl))
 f328 := Go.Proofs.Try.func55.trans (congrArg some (by kernel_rfl))
 f329 := Go.Proofs.Try.func56.trans (congrArg some (by kernel_rfl))
 f330 := Go.Proofs.Try.func57.trans (congrArg some (by kernel_rfl))
 f331 := Go.Proofs.Try.func58.trans (congrArg some (by kernel_rfl))
 f332 := Go.Proofs.Try.func59.trans (congrArg some (by kernel_rfl))
 f343 := Go.Proofs.Try.func63.trans (congrArg some (by kernel_rfl))
 t0 := Go.Proofs.Try.underlying0
 a0 := Go.Proofs.Try.isAgg0
 z0 := Go.Proofs.Try.sizeOf0
 v0 := Go.Proofs.Try.zeroValue0
 t3 := Go.Proofs.Try.underlying3
 a3 := Go.Proofs.Try.isAgg3
 z3 := Go.Proofs.Try.sizeOf3
 v3 := Go.Proofs.Try.zeroValue3
 t4 := Go.Proofs.Try.underlying4
 a4 := Go.Proofs.Try.isAgg4
 z4 := Go.Proofs.Try.sizeOf4
 v4 := Go.Proofs.Try.zeroValue4
 t5 := Go.Proofs.Try.underlying5
 a5 := Go.Proofs.Try.isAgg5
 z5 := Go.Proofs.Try.sizeOf5
 v5 := Go.Proofs.Try.zeroValue5
 t9 := Go.Proofs.Try.underlying9
 a9 := Go.Proofs.Try.isAgg9
 z9 := Go.Proofs.Try.sizeOf9
 v9 := Go.Proofs.Try.zeroValue9
 t28 := Go.Proofs.Try.underlying22
 a28 := Go.Proofs.Try.isAgg22
 z28 := Go.Proofs.Try.sizeOf22
 v28 := Go.Proofs.Try.zeroValue22
 t46 := Go.Proofs.Try.underlying71
 a46 := Go.Proofs.Try.isAgg71
 z46 := Go.Proofs.Try.sizeOf71
 v46 := Go.Proofs.Try.zeroValue71
 t51 := Go.Proofs.Try.underlying89
 a51 := Go.Proofs.Try.isAgg89
 z51 := Go.Proofs.Try.sizeOf89
 v51 := Go.Proofs.Try.zeroValue89
 t53 := Go.Proofs.Try.underlying91
 a53 := Go.Proofs.Try.isAgg91
 z53 := Go.Proofs.Try.sizeOf91
 v53 := Go.Proofs.Try.zeroValue91
 t131 := Go.Proofs.Try.underlying44
 a131 := Go.Proofs.Try.isAgg44
 z131 := Go.Proofs.Try.sizeOf44
 v131 := Go.Proofs.Try.zeroValue44
 t182 := Go.Proofs.Try.underlying81
 a182 := Go.Proofs.Try.isAgg81
 z182 := Go.Proofs.Try.sizeOf81
 v182 := Go.Proofs.Try.zeroValue81
 t183 := Go.Proofs.Try.underlying82
 a183 := Go.Proofs.Try.isAgg82
 z183 := Go.Proofs.Try.sizeOf82
 v183 := Go.Proofs.Try.zeroValue82
 t218 := Go.Proofs.Try.underlying95
 a218 := Go.Proofs.Try.isAgg95
 z218 := Go.Proofs.Try.sizeOf95
 v218 := Go.Proofs.Try.zeroValue95
 t222 := Go.Proofs.Try.underlying99
 a222 := Go.Proofs.Try.isAgg99
 z222 := Go.Proofs.Try.sizeOf99
 v222 := Go.Proofs.Try.zeroValue99
 t228 := Go.Proofs.Try.underlying103
 a228 := Go.Proofs.Try.isAgg103
 z228 := Go.Proofs.Try.sizeOf103
 v228 := Go.Proofs.Try.zeroValue103
 t229 := Go.Proofs.Try.underlying104
 a229 := Go.Proofs.Try.isAgg104
 z229 := Go.Proofs.Try.sizeOf104
 v229 := Go.Proofs.Try.zeroValue104
theorem sortOk : ∀ args h v h', sortR args h = some (v, h') → Told1 prog 15 args h v h' :=
 sort_told ⟨_, Go.Proofs.Try.func15, by kernel_rfl⟩ (fun blk off cap zs w h1 h2 h3 => Go.Proofs.Any.slices_Sort_int lays189 blk off cap zs w h1 h2 h3) (fun p cap w => Go.Proofs.Any.slices_Sort_int_none lays189 p cap w)
noncomputable def XS : Over := XD.with 15 sortR
theorem xs_ok : XS.Ok prog := with_ok xd_ok sortOk
theorem xs_call (f : Nat) (args : List AV) (h : AHeap) (es : (f == 15) = false) (ed : (f == 12) = false) (em : (f == 25) = false) (e0 : (f == 37) = false) (e1 : (f == 52) = false) (e2 : (f == 61) = false) : (envX prog XS).call f args h = (envL prog).call f args h := by
 unfold XS; rw [x_miss _ _ es, xd_call _ _ _ ed em e0 e1 e2]
theorem xs_drop {args : List AV} {h : AHeap} {r : AV × AHeap} (e : callBody prog (envX prog X3) 12 args h = some r) : (envX prog XS).call 12 args h = some r := by
 unfold XS; rw [x_miss _ _ (by decide)]; exact xd_drop e
theorem map_take_flat (zs : List Int) : (zs.map fun z => [AV.int .i64 z]).flatten = zs.map fun z => AV.int .i64 z := by
 induction zs with
 | nil => rfl
 | cons z zs ih => rw [List.map_cons, List.flatten_cons, ih]; rfl
theorem xs_sort {K : AHeap} {B : Nat} {v : AV} {zs : List Int} (g : FS K B v zs) (hn : zs.length ≤ 1000000) : ∃ K', (envX prog XS).call 15 [v] K = some (.tup [], K') ∧ FS K' B v (srt zs) ∧ Fr K K' (fun b => slb v = some b) ∧ K'.length = K.length := by
 rcases g with ⟨h, rfl⟩ | ⟨h, b, hb, rfl, hK⟩
 ·obtain rfl := List.map_eq_nil_iff.1 h
  exact ⟨K, x_hit rfl, .inl ⟨by rw [show srt [] = [] from List.mergeSort_nil]; rfl, rfl⟩, ⟨Nat.le_refl _, fun _ _ _ => rfl⟩, rfl⟩
 ·have hl : (zs.map fun z => [AV.int .i64 z]).length = zs.length := List.length_map _
  have hz : zs.length ≠ 0 := fun e => h (by rw [List.map_eq_nil_iff]; exact List.length_eq_zero_iff.1 e)
  rw [map_take_flat] at hK
  rw [hl]
  have e : sortR [.sl b 0 1 zs.length zs.length false] K = some (.tup [], K.set b (.rw ((srt zs).map fun z => AV.int .i64 z))) := by
   unfold sortR
   simp only
   rw [if_neg hz, hK]
   simp only
   rw [if_pos ⟨by rw [List.length_map]; omega, by omega⟩, List.drop_zero, List.take_of_length_le (by rw [List.length_map]; exact Nat.le_refl _), intsOf_of]
   simp only [List.take_zero, List.nil_append, Nat.zero_add]
   rw [List.drop_eq_nil_of_le (by rw [List.length_map]; exact Nat.le_refl _), List.append_nil]
  refine ⟨_, x_hit e, .inr ⟨fun q => ?_, b, hb, by rw [List.length_map, srt_len], ?_⟩, Fr.set _ _ (F := fun x => slb (AV.sl b 0 1 zs.length zs.length false) = some x) rfl, by rw [List.length_set]⟩
  ·rw [List.map_eq_nil_iff] at q
   have := srt_len zs
   rw [q] at this; simp at this; omega
  ·rw [map_take_flat, at_set _ _ _ (lt_of_at hK)]
theorem lessC (x y : Int) (H : AHeap) : (envL prog).call 46 [.int .i64 x, .int .i64 y] H = some (.bool (decide (x < y)), H) := by
 have nn : ∀ z : Int, (z != z) = false := fun z => by simp
 rw [c46]
 unfold b46
 simp -implicitDefEqProofs (maxSteps := 5000000) only [go_sem, Nat.reduceShiftRight, Nat.reduceAnd, Nat.reduceBNe, Int.reduceEq, Nat.reduceAdd, Nat.reduceSub, Nat.reduceMul, Nat.reduceLeDiff, reduceIte, reduceCtorEq, Nat.reduceBEq, Nat.reduceEqDiff, wrap64, runC_loop, runC_range, callF_fn, callV_fn, callV_yld, yield_eq, yieldBody, yieldRaw, roundMid, roundEnd, rangeEnd, Bool.not_not, put_cons, put_nil, trim_same, at_zero, at_add, set_zero, set_add, store_one, write_zero, write_add, write_head, write_succ, splice_one, splice_more, List.drop_nil, List.take_nil, cell_int, cell_bool, fillS, splice_one, idxA, Ex.isNormal, List.set_nil, List.length_set, List.all_cons, List.all_nil, Bool.and_self, and_self, true_and, and_true, List.getElem?_nil, Int.reduceLT, Int.reduceLE, Int.reduceToNat, Int.toNat_zero, Int.toNat_one, Int.reduceAdd, Int.reduceSub, Int.reduceMul, Int.reduceNeg, Int.reduceBEq, Int.reduceBNe, Int.reduceGE, Int.reduceGT, Nat.reduceLT, trim_keep, under_fn, under_ptr, under_sl, Nat.lt_irrefl, not_lt_add, trim_tail, keepOk, ABlk.vals, Int.cast_ofNat_Int, decide_true, decide_false, List.all_cons, List.all_nil, Nat.zero_mul, Nat.mul_one, Nat.one_mul, c60, b60, nn]
theorem nanC (x : Int) (H : AHeap) : (envL prog).call 51 [.int .i64 x] H = some (.bool false, H) := by
 have nn : (x != x) = false := by simp
 rw [c51]
 unfold b51
 simp -implicitDefEqProofs (maxSteps := 5000000) only [go_sem, Nat.reduceShiftRight, Nat.reduceAnd, Nat.reduceBNe, Int.reduceEq, Nat.reduceAdd, Nat.reduceSub, Nat.reduceMul, Nat.reduceLeDiff, reduceIte, reduceCtorEq, Nat.reduceBEq, Nat.reduceEqDiff, wrap64, runC_loop, runC_range, callF_fn, callV_fn, callV_yld, yield_eq, yieldBody, yieldRaw, roundMid, roundEnd, rangeEnd, Bool.not_not, put_cons, put_nil, trim_same, at_zero, at_add, set_zero, set_add, store_one, write_zero, write_add, write_head, write_succ, splice_one, splice_more, List.drop_nil, List.take_nil, cell_int, cell_bool, fillS, splice_one, idxA, Ex.isNormal, List.set_nil, List.length_set, List.all_cons, List.all_nil, Bool.and_self, and_self, true_and, and_true, List.getElem?_nil, Int.reduceLT, Int.reduceLE, Int.reduceToNat, Int.toNat_zero, Int.toNat_one, Int.reduceAdd, Int.reduceSub, Int.reduceMul, Int.reduceNeg, Int.reduceBEq, Int.reduceBNe, Int.reduceGE, Int.reduceGT, Nat.reduceLT, trim_keep, under_fn, under_ptr, under_sl, Nat.lt_irrefl, not_lt_add, trim_tail, keepOk, ABlk.vals, Int.cast_ofNat_Int, decide_true, decide_false, List.all_cons, List.all_nil, Nat.zero_mul, Nat.mul_one, Nat.one_mul, nn]
theorem shr1 (a : Int) : binV .shr .none (.int .u64 a) (.int .u64 1) = some (.int .u64 (a.fdiv 2)) := rfl
section
variable {H : AHeap} {v : AV} {u : List Int} (g : IS H v u) (up : u.Pairwise (· < ·)) (hn : u.length ≤ 1000000) (x : Int)
include g up hn
set_option maxHeartbeats 4000000 in
theorem bsL (x2 x3 x4 x5 x6 x10 x11 x12 x31 x32 x33 x34 x35 x36 x37 x38 x39 x40 x41 x42 x43 x44 x45 x46 x47 x48 x49 x50 x51 x52 x53 : AV) : ∀ (k i j : Nat) (j9 j13 j14 j15 j16 j17 j18 j19 j20 j21 j22 j23 j24 j25 j26 j27 j28 j29 j30 : AV), j - i ≤ k → i ≤ j → j ≤ u.length → (∀ y ∈ u.take i, y < x) → (∀ y ∈ u.drop j, x ≤ y) →
  Outs (LP1 l32x0 [v, .int .i64 x, x2, x3, x4, x5, x6, .int .i64 (i : Int), .int .i64 (j : Int), j9, x10, x11, x12, j13, j14, j15, j16, j17, j18, j19, j20, j21, j22, j23, j24, j25, j26, j27, j28, j29, j30, x31, x32, x33, x34, x35, x36, x37, x38, x39, x40, x41, x42, x43, x44, x45, x46, x47, x48, x49, x50, x51, x52, x53] H) fun e t K => e = .exit 0 ∧ K = H ∧ ∃ fv : Nat → AV, t = [v, .int .i64 x, x2, x3, x4, x5, x6, (fv 7), (fv 8), (fv 9), x10, x11, x12, (fv 13), (fv 14), (fv 15), (fv 16), (fv 17), (fv 18), (fv 19), (fv 20), (fv 21), (fv 22), (fv 23), (fv 24), (fv 25), (fv 26), (fv 27), (fv 28), (fv 29), (fv 30), x31, x32, x33, x34, x35, x36, x37, x38, x39, x40, x41, x42, x43, x44, x45, x46, x47, x48, x49, x50, x51, x52, x53] ∧ ∃ q : Nat, fv 7 = .int .i64 (q : Int) ∧ q ≤ u.length ∧ (∀ y ∈ u.take q, y < x) ∧ ∀ y ∈ u.drop q, x ≤ y := by
 intro k
 obtain ⟨L0, hL0⟩ : ∃ L, L = LP1 l32x0 := ⟨_, rfl⟩
 have lo := loop_open hL0
 rw [← hL0]
 induction k with
 | zero =>
  intro i j j9 j13 j14 j15 j16 j17 j18 j19 j20 j21 j22 j23 j24 j25 j26 j27 j28 j29 j30 hk hij hj h1 h2
  obtain rfl : i = j := by omega
  have hd : decide ((i : Int) < (i : Int)) = false := by simp
  rw [lo]
  unfold l32x0
  simp -implicitDefEqProofs (maxSteps := 5000000) only [go_sem, Nat.reduceShiftRight, Nat.reduceAnd, Nat.reduceBNe, Int.reduceEq, Nat.reduceAdd, Nat.reduceSub, Nat.reduceMul, Nat.reduceLeDiff, reduceIte, reduceCtorEq, Nat.reduceBEq, Nat.reduceEqDiff, hd, seqR_exit', outs_normal]
  exact exF2 rfl ⟨i, rfl, hj, h1, h2⟩
 | succ k ih =>
  intro i j j9 j13 j14 j15 j16 j17 j18 j19 j20 j21 j22 j23 j24 j25 j26 j27 j28 j29 j30 hk hij hj h1 h2
  by_cases hlt : i < j
  ·have hd : decide ((i : Int) < (j : Int)) = true := decide_eq_true (by omega)
   obtain ⟨m, hm⟩ : ∃ m, m = (i + j) / 2 := ⟨_, rfl⟩
   have s1 : IntKind.i64.wrap ((i : Int) + (j : Int)) = (i : Int) + (j : Int) := wrap64 (by omega) (by omega)
   have s2 : IntKind.u64.wrap ((i : Int) + (j : Int)) = (i : Int) + (j : Int) := wrapu64_id (by omega) (by omega)
   have s3 : ((i : Int) + (j : Int)).fdiv 2 = (m : Int) := by rw [Int.fdiv_eq_ediv_of_nonneg _ (by omega)]; omega
   have s4 : IntKind.i64.wrap (m : Int) = (m : Int) := wrap64 (by omega) (by omega)
   have s5 : IntKind.i64.wrap ((m : Int) + 1) = ((m + 1 : Nat) : Int) := by rw [wrap64 (by omega) (by omega)]; omega
   have ml : m < u.length := by omega
   have hx := List.getElem?_eq_getElem ml
   have ev : u = u.take m ++ u[m] :: u.drop (m + 1) := by rw [← List.drop_eq_getElem_cons ml, List.take_append_drop]
   have up2 := up
   rw [ev] at up2
   obtain ⟨p1, p2, p3⟩ := List.pairwise_append.1 up2
   obtain ⟨p4, p5⟩ := List.pairwise_cons.1 p2
   have tk : u.take (m + 1) = u.take m ++ [u[m]] := by rw [List.take_add_one, hx]; rfl
   have dr : u.drop m = u[m] :: u.drop (m + 1) := List.drop_eq_getElem_cons ml
   generalize u[m] = y at *
   obtain ⟨a, ix, ld⟩ := g.idx hx .i64
   have el := lessC y x H
   rw [lo]
   unfold l32x0
   by_cases h : y < x
   ·rw [decide_eq_true h] at el
    simp -implicitDefEqProofs (maxSteps := 5000000) only [go_sem, Nat.reduceShiftRight, Nat.reduceAnd, Nat.reduceBNe, Int.reduceEq, Nat.reduceAdd, Nat.reduceSub, Nat.reduceMul, Nat.reduceLeDiff, reduceIte, reduceCtorEq, Nat.reduceBEq, Nat.reduceEqDiff, wrap64, runC_loop, runC_range, callF_fn, callV_fn, callV_yld, yield_eq, yieldBody, yieldRaw, roundMid, roundEnd, rangeEnd, Bool.not_not, put_cons, put_nil, trim_same, at_zero, at_add, set_zero, set_add, store_one, write_zero, write_add, write_head, write_succ, splice_one, splice_more, List.drop_nil, List.take_nil, cell_int, cell_bool, fillS, splice_one, idxA, Ex.isNormal, List.set_nil, List.length_set, List.all_cons, List.all_nil, Bool.and_self, and_self, true_and, and_true, List.getElem?_nil, Int.reduceLT, Int.reduceLE, Int.reduceToNat, Int.toNat_zero, Int.toNat_one, Int.reduceAdd, Int.reduceSub, Int.reduceMul, Int.reduceNeg, Int.reduceBEq, Int.reduceBNe, Int.reduceGE, Int.reduceGT, Nat.reduceLT, trim_keep, under_fn, under_ptr, under_sl, Nat.lt_irrefl, not_lt_add, trim_tail, keepOk, ABlk.vals, Int.cast_ofNat_Int, decide_true, decide_false, List.all_cons, List.all_nil, Nat.zero_mul, Nat.mul_one, Nat.one_mul, hd, s1, s2, shr1, s3, s4, ix, ld, el, s5]
    refine ih (m + 1) j _ _ _ _ _ _ _ _ _ _ _ _ _ _ _ _ _ _ _ (by omega) (by omega) hj (fun z hz => ?_) h2
    rw [tk] at hz
    rcases List.mem_append.1 hz with q | q
    ·have := p3 z q y (by simp); omega
    ·rw [List.mem_singleton.1 q]; exact h
   ·rw [decide_eq_false h] at el
    simp -implicitDefEqProofs (maxSteps := 5000000) only [go_sem, Nat.reduceShiftRight, Nat.reduceAnd, Nat.reduceBNe, Int.reduceEq, Nat.reduceAdd, Nat.reduceSub, Nat.reduceMul, Nat.reduceLeDiff, reduceIte, reduceCtorEq, Nat.reduceBEq, Nat.reduceEqDiff, wrap64, runC_loop, runC_range, callF_fn, callV_fn, callV_yld, yield_eq, yieldBody, yieldRaw, roundMid, roundEnd, rangeEnd, Bool.not_not, put_cons, put_nil, trim_same, at_zero, at_add, set_zero, set_add, store_one, write_zero, write_add, write_head, write_succ, splice_one, splice_more, List.drop_nil, List.take_nil, cell_int, cell_bool, fillS, splice_one, idxA, Ex.isNormal, List.set_nil, List.length_set, List.all_cons, List.all_nil, Bool.and_self, and_self, true_and, and_true, List.getElem?_nil, Int.reduceLT, Int.reduceLE, Int.reduceToNat, Int.toNat_zero, Int.toNat_one, Int.reduceAdd, Int.reduceSub, Int.reduceMul, Int.reduceNeg, Int.reduceBEq, Int.reduceBNe, Int.reduceGE, Int.reduceGT, Nat.reduceLT, trim_keep, under_fn, under_ptr, under_sl, Nat.lt_irrefl, not_lt_add, trim_tail, keepOk, ABlk.vals, Int.cast_ofNat_Int, decide_true, decide_false, List.all_cons, List.all_nil, Nat.zero_mul, Nat.mul_one, Nat.one_mul, hd, s1, s2, shr1, s3, s4, ix, ld, el]
    refine ih i m _ _ _ _ _ _ _ _ _ _ _ _ _ _ _ _ _ _ _ (by omega) (by omega) (by omega) h1 (fun z hz => ?_)
    rw [dr] at hz
    rcases List.mem_cons.1 hz with rfl | q
    ·omega
    ·have := p4 z q; omega
  ·obtain rfl : i = j := by omega
   have hd : decide ((i : Int) < (i : Int)) = false := by simp
   rw [lo]
   unfold l32x0
   simp -implicitDefEqProofs (maxSteps := 5000000) only [go_sem, Nat.reduceShiftRight, Nat.reduceAnd, Nat.reduceBNe, Int.reduceEq, Nat.reduceAdd, Nat.reduceSub, Nat.reduceMul, Nat.reduceLeDiff, reduceIte, reduceCtorEq, Nat.reduceBEq, Nat.reduceEqDiff, hd, seqR_exit', outs_normal]
   exact exF2 rfl ⟨i, rfl, hj, h1, h2⟩
theorem searchC : ∃ q : Int, (envL prog).call 32 [v, .int .i64 x] H = some (.tup [.int .i64 q, .bool (decide (x ∈ u))], H) := by
 have wl := g.len
 have l0 := bsL g up hn x (k := u.length) (i := 0) (j := u.length)
 rw [show ((0 : Nat) : Int) = 0 from rfl] at l0
 have key : Outs (runC (envL prog) (b32 (envL prog)) ([v, .int .i64 x] ++ List.replicate (54 - [v, AV.int .i64 x].length) .undef) H) fun e' t K => K = H ∧ ∃ q : Int, fin [.tmp 4, .tmp 5] (some (e', t, K)) = some (.tup [.int .i64 q, .bool (decide (x ∈ u))], K) := by
  unfold b32
  generalize hQ : (fun (e' : Ex) (t : T) (K : AHeap) => K = H ∧ ∃ q : Int, fin [.tmp 4, .tmp 5] (some (e', t, K)) = some (AV.tup [.int .i64 q, .bool (decide (x ∈ u))], K)) = Q
  simp -implicitDefEqProofs (maxSteps := 5000000) only [go_sem, Nat.reduceShiftRight, Nat.reduceAnd, Nat.reduceBNe, Int.reduceEq, Nat.reduceAdd, Nat.reduceSub, Nat.reduceMul, Nat.reduceLeDiff, reduceIte, reduceCtorEq, Nat.reduceBEq, Nat.reduceEqDiff, wrap64, runC_loop, runC_range, callF_fn, callV_fn, callV_yld, yield_eq, yieldBody, yieldRaw, roundMid, roundEnd, rangeEnd, Bool.not_not, put_cons, put_nil, trim_same, at_zero, at_add, set_zero, set_add, store_one, write_zero, write_add, write_head, write_succ, splice_one, splice_more, List.drop_nil, List.take_nil, cell_int, cell_bool, fillS, splice_one, idxA, Ex.isNormal, List.set_nil, List.length_set, List.all_cons, List.all_nil, Bool.and_self, and_self, true_and, and_true, List.getElem?_nil, Int.reduceLT, Int.reduceLE, Int.reduceToNat, Int.toNat_zero, Int.toNat_one, Int.reduceAdd, Int.reduceSub, Int.reduceMul, Int.reduceNeg, Int.reduceBEq, Int.reduceBNe, Int.reduceGE, Int.reduceGT, Nat.reduceLT, trim_keep, under_fn, under_ptr, under_sl, Nat.lt_irrefl, not_lt_add, trim_tail, keepOk, ABlk.vals, Int.cast_ofNat_Int, decide_true, decide_false, List.all_cons, List.all_nil, Nat.zero_mul, Nat.mul_one, Nat.one_mul, runC_loop, wl]
  unfold LP1 at l0
  generalize (envL prog).loop (runC (envL prog) (l32x0 (envL prog))) = L0 at l0 ⊢
  refine outs_ctx (fun r => seqR (blockR 0 r) _) (l0 _ _ _ _ _ _ _ _ _ _ _ _ _ _ _ _ _ _ _ _ _ _ _ _ _ _ _ _ _ _ _ _ _ _ _ _ _ _ _ _ _ _ _ _ _ _ _ _ _ _ (by omega) (by omega) (by omega) (by simp) (by simp)) ?_
  rintro e t K ⟨rfl, rfl, fv, rfl, q, f7, ql, h1, h2⟩
  have nan := fun y => nanC y K
  by_cases hq : q < u.length
  ·have dq : decide ((q : Int) < (u.length : Int)) = true := decide_eq_true (by omega)
   have hx := List.getElem?_eq_getElem hq
   have ev : u = u.take q ++ u[q] :: u.drop (q + 1) := by rw [← List.drop_eq_getElem_cons hq, List.take_append_drop]
   have dr : u.drop q = u[q] :: u.drop (q + 1) := List.drop_eq_getElem_cons hq
   have up2 := up
   rw [ev] at up2
   obtain ⟨p1, p2, p3⟩ := List.pairwise_append.1 up2
   obtain ⟨p4, p5⟩ := List.pairwise_cons.1 p2
   generalize u[q] = y at *
   obtain ⟨a, ix, ld⟩ := g.idx hx .i64
   by_cases hy : y = x
   ·subst hy
    have hm : decide (y ∈ u) = true := decide_eq_true (List.mem_of_getElem? hx)
    have b2 : (y == y) = true := by simp
    simp -implicitDefEqProofs (maxSteps := 5000000) only [go_sem, Nat.reduceShiftRight, Nat.reduceAnd, Nat.reduceBNe, Int.reduceEq, Nat.reduceAdd, Nat.reduceSub, Nat.reduceMul, Nat.reduceLeDiff, reduceIte, reduceCtorEq, Nat.reduceBEq, Nat.reduceEqDiff, wrap64, runC_loop, runC_range, callF_fn, callV_fn, callV_yld, yield_eq, yieldBody, yieldRaw, roundMid, roundEnd, rangeEnd, Bool.not_not, put_cons, put_nil, trim_same, at_zero, at_add, set_zero, set_add, store_one, write_zero, write_add, write_head, write_succ, splice_one, splice_more, List.drop_nil, List.take_nil, cell_int, cell_bool, fillS, splice_one, idxA, Ex.isNormal, List.set_nil, List.length_set, List.all_cons, List.all_nil, Bool.and_self, and_self, true_and, and_true, List.getElem?_nil, Int.reduceLT, Int.reduceLE, Int.reduceToNat, Int.toNat_zero, Int.toNat_one, Int.reduceAdd, Int.reduceSub, Int.reduceMul, Int.reduceNeg, Int.reduceBEq, Int.reduceBNe, Int.reduceGE, Int.reduceGT, Nat.reduceLT, trim_keep, under_fn, under_ptr, under_sl, Nat.lt_irrefl, not_lt_add, trim_tail, keepOk, ABlk.vals, Int.cast_ofNat_Int, decide_true, decide_false, List.all_cons, List.all_nil, Nat.zero_mul, Nat.mul_one, Nat.one_mul, f7, wl, dq, ix, ld, b2, outs_normal]
    subst hQ
    rw [hm]
    refine ⟨rfl, q, ?_⟩
    simp -implicitDefEqProofs (maxSteps := 5000000) only [go_sem, Nat.reduceShiftRight, Nat.reduceAnd, Nat.reduceBNe, Int.reduceEq, Nat.reduceAdd, Nat.reduceSub, Nat.reduceMul, Nat.reduceLeDiff, reduceIte, reduceCtorEq, Nat.reduceBEq, Nat.reduceEqDiff, wrap64, runC_loop, runC_range, callF_fn, callV_fn, callV_yld, yield_eq, yieldBody, yieldRaw, roundMid, roundEnd, rangeEnd, Bool.not_not, put_cons, put_nil, trim_same, at_zero, at_add, set_zero, set_add, store_one, write_zero, write_add, write_head, write_succ, splice_one, splice_more, List.drop_nil, List.take_nil, cell_int, cell_bool, fillS, splice_one, idxA, Ex.isNormal, List.set_nil, List.length_set, List.all_cons, List.all_nil, Bool.and_self, and_self, true_and, and_true, List.getElem?_nil, Int.reduceLT, Int.reduceLE, Int.reduceToNat, Int.toNat_zero, Int.toNat_one, Int.reduceAdd, Int.reduceSub, Int.reduceMul, Int.reduceNeg, Int.reduceBEq, Int.reduceBNe, Int.reduceGE, Int.reduceGT, Nat.reduceLT, trim_keep, under_fn, under_ptr, under_sl, Nat.lt_irrefl, not_lt_add, trim_tail, keepOk, ABlk.vals, Int.cast_ofNat_Int, decide_true, decide_false, List.all_cons, List.all_nil, Nat.zero_mul, Nat.mul_one, Nat.one_mul]
   ·have hm : decide (x ∈ u) = false := decide_eq_false fun hm => by
     rw [ev] at hm
     rcases List.mem_append.1 hm with m | m
     ·have := h1 x m; omega
     ·rcases List.mem_cons.1 m with m | m
      ·exact hy m.symm
      ·have := p4 x m
       have := h2 y (by rw [dr]; simp); omega
    have b2 : (y == x) = false := by simp [hy]
    simp -implicitDefEqProofs (maxSteps := 5000000) only [go_sem, Nat.reduceShiftRight, Nat.reduceAnd, Nat.reduceBNe, Int.reduceEq, Nat.reduceAdd, Nat.reduceSub, Nat.reduceMul, Nat.reduceLeDiff, reduceIte, reduceCtorEq, Nat.reduceBEq, Nat.reduceEqDiff, wrap64, runC_loop, runC_range, callF_fn, callV_fn, callV_yld, yield_eq, yieldBody, yieldRaw, roundMid, roundEnd, rangeEnd, Bool.not_not, put_cons, put_nil, trim_same, at_zero, at_add, set_zero, set_add, store_one, write_zero, write_add, write_head, write_succ, splice_one, splice_more, List.drop_nil, List.take_nil, cell_int, cell_bool, fillS, splice_one, idxA, Ex.isNormal, List.set_nil, List.length_set, List.all_cons, List.all_nil, Bool.and_self, and_self, true_and, and_true, List.getElem?_nil, Int.reduceLT, Int.reduceLE, Int.reduceToNat, Int.toNat_zero, Int.toNat_one, Int.reduceAdd, Int.reduceSub, Int.reduceMul, Int.reduceNeg, Int.reduceBEq, Int.reduceBNe, Int.reduceGE, Int.reduceGT, Nat.reduceLT, trim_keep, under_fn, under_ptr, under_sl, Nat.lt_irrefl, not_lt_add, trim_tail, keepOk, ABlk.vals, Int.cast_ofNat_Int, decide_true, decide_false, List.all_cons, List.all_nil, Nat.zero_mul, Nat.mul_one, Nat.one_mul, f7, wl, dq, ix, ld, b2, nan, outs_normal]
    subst hQ
    rw [hm]
    refine ⟨rfl, q, ?_⟩
    simp -implicitDefEqProofs (maxSteps := 5000000) only [go_sem, Nat.reduceShiftRight, Nat.reduceAnd, Nat.reduceBNe, Int.reduceEq, Nat.reduceAdd, Nat.reduceSub, Nat.reduceMul, Nat.reduceLeDiff, reduceIte, reduceCtorEq, Nat.reduceBEq, Nat.reduceEqDiff, wrap64, runC_loop, runC_range, callF_fn, callV_fn, callV_yld, yield_eq, yieldBody, yieldRaw, roundMid, roundEnd, rangeEnd, Bool.not_not, put_cons, put_nil, trim_same, at_zero, at_add, set_zero, set_add, store_one, write_zero, write_add, write_head, write_succ, splice_one, splice_more, List.drop_nil, List.take_nil, cell_int, cell_bool, fillS, splice_one, idxA, Ex.isNormal, List.set_nil, List.length_set, List.all_cons, List.all_nil, Bool.and_self, and_self, true_and, and_true, List.getElem?_nil, Int.reduceLT, Int.reduceLE, Int.reduceToNat, Int.toNat_zero, Int.toNat_one, Int.reduceAdd, Int.reduceSub, Int.reduceMul, Int.reduceNeg, Int.reduceBEq, Int.reduceBNe, Int.reduceGE, Int.reduceGT, Nat.reduceLT, trim_keep, under_fn, under_ptr, under_sl, Nat.lt_irrefl, not_lt_add, trim_tail, keepOk, ABlk.vals, Int.cast_ofNat_Int, decide_true, decide_false, List.all_cons, List.all_nil, Nat.zero_mul, Nat.mul_one, Nat.one_mul]
  ·have dq : decide ((q : Int) < (u.length : Int)) = false := decide_eq_false (by omega)
   have hm : decide (x ∈ u) = false := decide_eq_false fun hm => by
    have := h1 x (by rw [List.take_of_length_le (by omega)]; exact hm); omega
   simp -implicitDefEqProofs (maxSteps := 5000000) only [go_sem, Nat.reduceShiftRight, Nat.reduceAnd, Nat.reduceBNe, Int.reduceEq, Nat.reduceAdd, Nat.reduceSub, Nat.reduceMul, Nat.reduceLeDiff, reduceIte, reduceCtorEq, Nat.reduceBEq, Nat.reduceEqDiff, wrap64, runC_loop, runC_range, callF_fn, callV_fn, callV_yld, yield_eq, yieldBody, yieldRaw, roundMid, roundEnd, rangeEnd, Bool.not_not, put_cons, put_nil, trim_same, at_zero, at_add, set_zero, set_add, store_one, write_zero, write_add, write_head, write_succ, splice_one, splice_more, List.drop_nil, List.take_nil, cell_int, cell_bool, fillS, splice_one, idxA, Ex.isNormal, List.set_nil, List.length_set, List.all_cons, List.all_nil, Bool.and_self, and_self, true_and, and_true, List.getElem?_nil, Int.reduceLT, Int.reduceLE, Int.reduceToNat, Int.toNat_zero, Int.toNat_one, Int.reduceAdd, Int.reduceSub, Int.reduceMul, Int.reduceNeg, Int.reduceBEq, Int.reduceBNe, Int.reduceGE, Int.reduceGT, Nat.reduceLT, trim_keep, under_fn, under_ptr, under_sl, Nat.lt_irrefl, not_lt_add, trim_tail, keepOk, ABlk.vals, Int.cast_ofNat_Int, decide_true, decide_false, List.all_cons, List.all_nil, Nat.zero_mul, Nat.mul_one, Nat.one_mul, f7, wl, dq, outs_normal]
   subst hQ
   rw [hm]
   refine ⟨rfl, q, ?_⟩
   simp -implicitDefEqProofs (maxSteps := 5000000) only [go_sem, Nat.reduceShiftRight, Nat.reduceAnd, Nat.reduceBNe, Int.reduceEq, Nat.reduceAdd, Nat.reduceSub, Nat.reduceMul, Nat.reduceLeDiff, reduceIte, reduceCtorEq, Nat.reduceBEq, Nat.reduceEqDiff, wrap64, runC_loop, runC_range, callF_fn, callV_fn, callV_yld, yield_eq, yieldBody, yieldRaw, roundMid, roundEnd, rangeEnd, Bool.not_not, put_cons, put_nil, trim_same, at_zero, at_add, set_zero, set_add, store_one, write_zero, write_add, write_head, write_succ, splice_one, splice_more, List.drop_nil, List.take_nil, cell_int, cell_bool, fillS, splice_one, idxA, Ex.isNormal, List.set_nil, List.length_set, List.all_cons, List.all_nil, Bool.and_self, and_self, true_and, and_true, List.getElem?_nil, Int.reduceLT, Int.reduceLE, Int.reduceToNat, Int.toNat_zero, Int.toNat_one, Int.reduceAdd, Int.reduceSub, Int.reduceMul, Int.reduceNeg, Int.reduceBEq, Int.reduceBNe, Int.reduceGE, Int.reduceGT, Nat.reduceLT, trim_keep, under_fn, under_ptr, under_sl, Nat.lt_irrefl, not_lt_add, trim_tail, keepOk, ABlk.vals, Int.cast_ofNat_Int, decide_true, decide_false, List.all_cons, List.all_nil, Nat.zero_mul, Nat.mul_one, Nat.one_mul]
 obtain ⟨e', t, K, hr, rfl, q, hf⟩ := key
 exact ⟨q, by rw [c32, hr, hf]; exact trim_same rfl⟩
end
end Go.Proofs.Ytfioahnogphnfaa.G12
end
section
namespace Go.Proofs.Ytfioahnogphnfaa.G12
open Go Go.Proofs.Ytfioahnogphnfaa.Eng
abbrev intsA (l : List Int) : List AV := l.map fun z => AV.int .i64 z
theorem ddF_snoc : ∀ (l : List Int) (pv : Option Int) (x : Int), ddF pv (l ++ [x]) = if (l.getLast?.or pv) = some x then ddF pv l else ddF pv l ++ [x]
 | [], pv, x => by
  show (if pv = some x then ([] : List Int) else [x]) = if (none.or pv) = some x then [] else [] ++ [x]
  rw [Option.none_or]
  split <;> rfl
 | y :: l, pv, x => by
  have hg : ((y :: l).getLast?.or pv) = (l.getLast?.or (some y)) := by
   cases l with
   | nil => rfl
   | cons z l => rw [List.getLast?_cons_cons]; cases h : (z :: l).getLast? with
    | none => simp at h
    | some q => rfl
  rw [List.cons_append, ddF, ddF, ddF_snoc l (some y) x, hg]
  split <;> split <;> rfl
theorem ddS_snoc (l : List Int) (x : Int) : ddS (l ++ [x]) = if l.getLast? = some x then ddS l else ddS l ++ [x] := by
 unfold ddS
 rw [ddF_snoc]
 cases l.getLast? <;> rfl
theorem take_last {l : List Int} {k : Nat} {x : Int} (h : l[k]? = some x) : (l.take (k + 1)).getLast? = some x := by
 rw [List.take_add_one, h]; exact List.getLast?_concat
section
variable {b n : Nat} {zs : List Int} (hn : zs.length = n) (h6 : n ≤ 1000000) {k0 : Nat} (k1 : 1 ≤ k0) (kn : k0 < n)
include hn h6 k1 kn
set_option maxHeartbeats 8000000 in
theorem cmpL0 (x1 x2 x6 x7 x8 x9 x10 x11 x12 x13 x14 x15 x16 x17 x18 x19 x20 x21 x22 x23 x24 x25 x26 x27 x28 x54 x55 x56 x57 x58 x59 x60 : AV) : ∀ (m j kk : Nat) (K : AHeap) (ys : List Int) (j29 j30 j31 j32 j33 j34 j35 j36 j37 j38 j39 j40 j41 j42 j43 j44 j45 j46 j47 j48 j49 j50 j51 j52 j53 : AV), k0 + j + m = n → 1 ≤ j → kk < k0 + j → K[b]? = some (.rw (intsA ys)) → ys.length = n → ys.take kk = ddS (zs.take (k0 + j)) → ys.drop (k0 + j - 1) = zs.drop (k0 + j - 1) →
  Outs (LP1 l16x0 [.sl b 0 1 n n false, x1, x2, .int .i64 (kk : Int), .sl b k0 1 (n - k0) (n - k0) false, .int .i64 (j : Int), x6, x7, x8, x9, x10, x11, x12, x13, x14, x15, x16, x17, x18, x19, x20, x21, x22, x23, x24, x25, x26, x27, x28, j29, j30, j31, j32, j33, j34, j35, j36, j37, j38, j39, j40, j41, j42, j43, j44, j45, j46, j47, j48, j49, j50, j51, j52, j53, x54, x55, x56, x57, x58, x59, x60] K) fun e t K' => e = .exit 2 ∧ ∃ fv : Nat → AV, t = [.sl b 0 1 n n false, x1, x2, (fv 3), .sl b k0 1 (n - k0) (n - k0) false, (fv 5), x6, x7, x8, x9, x10, x11, x12, x13, x14, x15, x16, x17, x18, x19, x20, x21, x22, x23, x24, x25, x26, x27, x28, (fv 29), (fv 30), (fv 31), (fv 32), (fv 33), (fv 34), (fv 35), (fv 36), (fv 37), (fv 38), (fv 39), (fv 40), (fv 41), (fv 42), (fv 43), (fv 44), (fv 45), (fv 46), (fv 47), (fv 48), (fv 49), (fv 50), (fv 51), (fv 52), (fv 53), x54, x55, x56, x57, x58, x59, x60] ∧ ∃ (q : Nat) (ys' : List Int), fv 3 = .int .i64 (q : Int) ∧ K' = K.set b (.rw (intsA ys')) ∧ ys'.length = n ∧ q < n ∧ ys'.take q = ddS zs := by
 intro m
 obtain ⟨L0, hL0⟩ : ∃ L, L = LP1 l16x0 := ⟨_, rfl⟩
 have lo := loop_open hL0
 rw [← hL0]
 have self : ∀ {K : AHeap} {ys : List Int}, K[b]? = some (.rw (intsA ys)) → K.set b (.rw (intsA ys)) = K := fun h => by
  apply List.ext_getElem?
  intro i
  by_cases e : i = b
  ·subst e; rw [at_set _ _ _ (lt_of_at h)]; exact h.symm
  ·rw [at_set_ne _ _ _ _ e]
 induction m with
 | zero =>
  intro j kk K ys j29 j30 j31 j32 j33 j34 j35 j36 j37 j38 j39 j40 j41 j42 j43 j44 j45 j46 j47 j48 j49 j50 j51 j52 j53 hm hj hk hK hl ht hdr
  have hd : decide ((j : Int) < ((n - k0 : Nat) : Int)) = false := decide_eq_false (by omega)
  rw [show k0 + j = zs.length by omega, List.take_length] at ht
  rw [lo]
  unfold l16x0
  simp -implicitDefEqProofs (maxSteps := 5000000) only [go_sem, Nat.reduceShiftRight, Nat.reduceAnd, Nat.reduceBNe, Int.reduceEq, Nat.reduceAdd, Nat.reduceSub, Nat.reduceMul, Nat.reduceLeDiff, reduceIte, reduceCtorEq, Nat.reduceBEq, Nat.reduceEqDiff, wrap64, runC_loop, runC_range, callF_fn, callV_fn, callV_yld, yield_eq, yieldBody, yieldRaw, roundMid, roundEnd, rangeEnd, Bool.not_not, put_cons, put_nil, trim_same, at_zero, at_add, set_zero, set_add, store_one, write_zero, write_add, write_head, write_succ, splice_one, splice_more, List.drop_nil, List.take_nil, cell_int, cell_bool, fillS, splice_one, idxA, Ex.isNormal, List.set_nil, List.length_set, List.all_cons, List.all_nil, Bool.and_self, and_self, true_and, and_true, List.getElem?_nil, Int.reduceLT, Int.reduceLE, Int.reduceToNat, Int.toNat_zero, Int.toNat_one, Int.reduceAdd, Int.reduceSub, Int.reduceMul, Int.reduceNeg, Int.reduceBEq, Int.reduceBNe, Int.reduceGE, Int.reduceGT, Nat.reduceLT, trim_keep, under_fn, under_ptr, under_sl, Nat.lt_irrefl, not_lt_add, trim_tail, keepOk, ABlk.vals, Int.cast_ofNat_Int, decide_true, decide_false, List.all_cons, List.all_nil, Nat.zero_mul, Nat.mul_one, Nat.one_mul, hd, seqR_exit', outs_normal]
  exact exF2 rfl ⟨kk, ys, rfl, (self hK).symm, hl, by omega, ht⟩
 | succ m ih =>
  intro j kk K ys j29 j30 j31 j32 j33 j34 j35 j36 j37 j38 j39 j40 j41 j42 j43 j44 j45 j46 j47 j48 j49 j50 j51 j52 j53 hm hj hk hK hl ht hdr
  have hd : decide ((j : Int) < ((n - k0 : Nat) : Int)) = true := decide_eq_true (by omega)
  have e2 : IntKind.i64.wrap ((j : Int) + 1) = ((j + 1 : Nat) : Int) := by rw [wrap64 (by omega) (by omega)]; omega
  have e1 : IntKind.i64.wrap ((j : Int) - 1) = ((j - 1 : Nat) : Int) := by rw [wrap64 (by omega) (by omega)]; omega
  have e3 : IntKind.i64.wrap ((kk : Int) + 1) = ((kk + 1 : Nat) : Int) := by rw [wrap64 (by omega) (by omega)]; omega
  have hc := cells_rw hK
  have hx := List.getElem?_eq_getElem (show k0 + j < zs.length by omega)
  have hp := List.getElem?_eq_getElem (show k0 + j - 1 < zs.length by omega)
  have gy : ∀ i, k0 + j - 1 ≤ i → ys[i]? = zs[i]? := fun i hi => by
   have := congrArg (fun l : List Int => l[i - (k0 + j - 1)]?) hdr
   simp only [List.getElem?_drop] at this
   rwa [show k0 + j - 1 + (i - (k0 + j - 1)) = i by omega] at this
  have yx := (gy (k0 + j) (by omega)).trans hx
  have yp := (gy (k0 + j - 1) (by omega)).trans hp
  have tk : zs.take (k0 + j + 1) = zs.take (k0 + j) ++ [zs[k0 + j]] := by rw [List.take_add_one, hx]; rfl
  have tl : (zs.take (k0 + j)).getLast? = some zs[k0 + j - 1] := by
   have := take_last hp
   rwa [show k0 + j - 1 + 1 = k0 + j by omega] at this
  have ds := ddS_snoc (zs.take (k0 + j)) zs[k0 + j]
  rw [← tk, tl] at ds
  generalize zs[k0 + j] = x at *
  generalize zs[k0 + j - 1] = p at *
  have ix1 : idxAddrS 1 (.sl b k0 1 (n - k0) (n - k0) false) (.int .i64 (j : Int)) = some (.ptr b (k0 + j)) := by
   rw [idx_sl, if_pos ⟨by omega, by omega, by omega⟩]; simp
  have ix2 : idxAddrS 1 (.sl b k0 1 (n - k0) (n - k0) false) (.int .i64 ((j - 1 : Nat) : Int)) = some (.ptr b (k0 + j - 1)) := by
   rw [idx_sl, if_pos ⟨by omega, by omega, by omega⟩]; simp; omega
  have cx : (intsA ys)[k0 + j]? = some (.int .i64 x) := by rw [List.getElem?_map, yx]; rfl
  have cp : (intsA ys)[k0 + j - 1]? = some (.int .i64 p) := by rw [List.getElem?_map, yp]; rfl
  rw [lo]
  unfold l16x0
  by_cases h : x = p
  ·have hb : (x != p) = false := by simp [h]
   rw [if_pos (by rw [h])] at ds
   simp -implicitDefEqProofs (maxSteps := 5000000) only [go_sem, Nat.reduceShiftRight, Nat.reduceAnd, Nat.reduceBNe, Int.reduceEq, Nat.reduceAdd, Nat.reduceSub, Nat.reduceMul, Nat.reduceLeDiff, reduceIte, reduceCtorEq, Nat.reduceBEq, Nat.reduceEqDiff, wrap64, runC_loop, runC_range, callF_fn, callV_fn, callV_yld, yield_eq, yieldBody, yieldRaw, roundMid, roundEnd, rangeEnd, Bool.not_not, put_cons, put_nil, trim_same, at_zero, at_add, set_zero, set_add, store_one, write_zero, write_add, write_head, write_succ, splice_one, splice_more, List.drop_nil, List.take_nil, cell_int, cell_bool, fillS, splice_one, idxA, Ex.isNormal, List.set_nil, List.length_set, List.all_cons, List.all_nil, Bool.and_self, and_self, true_and, and_true, List.getElem?_nil, Int.reduceLT, Int.reduceLE, Int.reduceToNat, Int.toNat_zero, Int.toNat_one, Int.reduceAdd, Int.reduceSub, Int.reduceMul, Int.reduceNeg, Int.reduceBEq, Int.reduceBNe, Int.reduceGE, Int.reduceGT, Nat.reduceLT, trim_keep, under_fn, under_ptr, under_sl, Nat.lt_irrefl, not_lt_add, trim_tail, keepOk, ABlk.vals, Int.cast_ofNat_Int, decide_true, decide_false, List.all_cons, List.all_nil, Nat.zero_mul, Nat.mul_one, Nat.one_mul, hd, ix1, hc, cx, e1, ix2, cp, hb, e2]
   exact ih (j + 1) kk K ys _ _ _ _ _ _ _ _ _ _ _ _ _ _ _ _ _ _ _ _ _ _ _ _ _ (by omega) (by omega) (by omega) hK hl (by rw [ht, ← ds]; rfl) (by
    have := congrArg (List.drop 1) hdr
    rw [List.drop_drop, List.drop_drop, show k0 + j - 1 + 1 = k0 + (j + 1) - 1 by omega] at this
    exact this)
  ·have hb : (x != p) = true := by simp [h]
   rw [if_neg (by intro q; injection q with q; exact h q.symm)] at ds
   have kl : kk < n := by omega
   have ix3 := idx_nat b 1 n n kk false .i64 (by omega) kl
   rw [Nat.mul_one] at ix3
   have lk := lt_of_at hK
   have wr : writeN K b kk [.int .i64 x] = some (K.set b (.rw (intsA (ys.set kk x)))) := by
    rw [write_of hK, if_pos ⟨by show kk + 1 ≤ _; rw [List.length_map]; omega, rfl⟩, splice_one, ← List.map_set]
   have key := ih (j + 1) (kk + 1) (K.set b (.rw (intsA (ys.set kk x)))) (ys.set kk x)
   simp -implicitDefEqProofs (maxSteps := 5000000) only [go_sem, Nat.reduceShiftRight, Nat.reduceAnd, Nat.reduceBNe, Int.reduceEq, Nat.reduceAdd, Nat.reduceSub, Nat.reduceMul, Nat.reduceLeDiff, reduceIte, reduceCtorEq, Nat.reduceBEq, Nat.reduceEqDiff, wrap64, runC_loop, runC_range, callF_fn, callV_fn, callV_yld, yield_eq, yieldBody, yieldRaw, roundMid, roundEnd, rangeEnd, Bool.not_not, put_cons, put_nil, trim_same, at_zero, at_add, set_zero, set_add, store_one, write_zero, write_add, write_head, write_succ, splice_one, splice_more, List.drop_nil, List.take_nil, cell_int, cell_bool, fillS, splice_one, idxA, Ex.isNormal, List.set_nil, List.length_set, List.all_cons, List.all_nil, Bool.and_self, and_self, true_and, and_true, List.getElem?_nil, Int.reduceLT, Int.reduceLE, Int.reduceToNat, Int.toNat_zero, Int.toNat_one, Int.reduceAdd, Int.reduceSub, Int.reduceMul, Int.reduceNeg, Int.reduceBEq, Int.reduceBNe, Int.reduceGE, Int.reduceGT, Nat.reduceLT, trim_keep, under_fn, under_ptr, under_sl, Nat.lt_irrefl, not_lt_add, trim_tail, keepOk, ABlk.vals, Int.cast_ofNat_Int, decide_true, decide_false, List.all_cons, List.all_nil, Nat.zero_mul, Nat.mul_one, Nat.one_mul, hd, ix1, hc, cx, e1, ix2, cp, hb, ix3, wr, e2, e3]
   refine (key _ _ _ _ _ _ _ _ _ _ _ _ _ _ _ _ _ _ _ _ _ _ _ _ _ (by omega) (by omega) (by omega) (at_set _ _ _ lk) (by simp [hl]) ?_ ?_).mono fun e t K' ⟨h1, fv, h2, q, ys', h3, h4, h5⟩ => ⟨h1, fv, h2, q, ys', h3, by rw [h4, List.set_set], h5⟩
   ·rw [show k0 + (j + 1) = k0 + j + 1 by omega, ds, ← ht]
    rw [List.take_add_one, List.getElem?_set_self (by omega), List.take_set_of_le (by omega)]
    rfl
   ·rw [List.drop_set_of_lt (by omega)]
    have := congrArg (List.drop 1) hdr
    rw [List.drop_drop, List.drop_drop, show k0 + j - 1 + 1 = k0 + (j + 1) - 1 by omega] at this
    exact this
end
section
variable {K : AHeap} {b n : Nat} {zs : List Int} (hK : K[b]? = some (.rw (intsA zs))) (hn : zs.length = n) (h6 : n ≤ 1000000)
include hK hn h6
set_option maxHeartbeats 8000000 in
theorem cmpL1 (x1 x6 x7 x8 x9 x60 : AV) : ∀ (m k : Nat) (j4 j5 j10 j11 j12 j13 j14 j15 j16 j17 j18 j19 j20 j21 j22 j23 j24 j25 j26 j27 j28 j29 j30 j31 j32 j33 j34 j35 j36 j37 j38 j39 j40 j41 j42 j43 j44 j45 j46 j47 j48 j49 j50 j51 j52 j53 j54 j55 j56 j57 j58 j59 : AV), k + m = n → 1 ≤ k → ddS (zs.take k) = zs.take k →
  Outs (LP1 l16x1 [.sl b 0 1 n n false, x1, .nilSl, .int .i64 (k : Int), j4, j5, x6, x7, x8, x9, j10, j11, j12, j13, j14, j15, j16, j17, j18, j19, j20, j21, j22, j23, j24, j25, j26, j27, j28, j29, j30, j31, j32, j33, j34, j35, j36, j37, j38, j39, j40, j41, j42, j43, j44, j45, j46, j47, j48, j49, j50, j51, j52, j53, j54, j55, j56, j57, j58, j59, x60] K) fun e t K' => ∃ fv : Nat → AV, t = [.sl b 0 1 n n false, x1, (fv 2), (fv 3), (fv 4), (fv 5), x6, x7, x8, x9, (fv 10), (fv 11), (fv 12), (fv 13), (fv 14), (fv 15), (fv 16), (fv 17), (fv 18), (fv 19), (fv 20), (fv 21), (fv 22), (fv 23), (fv 24), (fv 25), (fv 26), (fv 27), (fv 28), (fv 29), (fv 30), (fv 31), (fv 32), (fv 33), (fv 34), (fv 35), (fv 36), (fv 37), (fv 38), (fv 39), (fv 40), (fv 41), (fv 42), (fv 43), (fv 44), (fv 45), (fv 46), (fv 47), (fv 48), (fv 49), (fv 50), (fv 51), (fv 52), (fv 53), (fv 54), (fv 55), (fv 56), (fv 57), (fv 58), (fv 59), x60] ∧ ((e = .exit 0 ∧ K' = K ∧ ddS zs = zs) ∨ (e = .ret ∧ ∃ (q : Nat) (ys : List Int), q < n ∧ ys.length = n ∧ K' = K.set b (.rw (intsA ys)) ∧ ys.take q = ddS zs ∧ fv 2 = .sl b 0 1 q n false)) := by
 intro m
 obtain ⟨L0, hL0⟩ : ∃ L, L = LP1 l16x1 := ⟨_, rfl⟩
 have lo := loop_open hL0
 rw [← hL0]
 have hc := cells_rw hK
 induction m with
 | zero =>
  intro k j4 j5 j10 j11 j12 j13 j14 j15 j16 j17 j18 j19 j20 j21 j22 j23 j24 j25 j26 j27 j28 j29 j30 j31 j32 j33 j34 j35 j36 j37 j38 j39 j40 j41 j42 j43 j44 j45 j46 j47 j48 j49 j50 j51 j52 j53 j54 j55 j56 j57 j58 j59 hk k1 hd0
  obtain rfl : k = n := by omega
  have hd : decide ((k : Int) < (k : Int)) = false := by simp
  rw [← hn, List.take_length] at hd0
  rw [lo]
  unfold l16x1
  simp -implicitDefEqProofs (maxSteps := 5000000) only [go_sem, Nat.reduceShiftRight, Nat.reduceAnd, Nat.reduceBNe, Int.reduceEq, Nat.reduceAdd, Nat.reduceSub, Nat.reduceMul, Nat.reduceLeDiff, reduceIte, reduceCtorEq, Nat.reduceBEq, Nat.reduceEqDiff, wrap64, runC_loop, runC_range, callF_fn, callV_fn, callV_yld, yield_eq, yieldBody, yieldRaw, roundMid, roundEnd, rangeEnd, Bool.not_not, put_cons, put_nil, trim_same, at_zero, at_add, set_zero, set_add, store_one, write_zero, write_add, write_head, write_succ, splice_one, splice_more, List.drop_nil, List.take_nil, cell_int, cell_bool, fillS, splice_one, idxA, Ex.isNormal, List.set_nil, List.length_set, List.all_cons, List.all_nil, Bool.and_self, and_self, true_and, and_true, List.getElem?_nil, Int.reduceLT, Int.reduceLE, Int.reduceToNat, Int.toNat_zero, Int.toNat_one, Int.reduceAdd, Int.reduceSub, Int.reduceMul, Int.reduceNeg, Int.reduceBEq, Int.reduceBNe, Int.reduceGE, Int.reduceGT, Nat.reduceLT, trim_keep, under_fn, under_ptr, under_sl, Nat.lt_irrefl, not_lt_add, trim_tail, keepOk, ABlk.vals, Int.cast_ofNat_Int, decide_true, decide_false, List.all_cons, List.all_nil, Nat.zero_mul, Nat.mul_one, Nat.one_mul, hd, seqR_exit', outs_normal]
  exact exF2 rfl (.inl hd0)
 | succ m ih =>
  intro k j4 j5 j10 j11 j12 j13 j14 j15 j16 j17 j18 j19 j20 j21 j22 j23 j24 j25 j26 j27 j28 j29 j30 j31 j32 j33 j34 j35 j36 j37 j38 j39 j40 j41 j42 j43 j44 j45 j46 j47 j48 j49 j50 j51 j52 j53 j54 j55 j56 j57 j58 j59 hk k1 hd0
  have kn : k < n := by omega
  have hd : decide ((k : Int) < (n : Int)) = true := decide_eq_true (by omega)
  have e2 : IntKind.i64.wrap ((k : Int) + 1) = ((k + 1 : Nat) : Int) := by rw [wrap64 (by omega) (by omega)]; omega
  have e1 : IntKind.i64.wrap ((k : Int) - 1) = ((k - 1 : Nat) : Int) := by rw [wrap64 (by omega) (by omega)]; omega
  have hx := List.getElem?_eq_getElem (show k < zs.length by omega)
  have hp := List.getElem?_eq_getElem (show k - 1 < zs.length by omega)
  have tk : zs.take (k + 1) = zs.take k ++ [zs[k]] := by rw [List.take_add_one, hx]; rfl
  have tl : (zs.take k).getLast? = some zs[k - 1] := by
   have := take_last hp
   rwa [show k - 1 + 1 = k by omega] at this
  have ds := ddS_snoc (zs.take k) zs[k]
  rw [← tk, tl] at ds
  have ix1 := idx_nat b 1 n n k false .i64 (by omega) kn
  have ix2 := idx_nat b 1 n n (k - 1) false .i64 (by omega) (show k - 1 < n by omega)
  rw [Nat.mul_one] at ix1 ix2
  have cx : (intsA zs)[k]? = some (.int .i64 zs[k]) := by rw [List.getElem?_map, hx]; rfl
  have cp : (intsA zs)[k - 1]? = some (.int .i64 zs[k - 1]) := by rw [List.getElem?_map, hp]; rfl
  by_cases h : zs[k] = zs[k - 1]
  ·have hb : (zs[k] == zs[k - 1]) = true := by simp [h]
   rw [if_pos (by rw [h])] at ds
   have sl := sl_from (sz := 1) (b := b) (off := 0) (len := n) (cp := n) (i := k) (ex := false) (by omega) (by omega)
   rw [Nat.zero_add, Nat.mul_one] at sl
   have l0 := cmpL0 (b := b) hn h6 k1 kn (m := n - (k + 1)) (j := 1) (kk := k) (K := K) (ys := zs)
   rw [show ((1 : Nat) : Int) = 1 from rfl] at l0
   rw [lo]
   unfold l16x1
   simp -implicitDefEqProofs (maxSteps := 5000000) only [go_sem, Nat.reduceShiftRight, Nat.reduceAnd, Nat.reduceBNe, Int.reduceEq, Nat.reduceAdd, Nat.reduceSub, Nat.reduceMul, Nat.reduceLeDiff, reduceIte, reduceCtorEq, Nat.reduceBEq, Nat.reduceEqDiff, wrap64, runC_loop, runC_range, callF_fn, callV_fn, callV_yld, yield_eq, yieldBody, yieldRaw, roundMid, roundEnd, rangeEnd, Bool.not_not, put_cons, put_nil, trim_same, at_zero, at_add, set_zero, set_add, store_one, write_zero, write_add, write_head, write_succ, splice_one, splice_more, List.drop_nil, List.take_nil, cell_int, cell_bool, fillS, splice_one, idxA, Ex.isNormal, List.set_nil, List.length_set, List.all_cons, List.all_nil, Bool.and_self, and_self, true_and, and_true, List.getElem?_nil, Int.reduceLT, Int.reduceLE, Int.reduceToNat, Int.toNat_zero, Int.toNat_one, Int.reduceAdd, Int.reduceSub, Int.reduceMul, Int.reduceNeg, Int.reduceBEq, Int.reduceBNe, Int.reduceGE, Int.reduceGT, Nat.reduceLT, trim_keep, under_fn, under_ptr, under_sl, Nat.lt_irrefl, not_lt_add, trim_tail, keepOk, ABlk.vals, Int.cast_ofNat_Int, decide_true, decide_false, List.all_cons, List.all_nil, Nat.zero_mul, Nat.mul_one, Nat.one_mul, runC_loop, hd, ix1, hc, cx, e1, ix2, cp, hb, sl]
   unfold LP1 at l0
   generalize (envL prog).loop (runC (envL prog) (l16x0 (envL prog))) = LL at l0 ⊢
   refine outs_ctx (fun r => seqR (seqR (blockR 1 (seqR (blockR 2 r) _)) _) _) (l0 _ _ _ _ _ _ _ _ _ _ _ _ _ _ _ _ _ _ _ _ _ _ _ _ _ _ _ _ _ _ _ _ _ _ _ _ _ _ _ _ _ _ _ _ _ _ _ _ _ _ _ _ _ _ _ _ _ (by omega) (by omega) (by omega) hK hn (by rw [show k + 1 = k + 1 from rfl, ds, hd0]) rfl) ?_
   rintro e t K' ⟨rfl, fv, rfl, q, ys, f3, rfl, hl, ql, ht⟩
   have hK' : (K.set b (.rw (intsA ys)))[b]? = some (.rw (intsA ys)) := at_set _ _ _ (lt_of_at hK)
   have s2 := sl_from (sz := 1) (b := b) (off := 0) (len := n) (cp := n) (i := q) (ex := false) (by omega) (by omega)
   have s3 := sl_to (sz := 1) (b := b) (off := 0) (len := n) (cp := n) (u := q) (ex := false) (by omega)
   rw [Nat.zero_add, Nat.mul_one] at s2
   have ec : clearV (ty 1 false 8 [.int .i64 0]) (.sl b q 1 (n - q) (n - q) false) (K.set b (.rw (intsA ys))) = some (.tup [], K.set b (.rw (intsA (ys.take q ++ List.replicate (n - q) 0)))) := by
    unfold clearV
    simp only [show (ty 1 false 8 [AV.int .i64 0]).size = 1 from rfl]
    have er : (List.replicate (n - q) (ty 1 false 8 [AV.int .i64 0]).zero).flatten = intsA (List.replicate (n - q) 0) := by
     show (List.replicate (n - q) [AV.int .i64 0]).flatten = _
     unfold intsA
     rw [List.map_replicate]
     generalize n - q = w
     induction w with
     | zero => rfl
     | succ w ih => rw [List.replicate_succ, List.flatten_cons, ih]; rfl
    rw [if_neg (by omega), if_neg (by simp), er, write_of hK', if_pos ⟨by rw [List.length_map, List.length_map, List.length_replicate]; omega, by rw [List.all_map]; simp [AV.isCell]⟩]
    have sp : splice (intsA ys) q (intsA (List.replicate (n - q) 0)) = intsA (ys.take q ++ List.replicate (n - q) 0) := by
     by_cases h1 : n - q = 1
     ·rw [h1]
      show splice _ q [AV.int .i64 0] = _
      rw [splice_one]
      unfold intsA
      rw [List.map_append, List.map_take]
      rw [List.set_eq_take_append_cons_drop, if_pos (by rw [List.length_map]; omega), List.drop_eq_nil_of_le (by rw [List.length_map]; omega)]
      rfl
     ·rw [splice_long _ _ _ (by rw [List.length_map, List.length_replicate]; exact h1), List.length_map, List.length_replicate, List.drop_eq_nil_of_le (by rw [List.length_map]; omega), List.append_nil]
      unfold intsA
      rw [List.map_append, List.map_take]
    rw [sp]
    show some (AV.tup [], (K.set b _).set b _) = _
    rw [List.set_set]
   simp -implicitDefEqProofs (maxSteps := 5000000) only [go_sem, Nat.reduceShiftRight, Nat.reduceAnd, Nat.reduceBNe, Int.reduceEq, Nat.reduceAdd, Nat.reduceSub, Nat.reduceMul, Nat.reduceLeDiff, reduceIte, reduceCtorEq, Nat.reduceBEq, Nat.reduceEqDiff, wrap64, runC_loop, runC_range, callF_fn, callV_fn, callV_yld, yield_eq, yieldBody, yieldRaw, roundMid, roundEnd, rangeEnd, Bool.not_not, put_cons, put_nil, trim_same, at_zero, at_add, set_zero, set_add, store_one, write_zero, write_add, write_head, write_succ, splice_one, splice_more, List.drop_nil, List.take_nil, cell_int, cell_bool, fillS, splice_one, idxA, Ex.isNormal, List.set_nil, List.length_set, List.all_cons, List.all_nil, Bool.and_self, and_self, true_and, and_true, List.getElem?_nil, Int.reduceLT, Int.reduceLE, Int.reduceToNat, Int.toNat_zero, Int.toNat_one, Int.reduceAdd, Int.reduceSub, Int.reduceMul, Int.reduceNeg, Int.reduceBEq, Int.reduceBNe, Int.reduceGE, Int.reduceGT, Nat.reduceLT, trim_keep, under_fn, under_ptr, under_sl, Nat.lt_irrefl, not_lt_add, trim_tail, keepOk, ABlk.vals, Int.cast_ofNat_Int, decide_true, decide_false, List.all_cons, List.all_nil, Nat.zero_mul, Nat.mul_one, Nat.one_mul, f3, s2, ec, s3, seqR_ret, outs_normal]
   exact exF2 rfl (.inr ⟨q, ys.take q ++ List.replicate (n - q) 0, ql, by rw [List.length_append, List.length_take, List.length_replicate]; omega, rfl, by rw [List.take_append_of_le_length (by rw [List.length_take]; omega), List.take_take, Nat.min_self]; exact ht, rfl⟩)
  ·have hb : (zs[k] == zs[k - 1]) = false := by simp [h]
   rw [if_neg (by intro q; injection q with q; exact h q.symm)] at ds
   rw [lo]
   unfold l16x1
   simp -implicitDefEqProofs (maxSteps := 5000000) only [go_sem, Nat.reduceShiftRight, Nat.reduceAnd, Nat.reduceBNe, Int.reduceEq, Nat.reduceAdd, Nat.reduceSub, Nat.reduceMul, Nat.reduceLeDiff, reduceIte, reduceCtorEq, Nat.reduceBEq, Nat.reduceEqDiff, wrap64, runC_loop, runC_range, callF_fn, callV_fn, callV_yld, yield_eq, yieldBody, yieldRaw, roundMid, roundEnd, rangeEnd, Bool.not_not, put_cons, put_nil, trim_same, at_zero, at_add, set_zero, set_add, store_one, write_zero, write_add, write_head, write_succ, splice_one, splice_more, List.drop_nil, List.take_nil, cell_int, cell_bool, fillS, splice_one, idxA, Ex.isNormal, List.set_nil, List.length_set, List.all_cons, List.all_nil, Bool.and_self, and_self, true_and, and_true, List.getElem?_nil, Int.reduceLT, Int.reduceLE, Int.reduceToNat, Int.toNat_zero, Int.toNat_one, Int.reduceAdd, Int.reduceSub, Int.reduceMul, Int.reduceNeg, Int.reduceBEq, Int.reduceBNe, Int.reduceGE, Int.reduceGT, Nat.reduceLT, trim_keep, under_fn, under_ptr, under_sl, Nat.lt_irrefl, not_lt_add, trim_tail, keepOk, ABlk.vals, Int.cast_ofNat_Int, decide_true, decide_false, List.all_cons, List.all_nil, Nat.zero_mul, Nat.mul_one, Nat.one_mul, hd, ix1, hc, cx, e1, ix2, cp, hb, e2]
   exact ih (k + 1) _ _ _ _ _ _ _ _ _ _ _ _ _ _ _ _ _ _ _ _ _ _ _ _ _ _ _ _ _ _ _ _ _ _ _ _ _ _ _ _ _ _ _ _ _ _ _ _ _ _ _ _ (by omega) (by omega) (by rw [ds, hd0, tk])
end
theorem compactC {K : AHeap} {B : Nat} {v : AV} {zs : List Int} (g : FS K B v zs) (h6 : zs.length ≤ 1000000) : ∃ v' K', (envL prog).call 16 [v] K = some (v', K') ∧ IS K' v' (ddS zs) ∧ (∀ b, slb v' = some b → slb v = some b) ∧ Fr K K' (fun b => slb v = some b) ∧ K'.length = K.length := by
 have wl := g.len
 rcases g with ⟨h, rfl⟩ | ⟨h, b, hb, rfl, hK⟩
 ·obtain rfl := List.map_eq_nil_iff.1 h
  refine ⟨.nilSl, K, ?_, .inl ⟨rfl, rfl⟩, fun b h => h, ⟨Nat.le_refl _, fun _ _ _ => rfl⟩, rfl⟩
  rw [c16]
  unfold b16
  simp -implicitDefEqProofs (maxSteps := 5000000) only [go_sem, Nat.reduceShiftRight, Nat.reduceAnd, Nat.reduceBNe, Int.reduceEq, Nat.reduceAdd, Nat.reduceSub, Nat.reduceMul, Nat.reduceLeDiff, reduceIte, reduceCtorEq, Nat.reduceBEq, Nat.reduceEqDiff, wrap64, runC_loop, runC_range, callF_fn, callV_fn, callV_yld, yield_eq, yieldBody, yieldRaw, roundMid, roundEnd, rangeEnd, Bool.not_not, put_cons, put_nil, trim_same, at_zero, at_add, set_zero, set_add, store_one, write_zero, write_add, write_head, write_succ, splice_one, splice_more, List.drop_nil, List.take_nil, cell_int, cell_bool, fillS, splice_one, idxA, Ex.isNormal, List.set_nil, List.length_set, List.all_cons, List.all_nil, Bool.and_self, and_self, true_and, and_true, List.getElem?_nil, Int.reduceLT, Int.reduceLE, Int.reduceToNat, Int.toNat_zero, Int.toNat_one, Int.reduceAdd, Int.reduceSub, Int.reduceMul, Int.reduceNeg, Int.reduceBEq, Int.reduceBNe, Int.reduceGE, Int.reduceGT, Nat.reduceLT, trim_keep, under_fn, under_ptr, under_sl, Nat.lt_irrefl, not_lt_add, trim_tail, keepOk, ABlk.vals, Int.cast_ofNat_Int, decide_true, decide_false, List.all_cons, List.all_nil, Nat.zero_mul, Nat.mul_one, Nat.one_mul]
 ·rw [map_take_flat] at hK
  rw [List.length_map] at wl ⊢
  by_cases h2 : (zs.length : Int) < 2
  ·have d2 := decide_eq_true h2
   have hd : ddS zs = zs := by
    match zs, h2 with
    | [], _ => rfl
    | [x], _ => rfl
    | x :: y :: l, h => simp at h; omega
   refine ⟨_, K, ?_, ?_, fun b h => h, ⟨Nat.le_refl _, fun _ _ _ => rfl⟩, rfl⟩
   ·rw [c16]
    unfold b16
    simp -implicitDefEqProofs (maxSteps := 5000000) only [go_sem, Nat.reduceShiftRight, Nat.reduceAnd, Nat.reduceBNe, Int.reduceEq, Nat.reduceAdd, Nat.reduceSub, Nat.reduceMul, Nat.reduceLeDiff, reduceIte, reduceCtorEq, Nat.reduceBEq, Nat.reduceEqDiff, wrap64, runC_loop, runC_range, callF_fn, callV_fn, callV_yld, yield_eq, yieldBody, yieldRaw, roundMid, roundEnd, rangeEnd, Bool.not_not, put_cons, put_nil, trim_same, at_zero, at_add, set_zero, set_add, store_one, write_zero, write_add, write_head, write_succ, splice_one, splice_more, List.drop_nil, List.take_nil, cell_int, cell_bool, fillS, splice_one, idxA, Ex.isNormal, List.set_nil, List.length_set, List.all_cons, List.all_nil, Bool.and_self, and_self, true_and, and_true, List.getElem?_nil, Int.reduceLT, Int.reduceLE, Int.reduceToNat, Int.toNat_zero, Int.toNat_one, Int.reduceAdd, Int.reduceSub, Int.reduceMul, Int.reduceNeg, Int.reduceBEq, Int.reduceBNe, Int.reduceGE, Int.reduceGT, Nat.reduceLT, trim_keep, under_fn, under_ptr, under_sl, Nat.lt_irrefl, not_lt_add, trim_tail, keepOk, ABlk.vals, Int.cast_ofNat_Int, decide_true, decide_false, List.all_cons, List.all_nil, Nat.zero_mul, Nat.mul_one, Nat.one_mul, d2]
   ·rw [hd]; exact IS.block hK
  ·have d2 := decide_eq_false h2
   obtain ⟨n, hn⟩ : ∃ n, zs.length = n := ⟨_, rfl⟩
   have hd1 : ddS (zs.take 1) = zs.take 1 := by
    match zs with
    | [] => rfl
    | x :: l => rfl
   have l0 := cmpL1 hK hn (by omega) (m := n - 1) (k := 1)
   rw [show ((1 : Nat) : Int) = 1 from rfl] at l0
   rw [hn] at d2 ⊢
   have key : Outs (runC (envL prog) (b16 (envL prog)) ([AV.sl b 0 1 n n false] ++ List.replicate (61 - [AV.sl b 0 1 n n false].length) .undef) K) fun e' t K' => ∃ (q : Nat) (ys : List Int), q ≤ n ∧ ys.length = n ∧ K' = K.set b (.rw (intsA ys)) ∧ ys.take q = ddS zs ∧ fin [.tmp 2] (some (e', t, K')) = some (.sl b 0 1 q n false, K') := by
    unfold b16
    generalize hQ : (fun (e' : Ex) (t : T) (K' : AHeap) => ∃ (q : Nat) (ys : List Int), q ≤ n ∧ ys.length = n ∧ K' = K.set b (.rw (intsA ys)) ∧ ys.take q = ddS zs ∧ fin [.tmp 2] (some (e', t, K')) = some (AV.sl b 0 1 q n false, K')) = Q
    simp -implicitDefEqProofs (maxSteps := 5000000) only [go_sem, Nat.reduceShiftRight, Nat.reduceAnd, Nat.reduceBNe, Int.reduceEq, Nat.reduceAdd, Nat.reduceSub, Nat.reduceMul, Nat.reduceLeDiff, reduceIte, reduceCtorEq, Nat.reduceBEq, Nat.reduceEqDiff, wrap64, runC_loop, runC_range, callF_fn, callV_fn, callV_yld, yield_eq, yieldBody, yieldRaw, roundMid, roundEnd, rangeEnd, Bool.not_not, put_cons, put_nil, trim_same, at_zero, at_add, set_zero, set_add, store_one, write_zero, write_add, write_head, write_succ, splice_one, splice_more, List.drop_nil, List.take_nil, cell_int, cell_bool, fillS, splice_one, idxA, Ex.isNormal, List.set_nil, List.length_set, List.all_cons, List.all_nil, Bool.and_self, and_self, true_and, and_true, List.getElem?_nil, Int.reduceLT, Int.reduceLE, Int.reduceToNat, Int.toNat_zero, Int.toNat_one, Int.reduceAdd, Int.reduceSub, Int.reduceMul, Int.reduceNeg, Int.reduceBEq, Int.reduceBNe, Int.reduceGE, Int.reduceGT, Nat.reduceLT, trim_keep, under_fn, under_ptr, under_sl, Nat.lt_irrefl, not_lt_add, trim_tail, keepOk, ABlk.vals, Int.cast_ofNat_Int, decide_true, decide_false, List.all_cons, List.all_nil, Nat.zero_mul, Nat.mul_one, Nat.one_mul, runC_loop, d2]
    unfold LP1 at l0
    generalize (envL prog).loop (runC (envL prog) (l16x1 (envL prog))) = L0 at l0 ⊢
    refine outs_ctx (fun r => seqR (blockR 0 r) _) (l0 _ _ _ _ _ _ _ _ _ _ _ _ _ _ _ _ _ _ _ _ _ _ _ _ _ _ _ _ _ _ _ _ _ _ _ _ _ _ _ _ _ _ _ _ _ _ _ _ _ _ _ _ _ _ _ _ _ _ (by omega) (by omega) hd1) ?_
    rintro e t K' ⟨fv, rfl, ⟨rfl, rfl, ho⟩ | ⟨rfl, q, ys, ql, yl, rfl, ht, f2⟩⟩
    ·simp -implicitDefEqProofs (maxSteps := 5000000) only [go_sem, Nat.reduceShiftRight, Nat.reduceAnd, Nat.reduceBNe, Int.reduceEq, Nat.reduceAdd, Nat.reduceSub, Nat.reduceMul, Nat.reduceLeDiff, reduceIte, reduceCtorEq, Nat.reduceBEq, Nat.reduceEqDiff, wrap64, runC_loop, runC_range, callF_fn, callV_fn, callV_yld, yield_eq, yieldBody, yieldRaw, roundMid, roundEnd, rangeEnd, Bool.not_not, put_cons, put_nil, trim_same, at_zero, at_add, set_zero, set_add, store_one, write_zero, write_add, write_head, write_succ, splice_one, splice_more, List.drop_nil, List.take_nil, cell_int, cell_bool, fillS, splice_one, idxA, Ex.isNormal, List.set_nil, List.length_set, List.all_cons, List.all_nil, Bool.and_self, and_self, true_and, and_true, List.getElem?_nil, Int.reduceLT, Int.reduceLE, Int.reduceToNat, Int.toNat_zero, Int.toNat_one, Int.reduceAdd, Int.reduceSub, Int.reduceMul, Int.reduceNeg, Int.reduceBEq, Int.reduceBNe, Int.reduceGE, Int.reduceGT, Nat.reduceLT, trim_keep, under_fn, under_ptr, under_sl, Nat.lt_irrefl, not_lt_add, trim_tail, keepOk, ABlk.vals, Int.cast_ofNat_Int, decide_true, decide_false, List.all_cons, List.all_nil, Nat.zero_mul, Nat.mul_one, Nat.one_mul, outs_normal]
     subst hQ
     refine ⟨n, zs, Nat.le_refl _, hn, ?_, by rw [ho, ← hn, List.take_length], ?_⟩
     ·apply List.ext_getElem?
      intro i
      by_cases e : i = b
      ·subst e; rw [at_set _ _ _ (lt_of_at hK)]; exact hK
      ·rw [at_set_ne _ _ _ _ e]
     ·simp -implicitDefEqProofs (maxSteps := 5000000) only [go_sem, Nat.reduceShiftRight, Nat.reduceAnd, Nat.reduceBNe, Int.reduceEq, Nat.reduceAdd, Nat.reduceSub, Nat.reduceMul, Nat.reduceLeDiff, reduceIte, reduceCtorEq, Nat.reduceBEq, Nat.reduceEqDiff, wrap64, runC_loop, runC_range, callF_fn, callV_fn, callV_yld, yield_eq, yieldBody, yieldRaw, roundMid, roundEnd, rangeEnd, Bool.not_not, put_cons, put_nil, trim_same, at_zero, at_add, set_zero, set_add, store_one, write_zero, write_add, write_head, write_succ, splice_one, splice_more, List.drop_nil, List.take_nil, cell_int, cell_bool, fillS, splice_one, idxA, Ex.isNormal, List.set_nil, List.length_set, List.all_cons, List.all_nil, Bool.and_self, and_self, true_and, and_true, List.getElem?_nil, Int.reduceLT, Int.reduceLE, Int.reduceToNat, Int.toNat_zero, Int.toNat_one, Int.reduceAdd, Int.reduceSub, Int.reduceMul, Int.reduceNeg, Int.reduceBEq, Int.reduceBNe, Int.reduceGE, Int.reduceGT, Nat.reduceLT, trim_keep, under_fn, under_ptr, under_sl, Nat.lt_irrefl, not_lt_add, trim_tail, keepOk, ABlk.vals, Int.cast_ofNat_Int, decide_true, decide_false, List.all_cons, List.all_nil, Nat.zero_mul, Nat.mul_one, Nat.one_mul]
    ·simp -implicitDefEqProofs (maxSteps := 5000000) only [go_sem, Nat.reduceShiftRight, Nat.reduceAnd, Nat.reduceBNe, Int.reduceEq, Nat.reduceAdd, Nat.reduceSub, Nat.reduceMul, Nat.reduceLeDiff, reduceIte, reduceCtorEq, Nat.reduceBEq, Nat.reduceEqDiff, wrap64, runC_loop, runC_range, callF_fn, callV_fn, callV_yld, yield_eq, yieldBody, yieldRaw, roundMid, roundEnd, rangeEnd, Bool.not_not, put_cons, put_nil, trim_same, at_zero, at_add, set_zero, set_add, store_one, write_zero, write_add, write_head, write_succ, splice_one, splice_more, List.drop_nil, List.take_nil, cell_int, cell_bool, fillS, splice_one, idxA, Ex.isNormal, List.set_nil, List.length_set, List.all_cons, List.all_nil, Bool.and_self, and_self, true_and, and_true, List.getElem?_nil, Int.reduceLT, Int.reduceLE, Int.reduceToNat, Int.toNat_zero, Int.toNat_one, Int.reduceAdd, Int.reduceSub, Int.reduceMul, Int.reduceNeg, Int.reduceBEq, Int.reduceBNe, Int.reduceGE, Int.reduceGT, Nat.reduceLT, trim_keep, under_fn, under_ptr, under_sl, Nat.lt_irrefl, not_lt_add, trim_tail, keepOk, ABlk.vals, Int.cast_ofNat_Int, decide_true, decide_false, List.all_cons, List.all_nil, Nat.zero_mul, Nat.mul_one, Nat.one_mul, outs_normal]
     subst hQ
     refine ⟨q, ys, by omega, yl, rfl, ht, ?_⟩
     simp -implicitDefEqProofs (maxSteps := 5000000) only [go_sem, Nat.reduceShiftRight, Nat.reduceAnd, Nat.reduceBNe, Int.reduceEq, Nat.reduceAdd, Nat.reduceSub, Nat.reduceMul, Nat.reduceLeDiff, reduceIte, reduceCtorEq, Nat.reduceBEq, Nat.reduceEqDiff, wrap64, runC_loop, runC_range, callF_fn, callV_fn, callV_yld, yield_eq, yieldBody, yieldRaw, roundMid, roundEnd, rangeEnd, Bool.not_not, put_cons, put_nil, trim_same, at_zero, at_add, set_zero, set_add, store_one, write_zero, write_add, write_head, write_succ, splice_one, splice_more, List.drop_nil, List.take_nil, cell_int, cell_bool, fillS, splice_one, idxA, Ex.isNormal, List.set_nil, List.length_set, List.all_cons, List.all_nil, Bool.and_self, and_self, true_and, and_true, List.getElem?_nil, Int.reduceLT, Int.reduceLE, Int.reduceToNat, Int.toNat_zero, Int.toNat_one, Int.reduceAdd, Int.reduceSub, Int.reduceMul, Int.reduceNeg, Int.reduceBEq, Int.reduceBNe, Int.reduceGE, Int.reduceGT, Nat.reduceLT, trim_keep, under_fn, under_ptr, under_sl, Nat.lt_irrefl, not_lt_add, trim_tail, keepOk, ABlk.vals, Int.cast_ofNat_Int, decide_true, decide_false, List.all_cons, List.all_nil, Nat.zero_mul, Nat.mul_one, Nat.one_mul, f2]
   obtain ⟨e', t, K', hr, q, ys, ql, yl, rfl, ht, hf⟩ := key
   have hK' : (K.set b (.rw (intsA ys)))[b]? = some (.rw (intsA ys)) := at_set _ _ _ (lt_of_at hK)
   have lq : (ddS zs).length = q := by rw [← ht, List.length_take]; omega
   refine ⟨.sl b 0 1 q n false, K.set b (.rw (intsA ys)), by rw [c16, hr, hf]; exact trim_same (by rw [List.length_set]), ?_, fun x h => h, Fr.set _ _ (F := fun x => slb (AV.sl b 0 1 n n false) = some x) rfl, by rw [List.length_set]⟩
   refine .inr ⟨b, 0, n, false, intsA ys, by rw [lq], cells_rw hK', fun i z hz => ?_, by rw [List.length_map, Nat.zero_add, lq]; omega⟩
   rw [Nat.zero_add, List.getElem?_map]
   rw [← ht, List.getElem?_take] at hz
   split at hz
   ·rw [hz]; rfl
   ·cases hz
end Go.Proofs.Ytfioahnogphnfaa.G12
end
