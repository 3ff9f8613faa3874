/- What the functions that RingSpoilt reaches answer, for every argument. No condition but those in each statement. -/
import Derived.Test.YtipedaadjfhdnaaN
import Derived.Test.YtipedaadjfhdnaaE6
set_option linter.unusedSimpArgs false
set_option linter.unusedVariables false
set_option linter.unusedSectionVars false
set_option maxRecDepth 10000
section
namespace Go.Proofs.Ytipedaadjfhdnaa.G06
open Go Go.Proofs.Ytipedaadjfhdnaa.Eng
noncomputable abbrev LQ (l : Env → CT) := (envL prog).loop (runC (envL prog) (l (envL prog)))
theorem diskLenN (h : AHeap) : (envL prog).call 34 [.nilPtr] h = some (.int .i64 0, h) := by
 rw [c34]
 unfold b34
 simp -implicitDefEqProofs (maxSteps := 5000000) only [go_sem, Nat.reduceShiftRight, Nat.reduceAnd, Nat.reduceBNe, Int.reduceEq, Nat.reduceAdd, Nat.reduceSub, Nat.reduceMul, Nat.reduceLeDiff, reduceIte, reduceCtorEq, Nat.reduceBEq, Nat.reduceEqDiff]
section
variable {H : AHeap} {p d c : Nat} {L : List (AV × Sec)} (m : DK H p d c L)
include m
theorem diskLenC : (envL prog).call 34 [.ptr p 0] H = some (.int .i64 (L.length : Int), H) := by
 have hm := m.ptr
 rw [c34]
 unfold b34
 simp -implicitDefEqProofs (maxSteps := 5000000) only [go_sem, Nat.reduceShiftRight, Nat.reduceAnd, Nat.reduceBNe, Int.reduceEq, Nat.reduceAdd, Nat.reduceSub, Nat.reduceMul, Nat.reduceLeDiff, reduceIte, reduceCtorEq, Nat.reduceBEq, Nat.reduceEqDiff, hm]
theorem sectorC {i : Nat} (hi : i < L.length) : (envL prog).call 54 [.ptr p 0, .int .i64 (i : Int)] H = some (.ptr d (i * 65), H) := by
 have hm := m.ptr
 have hl := diskLenC m
 have ix := idx_nat d 65 L.length L.length i true .i64 (by omega) hi
 have d1 : decide ((i : Int) < 0) = false := decide_eq_false (by omega)
 have d2 : decide ((i : Int) ≥ (L.length : Int)) = false := decide_eq_false (by omega)
 have u := lt_of_at m.blk
 have hu : (AV.ptr d (i * 65)).under H.length = true := by simp [AV.under, u]
 rw [c54]
 unfold b54
 simp -implicitDefEqProofs (maxSteps := 5000000) only [go_sem, Nat.reduceShiftRight, Nat.reduceAnd, Nat.reduceBNe, Int.reduceEq, Nat.reduceAdd, Nat.reduceSub, Nat.reduceMul, Nat.reduceLeDiff, reduceIte, reduceCtorEq, Nat.reduceBEq, Nat.reduceEqDiff, hm, hl, d1, d2, ix, hu]
set_option maxHeartbeats 1000000 in
theorem lastC {i : Nat} {x : AV × Sec} (hi : L[i]? = some x) : (envL prog).call 55 [.ptr d (i * 65)] H = some (.agg (u8s x.2.last), H) := by
 obtain ⟨cs, hc, hv, hle, htk, _⟩ := m.row hi
 obtain ⟨gv, ok, cap⟩ := m.vs.at hi
 have cb := m.vs.cb
 obtain ⟨hl, hr⟩ := ver_read gv ok
 have ul := u8s_all x.2.last H.length
 have l64 := ok.last.1
 have w64 : (u8s x.2.last).length = 64 := by rw [u8s_len]; exact l64
 have uc := u8s_cell x.2.last
 have sp := splice_u8 (.int .u8 0) l64 (by omega)
 have tk := u8s_take l64
 rw [c55]
 unfold b55
 rcases hr with ⟨h0, h1⟩ | ⟨b, cs2, z, hz, h1, hp, hc2, hle2, htk2⟩
 ·have e : x.2.last = x.2.there := by unfold Sec.last; rw [h0]; rfl
  rw [e] at ul w64 uc sp tk ⊢
  rw [h1] at hv
  have d0 : decide ((0 : Int) > 0) = false := rfl
  simp -implicitDefEqProofs (maxSteps := 5000000) only [go_sem, Nat.reduceShiftRight, Nat.reduceAnd, Nat.reduceBNe, Int.reduceEq, Nat.reduceAdd, Nat.reduceSub, Nat.reduceMul, Nat.reduceLeDiff, reduceIte, reduceCtorEq, Nat.reduceBEq, Nat.reduceEqDiff, cells_old hc, hc, hv, hle, htk, d0, write_zero, store_one, w64, uc, sp, tk, rep_len, ul]
 ·have e : x.2.last = z := by unfold Sec.last; rw [hz]; rfl
  rw [e] at ul w64 uc sp tk ⊢
  rw [h1] at hv
  generalize x.2.vers.length = n at *
  have d0 : decide ((n : Int) > 0) = true := decide_eq_true (by omega)
  have e1 : IntKind.i64.wrap ((n : Int) - 1) = ((n - 1 : Nat) : Int) := by rw [wrap64 (by omega) (by omega)]; omega
  have ix := idx_nat b 64 n n (n - 1) false .i64 (by omega) (by omega)
  simp -implicitDefEqProofs (maxSteps := 5000000) only [go_sem, Nat.reduceShiftRight, Nat.reduceAnd, Nat.reduceBNe, Int.reduceEq, Nat.reduceAdd, Nat.reduceSub, Nat.reduceMul, Nat.reduceLeDiff, reduceIte, reduceCtorEq, Nat.reduceBEq, Nat.reduceEqDiff, cells_old hc, cells_old hc2, hc, hv, hc2, hle2, htk2, d0, e1, ix, write_zero, store_one, w64, uc, sp, tk, rep_len, ul]
set_option maxHeartbeats 1000000 in
theorem diskReadC {i : Nat} {x : AV × Sec} (hi : L[i]? = some x) : (envL prog).call 35 [.ptr p 0, .int .i64 (i : Int)] H = some (.tup [.agg (u8s x.2.last), .int .i64 0], H) := by
 have ok := (m.vs.at hi).2.1
 have lt : i < L.length := (List.getElem?_eq_some_iff.1 hi).1
 have a := fun B => m.fr (Fr.adds ⟨B, rfl⟩ (fun _ => False)) (fun _ _ h => h)
 have c1 := fun B => sectorC (a B) lt
 have c2 := fun B => lastC (a B) hi
 have ul := u8s_all x.2.last H.length
 have l64 := ok.last.1
 have w64 : (u8s x.2.last).length = 64 := by rw [u8s_len]; exact l64
 have uc := u8s_cell x.2.last
 have sp := splice_u8 (.int .u8 0) l64 (by omega)
 have tk := u8s_take l64
 rw [c35]
 unfold b35
 simp -implicitDefEqProofs (maxSteps := 5000000) only [go_sem, Nat.reduceShiftRight, Nat.reduceAnd, Nat.reduceBNe, Int.reduceEq, Nat.reduceAdd, Nat.reduceSub, Nat.reduceMul, Nat.reduceLeDiff, reduceIte, reduceCtorEq, Nat.reduceBEq, Nat.reduceEqDiff, c1, c2, write_zero, store_one, w64, uc, sp, tk, rep_len, ul]
set_option maxHeartbeats 1000000 in
theorem diskWriteC {i : Nat} {x : AV × Sec} (hi : L[i]? = some x) {z : List Int} (hz : B64 z) (hc : c + 1 ≤ 1000000000) : ∃ H' v, DK H' p d (c + 1) (L.set i (v, ⟨x.2.there, x.2.vers ++ [z]⟩)) ∧ (∃ b, slb v = some b ∧ H.length ≤ b) ∧ Fr H H' (fun b => b = d ∨ slb x.1 = some b) ∧
  (envL prog).call 37 [.ptr p 0, .int .i64 (i : Int), .agg (u8s z)] H = some (.int .i64 0, H') := by
 have lt : i < L.length := (List.getElem?_eq_some_iff.1 hi).1
 obtain ⟨cs, hcs, hv, hle, htk, _⟩ := m.row hi
 have a := fun B => m.fr (Fr.adds ⟨B, rfl⟩ (fun _ => False)) (fun _ _ h => h)
 have c1 := fun B => sectorC (a B) lt
 have l64 := hz.1
 have w64 : (u8s z).length = 64 := by rw [u8s_len]; exact l64
 have sp := splice_u8 (.int .u8 0) l64 (by omega)
 have tk := u8s_take l64
 obtain ⟨H3, H4, v, ha, hvc, hva, w, m4, hb, f, t⟩ := m.more hi hz hc [.rw (u8s z), .rw (u8s z)] (y := .sl (H.length + 1) 0 64 1 1 true) rfl (Src.block (k := 64) (n := 1) (show cellsOf (H ++ [ABlk.rw (u8s z), ABlk.rw (u8s z)]) (H.length + 1) = some (u8s z) by unfold cellsOf; simp) (by rw [w64]) (u8s_cell z)).cells
 refine ⟨H4, v, m4, hb, f, ?_⟩
 rw [c37]
 unfold b37
 simp -implicitDefEqProofs (maxSteps := 5000000) only [go_sem, Nat.reduceShiftRight, Nat.reduceAnd, Nat.reduceBNe, Int.reduceEq, Nat.reduceAdd, Nat.reduceSub, Nat.reduceMul, Nat.reduceLeDiff, reduceIte, reduceCtorEq, Nat.reduceBEq, Nat.reduceEqDiff, c1, cells_old hcs, hv, w64, sp, tk, ha, store_one, hva, w, t, rep_len]
set_option maxHeartbeats 1000000 in
theorem settleC {i : Nat} {x : AV × Sec} (hi : L[i]? = some x) {z : List Int} (hz : B64 z) : (envL prog).call 63 [.ptr d (i * 65), .agg (u8s z)] H = some (.tup [], setD H d (L.set i (.nilSl, ⟨z, []⟩))) := by
 have l64 := hz.1
 have w64 : (u8s z).length = 64 := by rw [u8s_len]; exact l64
 have tk := u8s_take l64
 have uc := u8s_cell z
 have hd := lt_of_at m.blk
 have hb : (H ++ [ABlk.rw (u8s z)])[d]? = some (.rw (L.map secR).flatten) := by rw [List.getElem?_append_left hd]; exact m.blk
 have w1 := DK.putT hb m.vs.ok hi l64
 have ok1 : ∀ y ∈ L.set i (x.1, ⟨z, x.2.vers⟩), y.2.Ok := fun y hy => by
  rcases mem_set hy with rfl | hy
  ·exact ⟨hz, (m.vs.at hi).2.1.v⟩
  ·exact m.vs.ok y hy
 have lt : i < L.length := (List.getElem?_eq_some_iff.1 hi).1
 have w2 := DK.putV (H := (H ++ [ABlk.rw (u8s z)]).set d (.rw ((L.set i (x.1, ⟨z, x.2.vers⟩)).map secR).flatten)) (at_set _ _ _ (by simp; omega)) ok1 (List.getElem?_set_self lt) (v := .nilSl) rfl []
 rw [List.set_set, List.set_set] at w2
 have e : (H ++ [ABlk.rw (u8s z)]).set d (.rw ((L.set i (.nilSl, ⟨z, []⟩)).map secR).flatten) = setD H d (L.set i (.nilSl, ⟨z, []⟩)) ++ [ABlk.rw (u8s z)] := by
  unfold setD
  rw [List.set_append_left _ _ hd]
 rw [e] at w2
 generalize hG : (H ++ [ABlk.rw (u8s z)]).set d (.rw ((L.set i (x.1, ⟨z, x.2.vers⟩)).map secR).flatten) = G at w1 w2
 have t : trim H (some (.tup [], setD H d (L.set i (.nilSl, ⟨z, []⟩)) ++ [ABlk.rw (u8s z)])) = some (.tup [], setD H d (L.set i (.nilSl, ⟨z, []⟩))) := by
  have ms := m.settle hi hz
  have hl : (setD H d (L.set i (.nilSl, ⟨z, []⟩))).length = H.length := by unfold setD; simp
  rw [trim_take (by simp [hl]) rfl (fun b k' hb hk => ?_)]
  ·rw [← hl, List.take_left]
  ·rw [List.getElem?_append_left (by omega)] at hk
   by_cases e : b = d
   ·subst e
    rw [ms.blk] at hk
    injection hk with hk; subst hk
    have := secR_under ms.vs
    rw [hl] at this
    exact .inr this
   ·unfold setD at hk
    rw [at_set_ne _ _ _ _ e] at hk
    exact .inl hk
 rw [c63]
 unfold b63
 simp -implicitDefEqProofs (maxSteps := 5000000) only [go_sem, Nat.reduceShiftRight, Nat.reduceAnd, Nat.reduceBNe, Int.reduceEq, Nat.reduceAdd, Nat.reduceSub, Nat.reduceMul, Nat.reduceLeDiff, reduceIte, reduceCtorEq, Nat.reduceBEq, Nat.reduceEqDiff, w64, uc, tk, store_one, w1, w2, t, rep_len]
end
end Go.Proofs.Ytipedaadjfhdnaa.G06
end
section
namespace Go.Proofs.Ytipedaadjfhdnaa.G06
open Go Go.Proofs.Ytipedaadjfhdnaa.Eng
def LooseY (y q p d n : Nat) (Y : Nat → AHeap → Prop) : Prop :=
 ∀ i K, Y i K → i < n → ∃ c L x, DK K p d c L ∧ L.length = n ∧ cellsOf K q = some [.ptr p 0] ∧ L[i]? = some x ∧ (x.2.vers = [] → Y (i + 1) K) ∧ (x.2.vers ≠ [] → ∃ K', Y (i + 1) K' ∧ (envL prog).yield y [.int .i64 (i : Int), .ptr d (i * 65)] K = some (.bool true, K'))
set_option maxHeartbeats 2000000 in
theorem looseL {y q p d n : Nat} {Y : Nat → AHeap → Prop} (hY : LooseY y q p d n Y) (hn : n ≤ 4096) (x2 x5 : AV) : ∀ (k i : Nat) (K : AHeap) (j3 j4 j8 j9 j10 j11 j12 j13 j14 j15 j16 j17 j18 j19 j20 j21 j22 j23 j24 j25 j26 : AV), Y i K → i + k = n →
  Outs (LQ l73x0 [.yld y, .ptr q 0, x2, j3, j4, x5, .int .i64 (n : Int), .int .i64 (i : Int), j8, j9, j10, j11, j12, j13, j14, j15, j16, j17, j18, j19, j20, j21, j22, j23, j24, j25, j26] K) fun e t K' => e = .exit 0 ∧ Y n K' ∧ ∃ k : Nat → AV, t = [.yld y, .ptr q 0, x2, (k 3), (k 4), x5, .int .i64 (n : Int), (k 7), (k 8), (k 9), (k 10), (k 11), (k 12), (k 13), (k 14), (k 15), (k 16), (k 17), (k 18), (k 19), (k 20), (k 21), (k 22), (k 23), (k 24), (k 25), (k 26)] := by
 intro k
 obtain ⟨L, hL⟩ : ∃ L, L = LQ l73x0 := ⟨_, rfl⟩
 have lo := loop_open hL
 rw [← hL]
 induction k with
 | zero =>
  intro i K j3 j4 j8 j9 j10 j11 j12 j13 j14 j15 j16 j17 j18 j19 j20 j21 j22 j23 j24 j25 j26 hK hi
  obtain rfl : i = n := by omega
  have hd : decide ((i : Int) < (i : Int)) = false := by simp
  rw [lo]
  unfold l73x0
  simp -implicitDefEqProofs (maxSteps := 5000000) only [go_sem, Nat.reduceShiftRight, Nat.reduceAnd, Nat.reduceBNe, Int.reduceEq, Nat.reduceAdd, Nat.reduceSub, Nat.reduceMul, Nat.reduceLeDiff, reduceIte, reduceCtorEq, Nat.reduceBEq, Nat.reduceEqDiff, hd, seqR_exit', outs_normal]
  exact ⟨hK, exF rfl⟩
 | succ k ih =>
  intro i K j3 j4 j8 j9 j10 j11 j12 j13 j14 j15 j16 j17 j18 j19 j20 j21 j22 j23 j24 j25 j26 hK hi
  have hlt : i < n := by omega
  have hd : decide ((i : Int) < (n : Int)) = true := decide_eq_true (by omega)
  have e2 : IntKind.i64.wrap ((i : Int) + 1) = ((i + 1 : Nat) : Int) := by rw [wrap64 (by omega) (by omega)]; omega
  obtain ⟨c, D, x, m, hDn, hq, hx, h0, h1⟩ := hY i K hK hlt
  have c1 := sectorC m (i := i) (by omega)
  obtain ⟨cs, hc, hv, hle, htk, _⟩ := m.row hx
  obtain ⟨gv, ok, cap⟩ := m.vs.at hx
  obtain ⟨hl, hr⟩ := ver_read gv ok
  rw [lo]
  unfold l73x0
  rcases hr with ⟨z0, z1⟩ | ⟨b, cs2, z, hz, z1, hp, _, _, _⟩
  ·rw [z1] at hv
   have d0 : decide ((0 : Int) > 0) = false := rfl
   simp -implicitDefEqProofs (maxSteps := 5000000) only [go_sem, Nat.reduceShiftRight, Nat.reduceAnd, Nat.reduceBNe, Int.reduceEq, Nat.reduceAdd, Nat.reduceSub, Nat.reduceMul, Nat.reduceLeDiff, reduceIte, reduceCtorEq, Nat.reduceBEq, Nat.reduceEqDiff, hd, hq, c1, hc, hv, d0, e2]
   exact ih (i + 1) K _ _ _ _ _ _ _ _ _ _ _ _ _ _ _ _ _ _ _ _ _ (h0 z0) (by omega)
  ·rw [z1] at hv
   obtain ⟨K', hK', hy⟩ := h1 (fun e => by rw [e] at hp; simp at hp)
   have d0 : decide ((x.2.vers.length : Int) > 0) = true := decide_eq_true (by omega)
   simp -implicitDefEqProofs (maxSteps := 5000000) only [go_sem, Nat.reduceShiftRight, Nat.reduceAnd, Nat.reduceBNe, Int.reduceEq, Nat.reduceAdd, Nat.reduceSub, Nat.reduceMul, Nat.reduceLeDiff, reduceIte, reduceCtorEq, Nat.reduceBEq, Nat.reduceEqDiff, hd, hq, c1, hc, hv, d0, e2, callV_yld, hy]
   exact ih (i + 1) K' _ _ _ _ _ _ _ _ _ _ _ _ _ _ _ _ _ _ _ _ _ hK' (by omega)
set_option maxHeartbeats 2000000 in
theorem looseC {y q p d n : Nat} {Y : Nat → AHeap → Prop} (hY : LooseY y q p d n Y) (hn : n ≤ 4096) {K : AHeap} (hK : Y 0 K) (hq : cellsOf K q = some [.ptr p 0]) {c : Nat} {L : List (AV × Sec)} (m : DK K p d c L) (hLn : L.length = n) :
  ∃ K', Y n K' ∧ (envL prog).call 73 [.yld y, .ptr q 0] K = trim K (some (.tup [], K')) := by
 have l0 := looseL hY hn (k := n) (i := 0)
 rw [show ((0 : Nat) : Int) = 0 from rfl] at l0
 have c1 := diskLenC m
 rw [hLn] at c1
 have o : Outs (runC (envL prog) (b73 (envL prog)) ([.yld y, .ptr q 0] ++ List.replicate (27 - [AV.yld y, .ptr q 0].length) .undef) K) fun e' t K' => Y n K' ∧ fin [] (some (e', t, K')) = some (.tup [], K') := by
  unfold b73
  generalize hQ : (fun (e' : Ex) (t : T) (K' : AHeap) => Y n K' ∧ fin [] (some (e', t, K')) = some (.tup [], K')) = Q
  simp -implicitDefEqProofs (maxSteps := 5000000) only [go_sem, Nat.reduceShiftRight, Nat.reduceAnd, Nat.reduceBNe, Int.reduceEq, Nat.reduceAdd, Nat.reduceSub, Nat.reduceMul, Nat.reduceLeDiff, reduceIte, reduceCtorEq, Nat.reduceBEq, Nat.reduceEqDiff, runC_loop, hq, c1]
  unfold LQ at l0
  generalize (envL prog).loop (runC (envL prog) (l73x0 (envL prog))) = L0 at l0 ⊢
  refine outs_ctx (fun r => blockR 0 r) (l0 _ _ _ _ _ _ _ _ _ _ _ _ _ _ _ _ _ _ _ _ _ _ _ _ hK (by omega)) ?_
  rintro e t H' ⟨rfl, hK', k, rfl⟩
  simp -implicitDefEqProofs (maxSteps := 5000000) only [go_sem, Nat.reduceShiftRight, Nat.reduceAnd, Nat.reduceBNe, Int.reduceEq, Nat.reduceAdd, Nat.reduceSub, Nat.reduceMul, Nat.reduceLeDiff, reduceIte, reduceCtorEq, Nat.reduceBEq, Nat.reduceEqDiff, outs_normal]
  subst hQ
  refine ⟨hK', ?_⟩
  simp -implicitDefEqProofs (maxSteps := 5000000) only [go_sem, Nat.reduceShiftRight, Nat.reduceAnd, Nat.reduceBNe, Int.reduceEq, Nat.reduceAdd, Nat.reduceSub, Nat.reduceMul, Nat.reduceLeDiff, reduceIte, reduceCtorEq, Nat.reduceBEq, Nat.reduceEqDiff]
 obtain ⟨e', t, H', hr, hK', hf⟩ := o
 exact ⟨H', hK', by rw [c73, hr, hf]⟩
theorem loose0 {p : Nat} (H : AHeap) : (envL prog).call 62 [.ptr p 0] H = some (.fn 73 [.ptr H.length 0], H ++ [.rw [.ptr p 0]]) := by
 rw [c62]
 unfold b62
 simp -implicitDefEqProofs (maxSteps := 5000000) only [go_sem, Nat.reduceShiftRight, Nat.reduceAnd, Nat.reduceBNe, Int.reduceEq, Nat.reduceAdd, Nat.reduceSub, Nat.reduceMul, Nat.reduceLeDiff, reduceIte, reduceCtorEq, Nat.reduceBEq, Nat.reduceEqDiff]
 exact trim_keep (by simp [AV.under, underAll])
def flX (x : AV × Sec) : AV × Sec := (.nilSl, ⟨x.2.last, []⟩)
def flL (L : List (AV × Sec)) (i : Nat) : List (AV × Sec) := (L.take i).map flX ++ L.drop i
theorem flL_len (L : List (AV × Sec)) {i : Nat} (h : i ≤ L.length) : (flL L i).length = L.length := by unfold flL; simp; omega
theorem flL_get {L : List (AV × Sec)} {i : Nat} (h : i < L.length) : (flL L i)[i]? = L[i]? := by
 unfold flL
 rw [List.getElem?_append_right (by simp; omega), List.getElem?_drop]
 congr 1
 simp; omega
theorem flL_step {L : List (AV × Sec)} {i : Nat} {x : AV × Sec} (h : L[i]? = some x) : flL L (i + 1) = (flL L i).set i (flX x) := by
 have lt := (List.getElem?_eq_some_iff.1 h).1
 have e := (List.getElem?_eq_some_iff.1 h).2
 unfold flL
 rw [List.take_add_one, h, List.map_append, List.set_append_right _ _ (by simp; omega), List.append_assoc, List.drop_eq_getElem_cons lt, e]
 rw [show i - ((L.take i).map flX).length = 0 by simp; omega]
 rfl
theorem flL_all (L : List (AV × Sec)) : flL L L.length = L.map flX := by unfold flL; simp
set_option maxHeartbeats 2000000 in
theorem diskFlushC {H : AHeap} {p d c : Nat} {L : List (AV × Sec)} (m : DK H p d c L) : ∃ H', DK H' p d c (L.map flX) ∧ KeepB H H' [d] ∧ (envL prog).call 53 [.ptr p 0] H = some (.int .i64 0, H') := by
 have hd := lt_of_at m.blk
 have hp := lt_of_cells m.ptr
 have it : ∀ t : T, t.length = 15 → ∃ K, (envL prog).call 73 [.yld (H.length + 1), .ptr H.length 0] (H ++ [.rw [.ptr p 0], .loop ⟨.ready, .normal, t, [9, 10], kaq53x0, kbq53x0⟩]) = some (.tup [], K) ∧
   K.length = H.length + 2 ∧ K[H.length + 1]? = some (.loop ⟨.ready, .normal, t, [9, 10], kaq53x0, kbq53x0⟩) ∧ DK K p d c (L.map flX) ∧ ∀ b, b < H.length → b ≠ d → K[b]? = H[b]? := by
  intro T hT
  let Y : Nat → AHeap → Prop := fun i K => K.length = H.length + 2 ∧ K[H.length + 1]? = some (.loop ⟨.ready, .normal, T, [9, 10], kaq53x0, kbq53x0⟩) ∧ cellsOf K H.length = some [.ptr p 0] ∧ DK K p d c (flL L i) ∧ ∀ b, b < H.length → b ≠ d → K[b]? = H[b]?
  have hY : LooseY (H.length + 1) H.length p d L.length Y := by
   intro i K ⟨y1, y2, y3, y4, y5⟩ hi
   obtain ⟨x, hx⟩ : ∃ x, L[i]? = some x := ⟨_, List.getElem?_eq_getElem hi⟩
   have hx2 : (flL L i)[i]? = some x := by rw [flL_get hi, hx]
   refine ⟨c, flL L i, x, y4, flL_len L (by omega), y3, hx2, fun h0 => ⟨y1, y2, y3, ?_, y5⟩, fun h1 => ?_⟩
   ·have e : flX x = x := by
     have g := (y4.vs.at hx2).1
     obtain ⟨v, s, t⟩ := x
     have h0 : t = [] := h0
     subst h0
     rcases g with ⟨_, hv⟩ | ⟨hv, _⟩
     ·have hv : v = .nilSl := hv
      subst hv; rfl
     ·exact absurd rfl hv
    rw [flL_step hx, e, show (flL L i).set i x = flL L i from by
     apply List.ext_getElem?; intro j
     by_cases ej : i = j
     ·subst ej; rw [List.getElem?_set_self (List.getElem?_eq_some_iff.1 hx2).1, hx2]
     ·rw [List.getElem?_set_ne ej]]
    exact y4
   ·have f1 : Fr K (K.set (H.length + 1) (.loop ⟨.busy, .normal, T, [9, 10], kaq53x0, kbq53x0⟩)) (· = H.length + 1) := Fr.set _ _ rfl
    have nfp : ∀ b, fpD p d (flL L i) b → ¬ (b = H.length + 1) := fun b hb e => by
     have := y4.vs.ok
     rcases hb with rfl | rfl | hb
     ·omega
     ·omega
     ·obtain ⟨z, hz, hb⟩ := hb
      rcases y4.vs.ver z hz with ⟨_, h0⟩ | ⟨_, b', _, h0, hH⟩
      ·rw [h0] at hb; cases hb
      ·rw [h0] at hb; injection hb with hb; subst hb; subst e; rw [y2] at hH; cases hH
    have m1 := y4.fr f1 nfp
    have c1 := lastC m1 hx2
    have okl : B64 x.2.last := (y4.vs.at hx2).2.1.last
    have c2 := settleC m1 hx2 okl
    have m2 := m1.settle hx2 okl
    generalize hK1 : K.set (H.length + 1) (.loop ⟨.busy, .normal, T, [9, 10], kaq53x0, kbq53x0⟩) = K1 at *
    have l1 : K1.length = H.length + 2 := by rw [← hK1, List.length_set]; exact y1
    have b1 : K1[H.length + 1]? = some (.loop ⟨.busy, .normal, T, [9, 10], kaq53x0, kbq53x0⟩) := by rw [← hK1]; exact at_set _ _ _ (by omega)
    have st := yield_step (P := prog) (l := H.length + 1) (args := [.int .i64 (i : Int), .ptr d (i * 65)]) (K := K) (eaq53x0 _) (ebq53x0 _) y2 rfl
     (t1 := ((T.set 9 (.int .i64 (i : Int))).set 10 (.ptr d (i * 65))).set 4 (.ptr d (i * 65))) (by
      unfold aq53x0
      simp -implicitDefEqProofs (maxSteps := 5000000) only [go_sem, Nat.reduceShiftRight, Nat.reduceAnd, Nat.reduceBNe, Int.reduceEq, Nat.reduceAdd, Nat.reduceSub, Nat.reduceMul, Nat.reduceLeDiff, reduceIte, reduceCtorEq, Nat.reduceBEq, Nat.reduceEqDiff, putParams, getT_set, hT, List.length_set, Nat.reduceLT])
     (ex := .normal) (t2 := ((((((T.set 9 (.int .i64 (i : Int))).set 10 (.ptr d (i * 65))).set 4 (.ptr d (i * 65))).set 11 (.ptr d (i * 65))).set 12 (.ptr d (i * 65))).set 13 (.agg (u8s x.2.last))).set 14 (.tup [])) (K2 := setD K1 d ((flL L i).set i (.nilSl, ⟨x.2.last, []⟩))) (L2 := ⟨.busy, .normal, T, [9, 10], kaq53x0, kbq53x0⟩) (by
      rw [hK1]
      unfold bq53x0
      simp -implicitDefEqProofs (maxSteps := 5000000) only [go_sem, Nat.reduceShiftRight, Nat.reduceAnd, Nat.reduceBNe, Int.reduceEq, Nat.reduceAdd, Nat.reduceSub, Nat.reduceMul, Nat.reduceLeDiff, reduceIte, reduceCtorEq, Nat.reduceBEq, Nat.reduceEqDiff, getT_set, hT, List.length_set, Nat.reduceLT, c1, c2])
     (by unfold setD; rw [at_set_ne _ _ _ _ (by omega), b1])
    refine ⟨_, ?_, st.trans (trim_same (by unfold setD; simp [l1, y1]))⟩
    have f2 : Fr (setD K1 d ((flL L i).set i (.nilSl, ⟨x.2.last, []⟩))) ((setD K1 d ((flL L i).set i (.nilSl, ⟨x.2.last, []⟩))).set (H.length + 1) (.loop ⟨.ready, .normal, T, [9, 10], kaq53x0, kbq53x0⟩)) (· = H.length + 1) := Fr.set _ _ rfl
    have l2 : (setD K1 d ((flL L i).set i (.nilSl, ⟨x.2.last, []⟩))).length = H.length + 2 := by unfold setD; rw [List.length_set]; exact l1
    refine ⟨by rw [List.length_set]; exact l2, at_set _ _ _ (by omega), ?_, ?_, fun b hb hne => ?_⟩
    ·exact f2.cells (b := H.length) (cs := [.ptr p 0]) (by unfold setD; rw [cells_set_ne _ _ _ _ (by omega), ← hK1, cells_set_ne _ _ _ _ (by omega)]; exact y3) (by omega)
    ·rw [flL_step hx]
     refine m2.fr f2 fun b hb => ?_
     rcases hb with rfl | rfl | hb
     ·omega
     ·omega
     ·rcases fpV_set hb with hb | hb
      ·cases hb
      ·exact nfp b (.inr (.inr hb))
    ·rw [at_set_ne _ _ _ _ (by omega)]
     unfold setD
     rw [at_set_ne _ _ _ _ hne, ← hK1, at_set_ne _ _ _ _ (by omega)]
     exact y5 b hb hne
  have y0 : Y 0 (H ++ [.rw [.ptr p 0], .loop ⟨.ready, .normal, T, [9, 10], kaq53x0, kbq53x0⟩]) := by
   refine ⟨by simp, by simp, by unfold cellsOf; simp, ?_, fun b hb _ => List.getElem?_append_left hb⟩
   unfold flL
   rw [List.take_zero, List.map_nil, List.nil_append, List.drop_zero]
   exact m.fr (Fr.adds ⟨_, rfl⟩ (fun _ => False)) (fun _ _ h => h)
  obtain ⟨K, hK, e⟩ := looseC hY m.sz y0 y0.2.2.1 (m.fr (Fr.adds ⟨_, rfl⟩ (fun _ => False)) (fun _ _ h => h)) rfl
  obtain ⟨k1, k2, k3, k4, k5⟩ := hK
  rw [flL_all] at k4
  refine ⟨K, ?_, k1, k2, k4, k5⟩
  rw [e]
  exact trim_same (by rw [k1]; simp)
 obtain ⟨KK, hKK⟩ := skolem_len it
 have e1 := fun t ht => (hKK t ht).1
 have e2 := fun t ht => (hKK t ht).2.2.1
 have l0 := loose0 (p := p) H
 have o : Outs (runC (envL prog) (b53 (envL prog)) ([.ptr p 0] ++ List.replicate (15 - [AV.ptr p 0].length) .undef) H) fun e' t K' => (∃ t' : T, t'.length = 15 ∧ K' = (KK t').set (H.length + 1) (.loop ⟨.exhausted, .normal, t', [9, 10], kaq53x0, kbq53x0⟩)) ∧ fin [.tmp 2] (some (e', t, K')) = some (.int .i64 0, K') := by
  unfold b53
  generalize hQ : (fun (e' : Ex) (t : T) (K' : AHeap) => (∃ t' : T, t'.length = 15 ∧ K' = (KK t').set (H.length + 1) (.loop ⟨.exhausted, .normal, t', [9, 10], kaq53x0, kbq53x0⟩)) ∧ fin [.tmp 2] (some (e', t, K')) = some (AV.int .i64 0, K')) = Q
  simp -implicitDefEqProofs (maxSteps := 5000000) only [go_sem, Nat.reduceShiftRight, Nat.reduceAnd, Nat.reduceBNe, Int.reduceEq, Nat.reduceAdd, Nat.reduceSub, Nat.reduceMul, Nat.reduceLeDiff, reduceIte, reduceCtorEq, Nat.reduceBEq, Nat.reduceEqDiff, l0, runC_range, callF_fn, e1, rangeEnd, e2, outs_normal]
  subst hQ
  refine ⟨⟨_, rfl, rfl⟩, ?_⟩
  simp -implicitDefEqProofs (maxSteps := 5000000) only [go_sem, Nat.reduceShiftRight, Nat.reduceAnd, Nat.reduceBNe, Int.reduceEq, Nat.reduceAdd, Nat.reduceSub, Nat.reduceMul, Nat.reduceLeDiff, reduceIte, reduceCtorEq, Nat.reduceBEq, Nat.reduceEqDiff]
 obtain ⟨e', t, K', hr, ⟨t', ht, rfl⟩, hf⟩ := o
 obtain ⟨_, k1, k2, k4, k5⟩ := hKK t' ht
 have hl : ((KK t').set (H.length + 1) (.loop ⟨.exhausted, .normal, t', [9, 10], kaq53x0, kbq53x0⟩)).length = H.length + 2 := by rw [List.length_set]; exact k1
 have fK : Fr H ((KK t').set (H.length + 1) (.loop ⟨.exhausted, .normal, t', [9, 10], kaq53x0, kbq53x0⟩)) (· = d) := ⟨by omega, fun b hb hn => by
  rw [at_set_ne _ _ _ _ (by omega)]; exact k5 b hb hn⟩
 have dk : DK (((KK t').set (H.length + 1) (.loop ⟨.exhausted, .normal, t', [9, 10], kaq53x0, kbq53x0⟩)).take H.length) p d c (L.map flX) := by
  have nv : ∀ b, ¬ fpV (L.map flX) b := fun b ⟨x, hx, hb⟩ => by
   obtain ⟨y, _, rfl⟩ := List.mem_map.1 hx; cases hb
  refine ⟨?_, ?_, m.np, by rw [List.length_map]; exact m.sz, ⟨m.vs.cb, fun x hx => ?_, k4.vs.ok, k4.vs.cap, k4.vs.out, k4.vs.inj⟩⟩
  ·rw [take_cells hp, cells_set_ne _ _ _ _ (by omega)]; exact k4.ptr
  ·rw [take_get hd, at_set_ne _ _ _ _ (by omega)]; exact k4.blk
  ·obtain ⟨y, _, rfl⟩ := List.mem_map.1 hx
   exact .inl ⟨rfl, rfl⟩
 refine ⟨_, dk, ⟨take_len fK.1, fun b hb => ?_⟩, ?_⟩
 ·by_cases hlt : b < H.length
  ·exact (take_get hlt).trans (fK.2 b hlt (by simpa using hb))
  ·rw [List.getElem?_eq_none (by rw [take_len fK.1]; omega), List.getElem?_eq_none (by omega)]
 ·rw [c53, hr, hf]
  refine trim_take fK.1 rfl fun b k' hb hk => ?_
  by_cases e : b = d
  ·subst e
   rw [at_set_ne _ _ _ _ (by omega), k4.blk] at hk
   injection hk with hk; subst hk
   refine .inr fun a ha => ?_
   obtain ⟨r, hr, ha⟩ := List.mem_flatten.1 ha
   obtain ⟨x, hx, rfl⟩ := List.mem_map.1 hr
   obtain ⟨y, _, rfl⟩ := List.mem_map.1 hx
   rcases List.mem_append.1 ha with ha | ha
   ·exact u8s_under _ _ a ha
   ·simp only [flX, List.mem_cons, List.not_mem_nil, or_false] at ha
    subst ha; rfl
  ·exact .inl ((fK.2 b hb e).symm.trans hk)
end Go.Proofs.Ytipedaadjfhdnaa.G06
end
section
namespace Go.Proofs.Ytipedaadjfhdnaa.G06
open Go Go.Proofs.Ytipedaadjfhdnaa.Eng
noncomputable abbrev LQB (l : Env → CT) := (envL prog).loop (runC (envL prog) (l (envL prog)))
noncomputable abbrev tyB : TyD := ty 64 true 64 (rep 64 (.int .u8 0))
def totB (Xs : List (AV × Nat × List AV)) : Nat := (Xs.map fun x => x.2.1).sum
def catB (Xs : List (AV × Nat × List AV)) : List AV := (Xs.map fun x => x.2.2).flatten
section
variable {H : AHeap} {a : Nat} {Xs : List (AV × Nat × List AV)} (ha : cellsOf H a = some (Xs.map fun x => x.1)) (hs : ∀ x ∈ Xs, Src 64 H x.1 x.2.1 x.2.2) (ht : totB Xs ≤ 2000000000) (hX : Xs.length ≤ 1000)
include ha hs ht hX
def OutB (H : AHeap) (Xs : List (AV × Nat × List AV)) (i : Nat) (l : AV) (H' : AHeap) : Prop :=
 (totB Xs = 0 ∧ l = .nilSl ∧ H' = H) ∨ (totB Xs ≠ 0 ∧ l = .sl H.length 0 64 (totB (Xs.take i)) (totB Xs) false ∧ ∃ Z : List AV, Z.length + totB (Xs.take i) * 64 = totB Xs * 64 ∧ H' = H ++ [.rw (catB (Xs.take i) ++ Z)])
end
end Go.Proofs.Ytipedaadjfhdnaa.G06
end
section
namespace Go.Proofs.Ytipedaadjfhdnaa.G06
open Go Go.Proofs.Ytipedaadjfhdnaa.Eng
end Go.Proofs.Ytipedaadjfhdnaa.G06
end
