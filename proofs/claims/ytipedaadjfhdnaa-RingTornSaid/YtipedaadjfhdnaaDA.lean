/- What the functions that RingTorn reaches answer, for every argument. No condition but those in each statement. -/
import Derived.Test.YtipedaadjfhdnaaN
import Derived.Test.YtipedaadjfhdnaaE6
set_option linter.unusedSimpArgs false
set_option linter.unusedVariables false
set_option linter.unusedSectionVars false
set_option maxRecDepth 10000
section
namespace Go.Proofs.Ytipedaadjfhdnaa.G06
open Go Go.Proofs.Ytipedaadjfhdnaa.Eng
noncomputable abbrev LQ (l : Env → CT) := (envL prog).loop (runC (envL prog) (l (envL prog)))
theorem diskLenN (h : AHeap) : (envL prog).call 34 [.nilPtr] h = some (.int .i64 0, h) := by
 rw [c34]
 unfold b34
 simp -implicitDefEqProofs (maxSteps := 5000000) only [go_sem, Nat.reduceShiftRight, Nat.reduceAnd, Nat.reduceBNe, Int.reduceEq, Nat.reduceAdd, Nat.reduceSub, Nat.reduceMul, Nat.reduceLeDiff, reduceIte, reduceCtorEq, Nat.reduceBEq, Nat.reduceEqDiff]
section
variable {H : AHeap} {p d c : Nat} {L : List (AV × Sec)} (m : DK H p d c L)
include m
theorem diskLenC : (envL prog).call 34 [.ptr p 0] H = some (.int .i64 (L.length : Int), H) := by
 have hm := m.ptr
 rw [c34]
 unfold b34
 simp -implicitDefEqProofs (maxSteps := 5000000) only [go_sem, Nat.reduceShiftRight, Nat.reduceAnd, Nat.reduceBNe, Int.reduceEq, Nat.reduceAdd, Nat.reduceSub, Nat.reduceMul, Nat.reduceLeDiff, reduceIte, reduceCtorEq, Nat.reduceBEq, Nat.reduceEqDiff, hm]
theorem sectorC {i : Nat} (hi : i < L.length) : (envL prog).call 54 [.ptr p 0, .int .i64 (i : Int)] H = some (.ptr d (i * 65), H) := by
 have hm := m.ptr
 have hl := diskLenC m
 have ix := idx_nat d 65 L.length L.length i true .i64 (by omega) hi
 have d1 : decide ((i : Int) < 0) = false := decide_eq_false (by omega)
 have d2 : decide ((i : Int) ≥ (L.length : Int)) = false := decide_eq_false (by omega)
 have u := lt_of_at m.blk
 have hu : (AV.ptr d (i * 65)).under H.length = true := by simp [AV.under, u]
 rw [c54]
 unfold b54
 simp -implicitDefEqProofs (maxSteps := 5000000) only [go_sem, Nat.reduceShiftRight, Nat.reduceAnd, Nat.reduceBNe, Int.reduceEq, Nat.reduceAdd, Nat.reduceSub, Nat.reduceMul, Nat.reduceLeDiff, reduceIte, reduceCtorEq, Nat.reduceBEq, Nat.reduceEqDiff, hm, hl, d1, d2, ix, hu]
set_option maxHeartbeats 1000000 in
theorem lastC {i : Nat} {x : AV × Sec} (hi : L[i]? = some x) : (envL prog).call 55 [.ptr d (i * 65)] H = some (.agg (u8s x.2.last), H) := by
 obtain ⟨cs, hc, hv, hle, htk, _⟩ := m.row hi
 obtain ⟨gv, ok, cap⟩ := m.vs.at hi
 have cb := m.vs.cb
 obtain ⟨hl, hr⟩ := ver_read gv ok
 have ul := u8s_all x.2.last H.length
 have l64 := ok.last.1
 have w64 : (u8s x.2.last).length = 64 := by rw [u8s_len]; exact l64
 have uc := u8s_cell x.2.last
 have sp := splice_u8 (.int .u8 0) l64 (by omega)
 have tk := u8s_take l64
 rw [c55]
 unfold b55
 rcases hr with ⟨h0, h1⟩ | ⟨b, cs2, z, hz, h1, hp, hc2, hle2, htk2⟩
 ·have e : x.2.last = x.2.there := by unfold Sec.last; rw [h0]; rfl
  rw [e] at ul w64 uc sp tk ⊢
  rw [h1] at hv
  have d0 : decide ((0 : Int) > 0) = false := rfl
  simp -implicitDefEqProofs (maxSteps := 5000000) only [go_sem, Nat.reduceShiftRight, Nat.reduceAnd, Nat.reduceBNe, Int.reduceEq, Nat.reduceAdd, Nat.reduceSub, Nat.reduceMul, Nat.reduceLeDiff, reduceIte, reduceCtorEq, Nat.reduceBEq, Nat.reduceEqDiff, cells_old hc, hc, hv, hle, htk, d0, write_zero, store_one, w64, uc, sp, tk, rep_len, ul]
 ·have e : x.2.last = z := by unfold Sec.last; rw [hz]; rfl
  rw [e] at ul w64 uc sp tk ⊢
  rw [h1] at hv
  generalize x.2.vers.length = n at *
  have d0 : decide ((n : Int) > 0) = true := decide_eq_true (by omega)
  have e1 : IntKind.i64.wrap ((n : Int) - 1) = ((n - 1 : Nat) : Int) := by rw [wrap64 (by omega) (by omega)]; omega
  have ix := idx_nat b 64 n n (n - 1) false .i64 (by omega) (by omega)
  simp -implicitDefEqProofs (maxSteps := 5000000) only [go_sem, Nat.reduceShiftRight, Nat.reduceAnd, Nat.reduceBNe, Int.reduceEq, Nat.reduceAdd, Nat.reduceSub, Nat.reduceMul, Nat.reduceLeDiff, reduceIte, reduceCtorEq, Nat.reduceBEq, Nat.reduceEqDiff, cells_old hc, cells_old hc2, hc, hv, hc2, hle2, htk2, d0, e1, ix, write_zero, store_one, w64, uc, sp, tk, rep_len, ul]
set_option maxHeartbeats 1000000 in
theorem diskReadC {i : Nat} {x : AV × Sec} (hi : L[i]? = some x) : (envL prog).call 35 [.ptr p 0, .int .i64 (i : Int)] H = some (.tup [.agg (u8s x.2.last), .int .i64 0], H) := by
 have ok := (m.vs.at hi).2.1
 have lt : i < L.length := (List.getElem?_eq_some_iff.1 hi).1
 have a := fun B => m.fr (Fr.adds ⟨B, rfl⟩ (fun _ => False)) (fun _ _ h => h)
 have c1 := fun B => sectorC (a B) lt
 have c2 := fun B => lastC (a B) hi
 have ul := u8s_all x.2.last H.length
 have l64 := ok.last.1
 have w64 : (u8s x.2.last).length = 64 := by rw [u8s_len]; exact l64
 have uc := u8s_cell x.2.last
 have sp := splice_u8 (.int .u8 0) l64 (by omega)
 have tk := u8s_take l64
 rw [c35]
 unfold b35
 simp -implicitDefEqProofs (maxSteps := 5000000) only [go_sem, Nat.reduceShiftRight, Nat.reduceAnd, Nat.reduceBNe, Int.reduceEq, Nat.reduceAdd, Nat.reduceSub, Nat.reduceMul, Nat.reduceLeDiff, reduceIte, reduceCtorEq, Nat.reduceBEq, Nat.reduceEqDiff, c1, c2, write_zero, store_one, w64, uc, sp, tk, rep_len, ul]
set_option maxHeartbeats 1000000 in
theorem diskWriteC {i : Nat} {x : AV × Sec} (hi : L[i]? = some x) {z : List Int} (hz : B64 z) (hc : c + 1 ≤ 1000000000) : ∃ H' v, DK H' p d (c + 1) (L.set i (v, ⟨x.2.there, x.2.vers ++ [z]⟩)) ∧ (∃ b, slb v = some b ∧ H.length ≤ b) ∧ Fr H H' (fun b => b = d ∨ slb x.1 = some b) ∧
  (envL prog).call 37 [.ptr p 0, .int .i64 (i : Int), .agg (u8s z)] H = some (.int .i64 0, H') := by
 have lt : i < L.length := (List.getElem?_eq_some_iff.1 hi).1
 obtain ⟨cs, hcs, hv, hle, htk, _⟩ := m.row hi
 have a := fun B => m.fr (Fr.adds ⟨B, rfl⟩ (fun _ => False)) (fun _ _ h => h)
 have c1 := fun B => sectorC (a B) lt
 have l64 := hz.1
 have w64 : (u8s z).length = 64 := by rw [u8s_len]; exact l64
 have sp := splice_u8 (.int .u8 0) l64 (by omega)
 have tk := u8s_take l64
 obtain ⟨H3, H4, v, ha, hvc, hva, w, m4, hb, f, t⟩ := m.more hi hz hc [.rw (u8s z), .rw (u8s z)] (y := .sl (H.length + 1) 0 64 1 1 true) rfl (Src.block (k := 64) (n := 1) (show cellsOf (H ++ [ABlk.rw (u8s z), ABlk.rw (u8s z)]) (H.length + 1) = some (u8s z) by unfold cellsOf; simp) (by rw [w64]) (u8s_cell z)).cells
 refine ⟨H4, v, m4, hb, f, ?_⟩
 rw [c37]
 unfold b37
 simp -implicitDefEqProofs (maxSteps := 5000000) only [go_sem, Nat.reduceShiftRight, Nat.reduceAnd, Nat.reduceBNe, Int.reduceEq, Nat.reduceAdd, Nat.reduceSub, Nat.reduceMul, Nat.reduceLeDiff, reduceIte, reduceCtorEq, Nat.reduceBEq, Nat.reduceEqDiff, c1, cells_old hcs, hv, w64, sp, tk, ha, store_one, hva, w, t, rep_len]
set_option maxHeartbeats 1000000 in
theorem settleC {i : Nat} {x : AV × Sec} (hi : L[i]? = some x) {z : List Int} (hz : B64 z) : (envL prog).call 63 [.ptr d (i * 65), .agg (u8s z)] H = some (.tup [], setD H d (L.set i (.nilSl, ⟨z, []⟩))) := by
 have l64 := hz.1
 have w64 : (u8s z).length = 64 := by rw [u8s_len]; exact l64
 have tk := u8s_take l64
 have uc := u8s_cell z
 have hd := lt_of_at m.blk
 have hb : (H ++ [ABlk.rw (u8s z)])[d]? = some (.rw (L.map secR).flatten) := by rw [List.getElem?_append_left hd]; exact m.blk
 have w1 := DK.putT hb m.vs.ok hi l64
 have ok1 : ∀ y ∈ L.set i (x.1, ⟨z, x.2.vers⟩), y.2.Ok := fun y hy => by
  rcases mem_set hy with rfl | hy
  ·exact ⟨hz, (m.vs.at hi).2.1.v⟩
  ·exact m.vs.ok y hy
 have lt : i < L.length := (List.getElem?_eq_some_iff.1 hi).1
 have w2 := DK.putV (H := (H ++ [ABlk.rw (u8s z)]).set d (.rw ((L.set i (x.1, ⟨z, x.2.vers⟩)).map secR).flatten)) (at_set _ _ _ (by simp; omega)) ok1 (List.getElem?_set_self lt) (v := .nilSl) rfl []
 rw [List.set_set, List.set_set] at w2
 have e : (H ++ [ABlk.rw (u8s z)]).set d (.rw ((L.set i (.nilSl, ⟨z, []⟩)).map secR).flatten) = setD H d (L.set i (.nilSl, ⟨z, []⟩)) ++ [ABlk.rw (u8s z)] := by
  unfold setD
  rw [List.set_append_left _ _ hd]
 rw [e] at w2
 generalize hG : (H ++ [ABlk.rw (u8s z)]).set d (.rw ((L.set i (x.1, ⟨z, x.2.vers⟩)).map secR).flatten) = G at w1 w2
 have t : trim H (some (.tup [], setD H d (L.set i (.nilSl, ⟨z, []⟩)) ++ [ABlk.rw (u8s z)])) = some (.tup [], setD H d (L.set i (.nilSl, ⟨z, []⟩))) := by
  have ms := m.settle hi hz
  have hl : (setD H d (L.set i (.nilSl, ⟨z, []⟩))).length = H.length := by unfold setD; simp
  rw [trim_take (by simp [hl]) rfl (fun b k' hb hk => ?_)]
  ·rw [← hl, List.take_left]
  ·rw [List.getElem?_append_left (by omega)] at hk
   by_cases e : b = d
   ·subst e
    rw [ms.blk] at hk
    injection hk with hk; subst hk
    have := secR_under ms.vs
    rw [hl] at this
    exact .inr this
   ·unfold setD at hk
    rw [at_set_ne _ _ _ _ e] at hk
    exact .inl hk
 rw [c63]
 unfold b63
 simp -implicitDefEqProofs (maxSteps := 5000000) only [go_sem, Nat.reduceShiftRight, Nat.reduceAnd, Nat.reduceBNe, Int.reduceEq, Nat.reduceAdd, Nat.reduceSub, Nat.reduceMul, Nat.reduceLeDiff, reduceIte, reduceCtorEq, Nat.reduceBEq, Nat.reduceEqDiff, w64, uc, tk, store_one, w1, w2, t, rep_len]
end
end Go.Proofs.Ytipedaadjfhdnaa.G06
end
section
namespace Go.Proofs.Ytipedaadjfhdnaa.G06
open Go Go.Proofs.Ytipedaadjfhdnaa.Eng
def LooseY (y q p d n : Nat) (Y : Nat → AHeap → Prop) : Prop :=
 ∀ i K, Y i K → i < n → ∃ c L x, DK K p d c L ∧ L.length = n ∧ cellsOf K q = some [.ptr p 0] ∧ L[i]? = some x ∧ (x.2.vers = [] → Y (i + 1) K) ∧ (x.2.vers ≠ [] → ∃ K', Y (i + 1) K' ∧ (envL prog).yield y [.int .i64 (i : Int), .ptr d (i * 65)] K = some (.bool true, K'))
set_option maxHeartbeats 2000000 in
theorem looseL {y q p d n : Nat} {Y : Nat → AHeap → Prop} (hY : LooseY y q p d n Y) (hn : n ≤ 4096) (x2 x5 : AV) : ∀ (k i : Nat) (K : AHeap) (j3 j4 j8 j9 j10 j11 j12 j13 j14 j15 j16 j17 j18 j19 j20 j21 j22 j23 j24 j25 j26 : AV), Y i K → i + k = n →
  Outs (LQ l73x0 [.yld y, .ptr q 0, x2, j3, j4, x5, .int .i64 (n : Int), .int .i64 (i : Int), j8, j9, j10, j11, j12, j13, j14, j15, j16, j17, j18, j19, j20, j21, j22, j23, j24, j25, j26] K) fun e t K' => e = .exit 0 ∧ Y n K' ∧ ∃ k : Nat → AV, t = [.yld y, .ptr q 0, x2, (k 3), (k 4), x5, .int .i64 (n : Int), (k 7), (k 8), (k 9), (k 10), (k 11), (k 12), (k 13), (k 14), (k 15), (k 16), (k 17), (k 18), (k 19), (k 20), (k 21), (k 22), (k 23), (k 24), (k 25), (k 26)] := by
 intro k
 obtain ⟨L, hL⟩ : ∃ L, L = LQ l73x0 := ⟨_, rfl⟩
 have lo := loop_open hL
 rw [← hL]
 induction k with
 | zero =>
  intro i K j3 j4 j8 j9 j10 j11 j12 j13 j14 j15 j16 j17 j18 j19 j20 j21 j22 j23 j24 j25 j26 hK hi
  obtain rfl : i = n := by omega
  have hd : decide ((i : Int) < (i : Int)) = false := by simp
  rw [lo]
  unfold l73x0
  simp -implicitDefEqProofs (maxSteps := 5000000) only [go_sem, Nat.reduceShiftRight, Nat.reduceAnd, Nat.reduceBNe, Int.reduceEq, Nat.reduceAdd, Nat.reduceSub, Nat.reduceMul, Nat.reduceLeDiff, reduceIte, reduceCtorEq, Nat.reduceBEq, Nat.reduceEqDiff, hd, seqR_exit', outs_normal]
  exact ⟨hK, exF rfl⟩
 | succ k ih =>
  intro i K j3 j4 j8 j9 j10 j11 j12 j13 j14 j15 j16 j17 j18 j19 j20 j21 j22 j23 j24 j25 j26 hK hi
  have hlt : i < n := by omega
  have hd : decide ((i : Int) < (n : Int)) = true := decide_eq_true (by omega)
  have e2 : IntKind.i64.wrap ((i : Int) + 1) = ((i + 1 : Nat) : Int) := by rw [wrap64 (by omega) (by omega)]; omega
  obtain ⟨c, D, x, m, hDn, hq, hx, h0, h1⟩ := hY i K hK hlt
  have c1 := sectorC m (i := i) (by omega)
  obtain ⟨cs, hc, hv, hle, htk, _⟩ := m.row hx
  obtain ⟨gv, ok, cap⟩ := m.vs.at hx
  obtain ⟨hl, hr⟩ := ver_read gv ok
  rw [lo]
  unfold l73x0
  rcases hr with ⟨z0, z1⟩ | ⟨b, cs2, z, hz, z1, hp, _, _, _⟩
  ·rw [z1] at hv
   have d0 : decide ((0 : Int) > 0) = false := rfl
   simp -implicitDefEqProofs (maxSteps := 5000000) only [go_sem, Nat.reduceShiftRight, Nat.reduceAnd, Nat.reduceBNe, Int.reduceEq, Nat.reduceAdd, Nat.reduceSub, Nat.reduceMul, Nat.reduceLeDiff, reduceIte, reduceCtorEq, Nat.reduceBEq, Nat.reduceEqDiff, hd, hq, c1, hc, hv, d0, e2]
   exact ih (i + 1) K _ _ _ _ _ _ _ _ _ _ _ _ _ _ _ _ _ _ _ _ _ (h0 z0) (by omega)
  ·rw [z1] at hv
   obtain ⟨K', hK', hy⟩ := h1 (fun e => by rw [e] at hp; simp at hp)
   have d0 : decide ((x.2.vers.length : Int) > 0) = true := decide_eq_true (by omega)
   simp -implicitDefEqProofs (maxSteps := 5000000) only [go_sem, Nat.reduceShiftRight, Nat.reduceAnd, Nat.reduceBNe, Int.reduceEq, Nat.reduceAdd, Nat.reduceSub, Nat.reduceMul, Nat.reduceLeDiff, reduceIte, reduceCtorEq, Nat.reduceBEq, Nat.reduceEqDiff, hd, hq, c1, hc, hv, d0, e2, callV_yld, hy]
   exact ih (i + 1) K' _ _ _ _ _ _ _ _ _ _ _ _ _ _ _ _ _ _ _ _ _ hK' (by omega)
set_option maxHeartbeats 2000000 in
theorem looseC {y q p d n : Nat} {Y : Nat → AHeap → Prop} (hY : LooseY y q p d n Y) (hn : n ≤ 4096) {K : AHeap} (hK : Y 0 K) (hq : cellsOf K q = some [.ptr p 0]) {c : Nat} {L : List (AV × Sec)} (m : DK K p d c L) (hLn : L.length = n) :
  ∃ K', Y n K' ∧ (envL prog).call 73 [.yld y, .ptr q 0] K = trim K (some (.tup [], K')) := by
 have l0 := looseL hY hn (k := n) (i := 0)
 rw [show ((0 : Nat) : Int) = 0 from rfl] at l0
 have c1 := diskLenC m
 rw [hLn] at c1
 have o : Outs (runC (envL prog) (b73 (envL prog)) ([.yld y, .ptr q 0] ++ List.replicate (27 - [AV.yld y, .ptr q 0].length) .undef) K) fun e' t K' => Y n K' ∧ fin [] (some (e', t, K')) = some (.tup [], K') := by
  unfold b73
  generalize hQ : (fun (e' : Ex) (t : T) (K' : AHeap) => Y n K' ∧ fin [] (some (e', t, K')) = some (.tup [], K')) = Q
  simp -implicitDefEqProofs (maxSteps := 5000000) only [go_sem, Nat.reduceShiftRight, Nat.reduceAnd, Nat.reduceBNe, Int.reduceEq, Nat.reduceAdd, Nat.reduceSub, Nat.reduceMul, Nat.reduceLeDiff, reduceIte, reduceCtorEq, Nat.reduceBEq, Nat.reduceEqDiff, runC_loop, hq, c1]
  unfold LQ at l0
  generalize (envL prog).loop (runC (envL prog) (l73x0 (envL prog))) = L0 at l0 ⊢
  refine outs_ctx (fun r => blockR 0 r) (l0 _ _ _ _ _ _ _ _ _ _ _ _ _ _ _ _ _ _ _ _ _ _ _ _ hK (by omega)) ?_
  rintro e t H' ⟨rfl, hK', k, rfl⟩
  simp -implicitDefEqProofs (maxSteps := 5000000) only [go_sem, Nat.reduceShiftRight, Nat.reduceAnd, Nat.reduceBNe, Int.reduceEq, Nat.reduceAdd, Nat.reduceSub, Nat.reduceMul, Nat.reduceLeDiff, reduceIte, reduceCtorEq, Nat.reduceBEq, Nat.reduceEqDiff, outs_normal]
  subst hQ
  refine ⟨hK', ?_⟩
  simp -implicitDefEqProofs (maxSteps := 5000000) only [go_sem, Nat.reduceShiftRight, Nat.reduceAnd, Nat.reduceBNe, Int.reduceEq, Nat.reduceAdd, Nat.reduceSub, Nat.reduceMul, Nat.reduceLeDiff, reduceIte, reduceCtorEq, Nat.reduceBEq, Nat.reduceEqDiff]
 obtain ⟨e', t, H', hr, hK', hf⟩ := o
 exact ⟨H', hK', by rw [c73, hr, hf]⟩
theorem loose0 {p : Nat} (H : AHeap) : (envL prog).call 62 [.ptr p 0] H = some (.fn 73 [.ptr H.length 0], H ++ [.rw [.ptr p 0]]) := by
 rw [c62]
 unfold b62
 simp -implicitDefEqProofs (maxSteps := 5000000) only [go_sem, Nat.reduceShiftRight, Nat.reduceAnd, Nat.reduceBNe, Int.reduceEq, Nat.reduceAdd, Nat.reduceSub, Nat.reduceMul, Nat.reduceLeDiff, reduceIte, reduceCtorEq, Nat.reduceBEq, Nat.reduceEqDiff]
 exact trim_keep (by simp [AV.under, underAll])
def flX (x : AV × Sec) : AV × Sec := (.nilSl, ⟨x.2.last, []⟩)
def flL (L : List (AV × Sec)) (i : Nat) : List (AV × Sec) := (L.take i).map flX ++ L.drop i
theorem flL_len (L : List (AV × Sec)) {i : Nat} (h : i ≤ L.length) : (flL L i).length = L.length := by unfold flL; simp; omega
theorem flL_get {L : List (AV × Sec)} {i : Nat} (h : i < L.length) : (flL L i)[i]? = L[i]? := by
 unfold flL
 rw [List.getElem?_append_right (by simp; omega), List.getElem?_drop]
 congr 1
 simp; omega
theorem flL_step {L : List (AV × Sec)} {i : Nat} {x : AV × Sec} (h : L[i]? = some x) : flL L (i + 1) = (flL L i).set i (flX x) := by
 have lt := (List.getElem?_eq_some_iff.1 h).1
 have e := (List.getElem?_eq_some_iff.1 h).2
 unfold flL
 rw [List.take_add_one, h, List.map_append, List.set_append_right _ _ (by simp; omega), List.append_assoc, List.drop_eq_getElem_cons lt, e]
 rw [show i - ((L.take i).map flX).length = 0 by simp; omega]
 rfl
theorem flL_all (L : List (AV × Sec)) : flL L L.length = L.map flX := by unfold flL; simp
set_option maxHeartbeats 2000000 in
theorem diskFlushC {H : AHeap} {p d c : Nat} {L : List (AV × Sec)} (m : DK H p d c L) : ∃ H', DK H' p d c (L.map flX) ∧ KeepB H H' [d] ∧ (envL prog).call 53 [.ptr p 0] H = some (.int .i64 0, H') := by
 have hd := lt_of_at m.blk
 have hp := lt_of_cells m.ptr
 have it : ∀ t : T, t.length = 15 → ∃ K, (envL prog).call 73 [.yld (H.length + 1), .ptr H.length 0] (H ++ [.rw [.ptr p 0], .loop ⟨.ready, .normal, t, [9, 10], kaq53x0, kbq53x0⟩]) = some (.tup [], K) ∧
   K.length = H.length + 2 ∧ K[H.length + 1]? = some (.loop ⟨.ready, .normal, t, [9, 10], kaq53x0, kbq53x0⟩) ∧ DK K p d c (L.map flX) ∧ ∀ b, b < H.length → b ≠ d → K[b]? = H[b]? := by
  intro T hT
  let Y : Nat → AHeap → Prop := fun i K => K.length = H.length + 2 ∧ K[H.length + 1]? = some (.loop ⟨.ready, .normal, T, [9, 10], kaq53x0, kbq53x0⟩) ∧ cellsOf K H.length = some [.ptr p 0] ∧ DK K p d c (flL L i) ∧ ∀ b, b < H.length → b ≠ d → K[b]? = H[b]?
  have hY : LooseY (H.length + 1) H.length p d L.length Y := by
   intro i K ⟨y1, y2, y3, y4, y5⟩ hi
   obtain ⟨x, hx⟩ : ∃ x, L[i]? = some x := ⟨_, List.getElem?_eq_getElem hi⟩
   have hx2 : (flL L i)[i]? = some x := by rw [flL_get hi, hx]
   refine ⟨c, flL L i, x, y4, flL_len L (by omega), y3, hx2, fun h0 => ⟨y1, y2, y3, ?_, y5⟩, fun h1 => ?_⟩
   ·have e : flX x = x := by
     have g := (y4.vs.at hx2).1
     obtain ⟨v, s, t⟩ := x
     have h0 : t = [] := h0
     subst h0
     rcases g with ⟨_, hv⟩ | ⟨hv, _⟩
     ·have hv : v = .nilSl := hv
      subst hv; rfl
     ·exact absurd rfl hv
    rw [flL_step hx, e, show (flL L i).set i x = flL L i from by
     apply List.ext_getElem?; intro j
     by_cases ej : i = j
     ·subst ej; rw [List.getElem?_set_self (List.getElem?_eq_some_iff.1 hx2).1, hx2]
     ·rw [List.getElem?_set_ne ej]]
    exact y4
   ·have f1 : Fr K (K.set (H.length + 1) (.loop ⟨.busy, .normal, T, [9, 10], kaq53x0, kbq53x0⟩)) (· = H.length + 1) := Fr.set _ _ rfl
    have nfp : ∀ b, fpD p d (flL L i) b → ¬ (b = H.length + 1) := fun b hb e => by
     have := y4.vs.ok
     rcases hb with rfl | rfl | hb
     ·omega
     ·omega
     ·obtain ⟨z, hz, hb⟩ := hb
      rcases y4.vs.ver z hz with ⟨_, h0⟩ | ⟨_, b', _, h0, hH⟩
      ·rw [h0] at hb; cases hb
      ·rw [h0] at hb; injection hb with hb; subst hb; subst e; rw [y2] at hH; cases hH
    have m1 := y4.fr f1 nfp
    have c1 := lastC m1 hx2
    have okl : B64 x.2.last := (y4.vs.at hx2).2.1.last
    have c2 := settleC m1 hx2 okl
    have m2 := m1.settle hx2 okl
    generalize hK1 : K.set (H.length + 1) (.loop ⟨.busy, .normal, T, [9, 10], kaq53x0, kbq53x0⟩) = K1 at *
    have l1 : K1.length = H.length + 2 := by rw [← hK1, List.length_set]; exact y1
    have b1 : K1[H.length + 1]? = some (.loop ⟨.busy, .normal, T, [9, 10], kaq53x0, kbq53x0⟩) := by rw [← hK1]; exact at_set _ _ _ (by omega)
    have st := yield_step (P := prog) (l := H.length + 1) (args := [.int .i64 (i : Int), .ptr d (i * 65)]) (K := K) (eaq53x0 _) (ebq53x0 _) y2 rfl
     (t1 := ((T.set 9 (.int .i64 (i : Int))).set 10 (.ptr d (i * 65))).set 4 (.ptr d (i * 65))) (by
      unfold aq53x0
      simp -implicitDefEqProofs (maxSteps := 5000000) only [go_sem, Nat.reduceShiftRight, Nat.reduceAnd, Nat.reduceBNe, Int.reduceEq, Nat.reduceAdd, Nat.reduceSub, Nat.reduceMul, Nat.reduceLeDiff, reduceIte, reduceCtorEq, Nat.reduceBEq, Nat.reduceEqDiff, putParams, getT_set, hT, List.length_set, Nat.reduceLT])
     (ex := .normal) (t2 := ((((((T.set 9 (.int .i64 (i : Int))).set 10 (.ptr d (i * 65))).set 4 (.ptr d (i * 65))).set 11 (.ptr d (i * 65))).set 12 (.ptr d (i * 65))).set 13 (.agg (u8s x.2.last))).set 14 (.tup [])) (K2 := setD K1 d ((flL L i).set i (.nilSl, ⟨x.2.last, []⟩))) (L2 := ⟨.busy, .normal, T, [9, 10], kaq53x0, kbq53x0⟩) (by
      rw [hK1]
      unfold bq53x0
      simp -implicitDefEqProofs (maxSteps := 5000000) only [go_sem, Nat.reduceShiftRight, Nat.reduceAnd, Nat.reduceBNe, Int.reduceEq, Nat.reduceAdd, Nat.reduceSub, Nat.reduceMul, Nat.reduceLeDiff, reduceIte, reduceCtorEq, Nat.reduceBEq, Nat.reduceEqDiff, getT_set, hT, List.length_set, Nat.reduceLT, c1, c2])
     (by unfold setD; rw [at_set_ne _ _ _ _ (by omega), b1])
    refine ⟨_, ?_, st.trans (trim_same (by unfold setD; simp [l1, y1]))⟩
    have f2 : Fr (setD K1 d ((flL L i).set i (.nilSl, ⟨x.2.last, []⟩))) ((setD K1 d ((flL L i).set i (.nilSl, ⟨x.2.last, []⟩))).set (H.length + 1) (.loop ⟨.ready, .normal, T, [9, 10], kaq53x0, kbq53x0⟩)) (· = H.length + 1) := Fr.set _ _ rfl
    have l2 : (setD K1 d ((flL L i).set i (.nilSl, ⟨x.2.last, []⟩))).length = H.length + 2 := by unfold setD; rw [List.length_set]; exact l1
    refine ⟨by rw [List.length_set]; exact l2, at_set _ _ _ (by omega), ?_, ?_, fun b hb hne => ?_⟩
    ·exact f2.cells (b := H.length) (cs := [.ptr p 0]) (by unfold setD; rw [cells_set_ne _ _ _ _ (by omega), ← hK1, cells_set_ne _ _ _ _ (by omega)]; exact y3) (by omega)
    ·rw [flL_step hx]
     refine m2.fr f2 fun b hb => ?_
     rcases hb with rfl | rfl | hb
     ·omega
     ·omega
     ·rcases fpV_set hb with hb | hb
      ·cases hb
      ·exact nfp b (.inr (.inr hb))
    ·rw [at_set_ne _ _ _ _ (by omega)]
     unfold setD
     rw [at_set_ne _ _ _ _ hne, ← hK1, at_set_ne _ _ _ _ (by omega)]
     exact y5 b hb hne
  have y0 : Y 0 (H ++ [.rw [.ptr p 0], .loop ⟨.ready, .normal, T, [9, 10], kaq53x0, kbq53x0⟩]) := by
   refine ⟨by simp, by simp, by unfold cellsOf; simp, ?_, fun b hb _ => List.getElem?_append_left hb⟩
   unfold flL
   rw [List.take_zero, List.map_nil, List.nil_append, List.drop_zero]
   exact m.fr (Fr.adds ⟨_, rfl⟩ (fun _ => False)) (fun _ _ h => h)
  obtain ⟨K, hK, e⟩ := looseC hY m.sz y0 y0.2.2.1 (m.fr (Fr.adds ⟨_, rfl⟩ (fun _ => False)) (fun _ _ h => h)) rfl
  obtain ⟨k1, k2, k3, k4, k5⟩ := hK
  rw [flL_all] at k4
  refine ⟨K, ?_, k1, k2, k4, k5⟩
  rw [e]
  exact trim_same (by rw [k1]; simp)
 obtain ⟨KK, hKK⟩ := skolem_len it
 have e1 := fun t ht => (hKK t ht).1
 have e2 := fun t ht => (hKK t ht).2.2.1
 have l0 := loose0 (p := p) H
 have o : Outs (runC (envL prog) (b53 (envL prog)) ([.ptr p 0] ++ List.replicate (15 - [AV.ptr p 0].length) .undef) H) fun e' t K' => (∃ t' : T, t'.length = 15 ∧ K' = (KK t').set (H.length + 1) (.loop ⟨.exhausted, .normal, t', [9, 10], kaq53x0, kbq53x0⟩)) ∧ fin [.tmp 2] (some (e', t, K')) = some (.int .i64 0, K') := by
  unfold b53
  generalize hQ : (fun (e' : Ex) (t : T) (K' : AHeap) => (∃ t' : T, t'.length = 15 ∧ K' = (KK t').set (H.length + 1) (.loop ⟨.exhausted, .normal, t', [9, 10], kaq53x0, kbq53x0⟩)) ∧ fin [.tmp 2] (some (e', t, K')) = some (AV.int .i64 0, K')) = Q
  simp -implicitDefEqProofs (maxSteps := 5000000) only [go_sem, Nat.reduceShiftRight, Nat.reduceAnd, Nat.reduceBNe, Int.reduceEq, Nat.reduceAdd, Nat.reduceSub, Nat.reduceMul, Nat.reduceLeDiff, reduceIte, reduceCtorEq, Nat.reduceBEq, Nat.reduceEqDiff, l0, runC_range, callF_fn, e1, rangeEnd, e2, outs_normal]
  subst hQ
  refine ⟨⟨_, rfl, rfl⟩, ?_⟩
  simp -implicitDefEqProofs (maxSteps := 5000000) only [go_sem, Nat.reduceShiftRight, Nat.reduceAnd, Nat.reduceBNe, Int.reduceEq, Nat.reduceAdd, Nat.reduceSub, Nat.reduceMul, Nat.reduceLeDiff, reduceIte, reduceCtorEq, Nat.reduceBEq, Nat.reduceEqDiff]
 obtain ⟨e', t, K', hr, ⟨t', ht, rfl⟩, hf⟩ := o
 obtain ⟨_, k1, k2, k4, k5⟩ := hKK t' ht
 have hl : ((KK t').set (H.length + 1) (.loop ⟨.exhausted, .normal, t', [9, 10], kaq53x0, kbq53x0⟩)).length = H.length + 2 := by rw [List.length_set]; exact k1
 have fK : Fr H ((KK t').set (H.length + 1) (.loop ⟨.exhausted, .normal, t', [9, 10], kaq53x0, kbq53x0⟩)) (· = d) := ⟨by omega, fun b hb hn => by
  rw [at_set_ne _ _ _ _ (by omega)]; exact k5 b hb hn⟩
 have dk : DK (((KK t').set (H.length + 1) (.loop ⟨.exhausted, .normal, t', [9, 10], kaq53x0, kbq53x0⟩)).take H.length) p d c (L.map flX) := by
  have nv : ∀ b, ¬ fpV (L.map flX) b := fun b ⟨x, hx, hb⟩ => by
   obtain ⟨y, _, rfl⟩ := List.mem_map.1 hx; cases hb
  refine ⟨?_, ?_, m.np, by rw [List.length_map]; exact m.sz, ⟨m.vs.cb, fun x hx => ?_, k4.vs.ok, k4.vs.cap, k4.vs.out, k4.vs.inj⟩⟩
  ·rw [take_cells hp, cells_set_ne _ _ _ _ (by omega)]; exact k4.ptr
  ·rw [take_get hd, at_set_ne _ _ _ _ (by omega)]; exact k4.blk
  ·obtain ⟨y, _, rfl⟩ := List.mem_map.1 hx
   exact .inl ⟨rfl, rfl⟩
 refine ⟨_, dk, ⟨take_len fK.1, fun b hb => ?_⟩, ?_⟩
 ·by_cases hlt : b < H.length
  ·exact (take_get hlt).trans (fK.2 b hlt (by simpa using hb))
  ·rw [List.getElem?_eq_none (by rw [take_len fK.1]; omega), List.getElem?_eq_none (by omega)]
 ·rw [c53, hr, hf]
  refine trim_take fK.1 rfl fun b k' hb hk => ?_
  by_cases e : b = d
  ·subst e
   rw [at_set_ne _ _ _ _ (by omega), k4.blk] at hk
   injection hk with hk; subst hk
   refine .inr fun a ha => ?_
   obtain ⟨r, hr, ha⟩ := List.mem_flatten.1 ha
   obtain ⟨x, hx, rfl⟩ := List.mem_map.1 hr
   obtain ⟨y, _, rfl⟩ := List.mem_map.1 hx
   rcases List.mem_append.1 ha with ha | ha
   ·exact u8s_under _ _ a ha
   ·simp only [flX, List.mem_cons, List.not_mem_nil, or_false] at ha
    subst ha; rfl
  ·exact .inl ((fK.2 b hb e).symm.trans hk)
end Go.Proofs.Ytipedaadjfhdnaa.G06
end
section
namespace Go.Proofs.Ytipedaadjfhdnaa.G06
open Go Go.Proofs.Ytipedaadjfhdnaa.Eng
noncomputable abbrev LQB (l : Env → CT) := (envL prog).loop (runC (envL prog) (l (envL prog)))
noncomputable abbrev tyB : TyD := ty 64 true 64 (rep 64 (.int .u8 0))
theorem growB {n : Nat} (h1 : 1 ≤ n) (hn : n ≤ 2000000000) (H : AHeap) : (envL prog).call 74 [.nilSl, .int .i64 (n : Int)] H = some (.sl H.length 0 64 0 n false, H ++ [.rw (List.replicate n (tyB).zero).flatten]) := by
 have w0 : IntKind.i64.wrap (0 - 0) = 0 := by decide
 have w1 : IntKind.i64.wrap ((n : Int) - 0) = (n : Int) := by rw [wrap64 (by omega) (by omega)]; omega
 have d1 : decide ((n : Int) < 0) = false := decide_eq_false (by omega)
 have d2 : decide ((n : Int) > 0) = true := decide_eq_true (by omega)
 have ha := appN_nil (d := tyB) (H := H) (n := n) (k := 64) (by omega) rfl (by decide) h1 (by unfold roomy; show n * 64 ≤ _; omega)
 have sl0 : sliceS 64 .nilSl none (some (.int .i64 0)) none = some .nilSl := by simp [sliceS, asI]
 have sl1 : sliceS 64 (.sl H.length 0 64 n n false) none (some (.int .i64 0)) none = some (.sl H.length 0 64 0 n false) := by simp [sliceS, asI]
 unfold tyB at ha
 rw [c74]
 unfold b74
 have hcap : capSl .nilSl = some (.int .i64 0) := rfl
 simp -implicitDefEqProofs (maxSteps := 5000000) only [go_sem, Nat.reduceShiftRight, Nat.reduceAnd, Nat.reduceBNe, Int.reduceEq, Nat.reduceAdd, Nat.reduceSub, Nat.reduceMul, Nat.reduceLeDiff, reduceIte, reduceCtorEq, Nat.reduceBEq, Nat.reduceEqDiff, hcap, w0, w1, d1, d2, ha, sl0, sl1]
 exact trim_keep (by simp [AV.under])
theorem grow0B (H : AHeap) : (envL prog).call 74 [.nilSl, .int .i64 0] H = some (.nilSl, H) := by
 have w0 : IntKind.i64.wrap (0 - 0) = 0 := by decide
 have d1 : decide ((0 : Int) < 0) = false := rfl
 have d2 : decide ((0 : Int) > 0) = false := rfl
 rw [c74]
 unfold b74
 have hcap : capSl .nilSl = some (.int .i64 0) := rfl
 simp -implicitDefEqProofs (maxSteps := 5000000) only [go_sem, Nat.reduceShiftRight, Nat.reduceAnd, Nat.reduceBNe, Int.reduceEq, Nat.reduceAdd, Nat.reduceSub, Nat.reduceMul, Nat.reduceLeDiff, reduceIte, reduceCtorEq, Nat.reduceBEq, Nat.reduceEqDiff, hcap, w0, d1, d2]
def totB (Xs : List (AV × Nat × List AV)) : Nat := (Xs.map fun x => x.2.1).sum
def catB (Xs : List (AV × Nat × List AV)) : List AV := (Xs.map fun x => x.2.2).flatten
section
variable {H : AHeap} {a : Nat} {Xs : List (AV × Nat × List AV)} (ha : cellsOf H a = some (Xs.map fun x => x.1)) (hs : ∀ x ∈ Xs, Src 64 H x.1 x.2.1 x.2.2) (ht : totB Xs ≤ 2000000000) (hX : Xs.length ≤ 1000)
include ha hs ht hX
set_option maxHeartbeats 2000000 in
theorem sumLB (x0 x1 x2 x4 x6 x7 x8 x23 x24 x25 x26 x27 x28 x29 x30 x31 x32 x33 x34 x35 : AV) : ∀ (k i : Nat) (j5 j12 j13 j14 j15 j16 j17 j18 j19 j20 j21 j22 : AV), i + k = Xs.length →
  Outs (LQB l64x0 [x0, x1, x2, .int .i64 (totB (Xs.take i) : Int), x4, j5, x6, x7, x8, .sl a 0 1 Xs.length Xs.length true, .int .i64 (Xs.length : Int), .int .i64 (i : Int), j12, j13, j14, j15, j16, j17, j18, j19, j20, j21, j22, x23, x24, x25, x26, x27, x28, x29, x30, x31, x32, x33, x34, x35] H) fun e t H' => e = .exit 0 ∧ H' = H ∧ ∃ k : Nat → AV, t = [x0, x1, x2, .int .i64 (totB Xs : Int), x4, (k 5), x6, x7, x8, .sl a 0 1 Xs.length Xs.length true, .int .i64 (Xs.length : Int), (k 11), (k 12), (k 13), (k 14), (k 15), (k 16), (k 17), (k 18), (k 19), (k 20), (k 21), (k 22), x23, x24, x25, x26, x27, x28, x29, x30, x31, x32, x33, x34, x35] := by
 intro k
 obtain ⟨L, hL⟩ : ∃ L, L = LQB l64x0 := ⟨_, rfl⟩
 have lo := loop_open hL
 rw [← hL]
 induction k with
 | zero =>
  intro i j5 j12 j13 j14 j15 j16 j17 j18 j19 j20 j21 j22 hi
  obtain rfl : i = Xs.length := by omega
  have hd : decide ((Xs.length : Int) < (Xs.length : Int)) = false := by simp
  rw [List.take_length, lo]
  unfold l64x0
  simp -implicitDefEqProofs (maxSteps := 5000000) only [go_sem, Nat.reduceShiftRight, Nat.reduceAnd, Nat.reduceBNe, Int.reduceEq, Nat.reduceAdd, Nat.reduceSub, Nat.reduceMul, Nat.reduceLeDiff, reduceIte, reduceCtorEq, Nat.reduceBEq, Nat.reduceEqDiff, hd, seqR_exit', outs_normal]
  exact exF rfl
 | succ k ih =>
  intro i j5 j12 j13 j14 j15 j16 j17 j18 j19 j20 j21 j22 hi
  have hlt : i < Xs.length := by omega
  have hx := List.getElem?_eq_getElem hlt
  have hv := get_map (fun x : AV × Nat × List AV => x.1) hx
  have sx := hs _ (List.getElem_mem hlt)
  generalize Xs[i] = x at *
  have hd : decide ((i : Int) < (Xs.length : Int)) = true := decide_eq_true (by omega)
  have et : totB (Xs.take (i + 1)) = totB (Xs.take i) + x.2.1 := by unfold totB; rw [List.take_add_one, hx]; simp
  have le : totB (Xs.take (i + 1)) ≤ totB Xs := by
   unfold totB
   rw [← List.take_append_drop (i + 1) Xs, List.map_append, List.sum_append, List.take_append_drop]
   exact Nat.le_add_right _ _
  have e2 : IntKind.i64.wrap ((i : Int) + 1) = ((i + 1 : Nat) : Int) := by
   skip
   rw [wrap64 (by omega) (by omega)]; omega
  have e3 : IntKind.i64.wrap ((totB (Xs.take i) : Int) + (x.2.1 : Int)) = (totB (Xs.take (i + 1)) : Int) := by rw [wrap64 (by omega) (by omega)]; omega
  have d3 : decide ((totB (Xs.take (i + 1)) : Int) < 0) = false := decide_eq_false (by omega)
  have ix := idx_nat a 1 Xs.length Xs.length i true .i64 (by omega) hlt
  rw [Nat.mul_one] at ix
  have hl := sx.len
  rw [lo]
  unfold l64x0
  simp -implicitDefEqProofs (maxSteps := 5000000) only [go_sem, Nat.reduceShiftRight, Nat.reduceAnd, Nat.reduceBNe, Int.reduceEq, Nat.reduceAdd, Nat.reduceSub, Nat.reduceMul, Nat.reduceLeDiff, reduceIte, reduceCtorEq, Nat.reduceBEq, Nat.reduceEqDiff, hd, ix, ha, hv, hl, e2, e3, d3]
  exact ih (i + 1) _ _ _ _ _ _ _ _ _ _ _ _ (by omega)
def OutB (H : AHeap) (Xs : List (AV × Nat × List AV)) (i : Nat) (l : AV) (H' : AHeap) : Prop :=
 (totB Xs = 0 ∧ l = .nilSl ∧ H' = H) ∨ (totB Xs ≠ 0 ∧ l = .sl H.length 0 64 (totB (Xs.take i)) (totB Xs) false ∧ ∃ Z : List AV, Z.length + totB (Xs.take i) * 64 = totB Xs * 64 ∧ H' = H ++ [.rw (catB (Xs.take i) ++ Z)])
theorem catlenB : ∀ i, (catB (Xs.take i)).length = totB (Xs.take i) * 64 := by
 intro i
 have : ∀ Ys : List (AV × Nat × List AV), (∀ x ∈ Ys, x.2.2.length = x.2.1 * 64) → (catB Ys).length = totB Ys * 64 := by
  intro Ys
  induction Ys with
  | nil => intro _; rfl
  | cons x Ys ih =>
   intro h
   have e := ih fun y hy => h y (by simp [hy])
   unfold catB totB at e ⊢
   rw [List.map_cons, List.map_cons, List.flatten_cons, List.sum_cons, List.length_append, e, h x (by simp), Nat.add_mul]
 exact this _ fun x hx => (hs x (List.mem_of_mem_take hx)).clen
set_option maxHeartbeats 2000000 in
theorem catLB (x0 x1 x2 x3 x4 x5 x7 x9 x10 x11 x12 x13 x14 x15 x16 x17 x18 x19 x20 x21 x22 x23 x24 x35 : AV) : ∀ (k i : Nat) (l : AV) (H1 : AHeap) (j8 j28 j29 j30 j31 j32 j33 j34 : AV), OutB H Xs i l H1 → i + k = Xs.length →
  Outs (LQB l64x1 [x0, x1, x2, x3, x4, x5, l, x7, j8, x9, x10, x11, x12, x13, x14, x15, x16, x17, x18, x19, x20, x21, x22, x23, x24, .sl a 0 1 Xs.length Xs.length true, .int .i64 (Xs.length : Int), .int .i64 (i : Int), j28, j29, j30, j31, j32, j33, j34, x35] H1) fun e t H' => e = .exit 2 ∧ ∃ l', OutB H Xs Xs.length l' H' ∧ ∃ k : Nat → AV, t = [x0, x1, x2, x3, x4, x5, l', x7, (k 8), x9, x10, x11, x12, x13, x14, x15, x16, x17, x18, x19, x20, x21, x22, x23, x24, .sl a 0 1 Xs.length Xs.length true, .int .i64 (Xs.length : Int), (k 27), (k 28), (k 29), (k 30), (k 31), (k 32), (k 33), (k 34), x35] := by
 intro k
 obtain ⟨L, hL⟩ : ∃ L, L = LQB l64x1 := ⟨_, rfl⟩
 have lo := loop_open hL
 rw [← hL]
 induction k with
 | zero =>
  intro i l H1 j8 j28 j29 j30 j31 j32 j33 j34 ho hi
  obtain rfl : i = Xs.length := by omega
  have hd : decide ((Xs.length : Int) < (Xs.length : Int)) = false := by simp
  rw [lo]
  unfold l64x1
  simp -implicitDefEqProofs (maxSteps := 5000000) only [go_sem, Nat.reduceShiftRight, Nat.reduceAnd, Nat.reduceBNe, Int.reduceEq, Nat.reduceAdd, Nat.reduceSub, Nat.reduceMul, Nat.reduceLeDiff, reduceIte, reduceCtorEq, Nat.reduceBEq, Nat.reduceEqDiff, hd, seqR_exit', outs_normal]
  exact ⟨l, ho, exF rfl⟩
 | succ k ih =>
  intro i l H1 j8 j28 j29 j30 j31 j32 j33 j34 ho hi
  have hlt : i < Xs.length := by omega
  have cl := catlenB ha hs ht hX
  have hx := List.getElem?_eq_getElem hlt
  have hv := get_map (fun x : AV × Nat × List AV => x.1) hx
  have sx := hs _ (List.getElem_mem hlt)
  generalize Xs[i] = x at *
  have hd : decide ((i : Int) < (Xs.length : Int)) = true := decide_eq_true (by omega)
  have et : totB (Xs.take (i + 1)) = totB (Xs.take i) + x.2.1 := by unfold totB; rw [List.take_add_one, hx]; simp
  have ec : catB (Xs.take (i + 1)) = catB (Xs.take i) ++ x.2.2 := by unfold catB; rw [List.take_add_one, hx]; simp
  have le : totB (Xs.take (i + 1)) ≤ totB Xs := by
   unfold totB
   rw [← List.take_append_drop (i + 1) Xs, List.map_append, List.sum_append, List.take_append_drop]
   exact Nat.le_add_right _ _
  have e2 : IntKind.i64.wrap ((i : Int) + 1) = ((i + 1 : Nat) : Int) := by rw [wrap64 (by omega) (by omega)]; omega
  have ix := idx_nat a 1 Xs.length Xs.length i true .i64 (by omega) hlt
  rw [Nat.mul_one] at ix
  obtain ⟨l2, H2, ho2, ea⟩ : ∃ l2 H2, OutB H Xs (i + 1) l2 H2 ∧ app tyB l x.1 H1 = some (l2, H2) := by
   rcases ho with ⟨h0, rfl, rfl⟩ | ⟨h0, rfl, Z, hZ, rfl⟩
   ·have : x.2.1 = 0 := by omega
    rw [this] at sx
    exact ⟨_, _, .inl ⟨h0, rfl, rfl⟩, app_nil0 rfl sx⟩
   ·refine ⟨_, _, .inr ⟨h0, rfl, Z.drop x.2.2.length, ?_, rfl⟩, ?_⟩
    ·rw [List.length_drop, sx.clen, et, Nat.add_mul]
     rw [et] at le
     have := Nat.mul_le_mul_right 64 le
     rw [Nat.add_mul] at this
     omega
    ·have := app_in (k := 64) (by omega) (d := tyB) rfl (H := H ++ [.rw (catB (Xs.take i) ++ Z)]) (b := H.length) (m := totB (Xs.take i)) (n := totB Xs) (A := catB (Xs.take i)) (Z := Z) (by simp) (cl i) (sx.adds _) (by
      rw [sx.clen]
      rw [et] at le
      have := Nat.mul_le_mul_right 64 le
      rw [Nat.add_mul] at this
      omega) (by omega)
     rw [this, et, ec]
     simp
  have hm : ∀ G, cellsOf (H ++ G) a = some (Xs.map fun x => x.1) := fun G => cells_old ha
  have hm1 : cellsOf H1 a = some (Xs.map fun x => x.1) := by
   rcases ho with ⟨_, _, rfl⟩ | ⟨_, _, Z, _, rfl⟩
   ·exact ha
   ·exact hm _
  unfold tyB at ea
  rw [lo]
  unfold l64x1
  simp -implicitDefEqProofs (maxSteps := 5000000) only [go_sem, Nat.reduceShiftRight, Nat.reduceAnd, Nat.reduceBNe, Int.reduceEq, Nat.reduceAdd, Nat.reduceSub, Nat.reduceMul, Nat.reduceLeDiff, reduceIte, reduceCtorEq, Nat.reduceBEq, Nat.reduceEqDiff, hd, ix, hm1, hv, e2, ea]
  exact ih (i + 1) l2 H2 _ _ _ _ _ _ _ _ ho2 (by omega)
set_option maxHeartbeats 2000000 in
theorem concatB : ∃ l H', ((totB Xs = 0 ∧ l = .nilSl ∧ H' = H) ∨ (totB Xs ≠ 0 ∧ l = .sl H.length 0 64 (totB Xs) (totB Xs) false ∧ H' = H ++ [.rw (catB Xs)])) ∧ (envL prog).call 64 [.sl a 0 1 Xs.length Xs.length true] H = some (l, H') := by
 have l0 := sumLB ha hs ht hX (k := Xs.length) (i := 0)
 have cl := catlenB ha hs ht hX
 rw [show ((0 : Nat) : Int) = 0 from rfl, List.take_zero, show totB [] = 0 from rfl, show ((0 : Nat) : Int) = 0 from rfl] at l0
 have l1 := catLB ha hs ht hX (k := Xs.length) (i := 0)
 rw [show ((0 : Nat) : Int) = 0 from rfl] at l1
 obtain ⟨g, H1, ho, hg⟩ : ∃ g H1, OutB H Xs 0 g H1 ∧ (envL prog).call 74 [.nilSl, .int .i64 (totB Xs : Int)] H = some (g, H1) := by
  by_cases h0 : totB Xs = 0
  ·refine ⟨_, _, .inl ⟨h0, rfl, rfl⟩, ?_⟩
   rw [h0]; exact grow0B H
  ·refine ⟨_, _, .inr ⟨h0, rfl, (List.replicate (totB Xs) (tyB).zero).flatten, ?_, rfl⟩, ?_⟩
   ·rw [rep_zero_len (k := 64) (by rfl), List.take_zero, show totB [] = 0 from rfl, Nat.zero_mul, Nat.add_zero]
   ·rw [List.take_zero, show totB [] = 0 from rfl, show catB [] = [] from rfl, List.nil_append]
    exact growB (by omega) ht H
 have o : Outs (runC (envL prog) (b64 (envL prog)) ([.sl a 0 1 Xs.length Xs.length true] ++ List.replicate (36 - [AV.sl a 0 1 Xs.length Xs.length true].length) .undef) H) fun e' t H' => ∃ l, OutB H Xs Xs.length l H' ∧ fin [.tmp 2] (some (e', t, H')) = some (l, H') := by
  unfold b64
  generalize hQ : (fun (e' : Ex) (t : T) (H' : AHeap) => ∃ l, OutB H Xs Xs.length l H' ∧ fin [.tmp 2] (some (e', t, H')) = some (l, H')) = Q
  simp -implicitDefEqProofs (maxSteps := 5000000) only [go_sem, Nat.reduceShiftRight, Nat.reduceAnd, Nat.reduceBNe, Int.reduceEq, Nat.reduceAdd, Nat.reduceSub, Nat.reduceMul, Nat.reduceLeDiff, reduceIte, reduceCtorEq, Nat.reduceBEq, Nat.reduceEqDiff, runC_loop]
  unfold LQB at l0 l1
  generalize (envL prog).loop (runC (envL prog) (l64x0 (envL prog))) = L0 at l0 ⊢
  refine outs_ctx (fun r => seqR (blockR 0 r) _) (l0 _ _ _ _ _ _ _ _ _ _ _ _ _ _ _ _ _ _ _ _ _ _ _ _ _ _ _ _ _ _ _ _ (by omega)) ?_
  rintro e t H' ⟨rfl, rfl, k, rfl⟩
  simp -implicitDefEqProofs (maxSteps := 5000000) only [go_sem, Nat.reduceShiftRight, Nat.reduceAnd, Nat.reduceBNe, Int.reduceEq, Nat.reduceAdd, Nat.reduceSub, Nat.reduceMul, Nat.reduceLeDiff, reduceIte, reduceCtorEq, Nat.reduceBEq, Nat.reduceEqDiff, runC_loop, hg]
  generalize (envL prog).loop (runC (envL prog) (l64x1 (envL prog))) = L1 at l1 ⊢
  refine outs_ctx (fun r => seqR (blockR 2 r) _) (l1 _ _ _ _ _ _ _ _ _ _ _ _ _ _ _ _ _ _ _ _ _ _ _ _ _ _ _ _ _ _ _ _ _ _ ho (by omega)) ?_
  rintro e t H' ⟨rfl, l, ho, k, rfl⟩
  simp -implicitDefEqProofs (maxSteps := 5000000) only [go_sem, Nat.reduceShiftRight, Nat.reduceAnd, Nat.reduceBNe, Int.reduceEq, Nat.reduceAdd, Nat.reduceSub, Nat.reduceMul, Nat.reduceLeDiff, reduceIte, reduceCtorEq, Nat.reduceBEq, Nat.reduceEqDiff, outs_normal]
  subst hQ
  refine ⟨l, ho, ?_⟩
  simp -implicitDefEqProofs (maxSteps := 5000000) only [go_sem, Nat.reduceShiftRight, Nat.reduceAnd, Nat.reduceBNe, Int.reduceEq, Nat.reduceAdd, Nat.reduceSub, Nat.reduceMul, Nat.reduceLeDiff, reduceIte, reduceCtorEq, Nat.reduceBEq, Nat.reduceEqDiff]
 obtain ⟨e', t, H', hr, l, ho, hf⟩ := o
 rw [c64, hr, hf]
 rcases ho with ⟨h0, rfl, rfl⟩ | ⟨h0, rfl, Z, hZ, rfl⟩
 ·exact ⟨_, _, .inl ⟨h0, rfl, rfl⟩, trim_same rfl⟩
 ·rw [List.take_length] at hZ ⊢
  obtain rfl : Z = [] := List.eq_nil_of_length_eq_zero (by omega)
  rw [List.append_nil]
  exact ⟨_, _, .inr ⟨h0, rfl, rfl⟩, trim_keep (by simp [AV.under])⟩
end
end Go.Proofs.Ytipedaadjfhdnaa.G06
end
section
namespace Go.Proofs.Ytipedaadjfhdnaa.G06
open Go Go.Proofs.Ytipedaadjfhdnaa.Eng
set_option maxHeartbeats 2000000 in
theorem crashTail {G : AHeap} {p d c : Nat} {L : List (AV × Sec)} (m : DK G p d c L) {i : Nat} {x : AV × Sec} (hi : L[i]? = some x) {k : Nat} (hk : k < x.2.vers.length + 1) :
  ∃ z cs, (x.2.there :: x.2.vers)[k]? = some z ∧ B64 z ∧ (envL prog).call 64 [.sl (G.length + 1) 0 1 2 2 true] (G ++ [.rw (u8s x.2.there), .rw [.sl G.length 0 64 1 1 true, x.1]]) = some (.sl (G.length + 2) 0 64 (x.2.vers.length + 1) (x.2.vers.length + 1) false, G ++ [.rw (u8s x.2.there), .rw [.sl G.length 0 64 1 1 true, x.1], .rw cs]) ∧
   idxAddrS 64 (.sl (G.length + 2) 0 64 (x.2.vers.length + 1) (x.2.vers.length + 1) false) (.int .i64 (k : Int)) = some (.ptr (G.length + 2) (k * 64)) ∧ k * 64 + 64 ≤ cs.length ∧ (cs.drop (k * 64)).take 64 = u8s z ∧
   (envL prog).call 63 [.ptr d (i * 65), .agg (u8s z)] (G ++ [.rw (u8s x.2.there), .rw [.sl G.length 0 64 1 1 true, x.1], .rw cs]) = some (.tup [], setD (G ++ [.rw (u8s x.2.there), .rw [.sl G.length 0 64 1 1 true, x.1], .rw cs]) d (L.set i (.nilSl, ⟨z, []⟩))) := by
 obtain ⟨gv, ok, cap⟩ := m.vs.at hi
 have cb := m.vs.cb
 have hlen : (u8s x.2.there).length = 64 := by rw [u8s_len]; exact ok.t.1
 have s1 : Src 64 (G ++ [.rw (u8s x.2.there), .rw [.sl G.length 0 64 1 1 true, x.1]]) (.sl G.length 0 64 1 1 true) 1 (u8s x.2.there) := Src.block (by unfold cellsOf; simp) (by omega) (u8s_cell _)
 have ac : (verR x.2).flatten.all AV.isCell = true := by
  rw [List.all_eq_true]
  intro a ha
  obtain ⟨r, hr, ha⟩ := List.mem_flatten.1 ha
  obtain ⟨z, _, rfl⟩ := List.mem_map.1 hr
  exact List.all_eq_true.1 (u8s_cell z) a ha
 have vl : (verR x.2).length = x.2.vers.length := by unfold verR; simp
 have s2 := (gv.src (verR_len ok) ac).adds [.rw (u8s x.2.there), .rw [.sl G.length 0 64 1 1 true, x.1]]
 rw [vl] at s2
 have hz : (x.2.there :: x.2.vers)[k]? = some ((x.2.there :: x.2.vers)[k]'(by simpa using hk)) := List.getElem?_eq_getElem _
 generalize ((x.2.there :: x.2.vers)[k]'(by simpa using hk)) = z at hz
 have oz : B64 z := by
  rcases List.mem_cons.1 (List.mem_of_getElem? hz) with rfl | h
  ·exact ok.t
  ·exact ok.v z h
 have rows : ∀ r ∈ (x.2.there :: x.2.vers).map u8s, r.length = 64 := fun r hr => by
  obtain ⟨y, hy, rfl⟩ := List.mem_map.1 hr
  rw [u8s_len]
  rcases List.mem_cons.1 hy with rfl | h
  ·exact ok.t.1
  ·exact (ok.v y h).1
 obtain ⟨q1, q2⟩ := rows_sub rows (get_map u8s hz) 0 64 (by omega)
 rw [Nat.add_zero] at q1 q2
 rw [List.drop_zero, u8s_take oz.1] at q1
 obtain ⟨l, H', ho, e⟩ := concatB (H := G ++ [.rw (u8s x.2.there), .rw [.sl G.length 0 64 1 1 true, x.1]]) (a := G.length + 1) (Xs := [(.sl G.length 0 64 1 1 true, 1, u8s x.2.there), (x.1, x.2.vers.length, (verR x.2).flatten)]) (by unfold cellsOf; simp) (by
   intro y hy
   simp only [List.mem_cons, List.not_mem_nil, or_false] at hy
   rcases hy with rfl | rfl
   ·exact s1
   ·exact s2) (by unfold totB; simp; omega) (by simp)
 have et : totB [(.sl G.length 0 64 1 1 true, 1, u8s x.2.there), (x.1, x.2.vers.length, (verR x.2).flatten)] = x.2.vers.length + 1 := by unfold totB; simp; omega
 rw [et] at ho
 rcases ho with ⟨h0, _⟩ | ⟨_, rfl, rfl⟩
 ·omega
 refine ⟨z, _, hz, oz, ?_, idx_nat _ 64 _ _ k false .i64 (by omega) hk, q2, q1, settleC (m.fr (Fr.adds ⟨_, rfl⟩ (fun _ => False)) (fun _ _ h => h)) hi oz⟩
 rw [show ([(AV.sl G.length 0 64 1 1 true, 1, u8s x.2.there), (x.1, x.2.vers.length, (verR x.2).flatten)] : List (AV × Nat × List AV)).length = 2 from rfl] at e
 rw [e]
 simp [catB, verR]
set_option maxHeartbeats 4000000 in
theorem crashRound {H : AHeap} {p d c : Nat} {L : List (AV × Sec)} {zs : List Int} {i : Nat} {K : AHeap} {t : T} (hd : d < H.length) (hp : p < H.length) (ht : t.length = 43) (ht3 : getT t 3 = .ptr H.length 0) (y : CrI H p d c L zs (.loop ⟨.ready, .normal, t, [9, 10], kaq44x0, kbq44x0⟩) i i K) {x : AV × Sec} (hx : L[i]? = some x) (hx2 : (crL L zs i)[i]? = some x) (h1 : x.2.vers ≠ []) :
  ∃ K', CrI H p d c L zs (.loop ⟨.ready, .normal, t, [9, 10], kaq44x0, kbq44x0⟩) (i + 1) (i + 1) K' ∧ (envL prog).yield (H.length + 2) [.int .i64 (i : Int), .ptr d (i * 65)] K = some (.bool true, K') := by
 have kl := y.len
 obtain ⟨_, hR⟩ := crashS_get (zs := zs) (get_map (fun y : AV × Sec => y.2) hx)
 have f1 : Fr K (K.set (H.length + 2) (.loop ⟨.busy, .normal, t, [9, 10], kaq44x0, kbq44x0⟩)) (· = H.length + 2) := Fr.set _ _ rfl
 have nf : ∀ b, fpD p d (crL L zs i) b → ¬ (b = H.length + 2) := fun b hb => by
  rcases hb with rfl | rfl | ⟨x', hx', hb⟩
  ·omega
  ·omega
  ·rcases y.dk.vs.ver x' hx' with ⟨_, h0⟩ | ⟨_, b', _, h0, hH⟩
   ·rw [h0] at hb; cases hb
   ·rw [h0] at hb; injection hb with hb; subst hb
    intro e; subst e
    rw [y.lp] at hH; cases hH
 obtain ⟨w, w1, w2, w3, w4, w5⟩ := y.pk
 have m1 := y.dk.fr f1 nf
 have l1 : (K.set (H.length + 2) (.loop ⟨.busy, .normal, t, [9, 10], kaq44x0, kbq44x0⟩)).length = H.length + 3 := by rw [List.length_set]; exact kl
 have b1 : (K.set (H.length + 2) (.loop ⟨.busy, .normal, t, [9, 10], kaq44x0, kbq44x0⟩))[H.length + 2]? = some (.loop ⟨.busy, .normal, t, [9, 10], kaq44x0, kbq44x0⟩) := at_set _ _ _ (by omega)
 have p1 : (K.set (H.length + 2) (.loop ⟨.busy, .normal, t, [9, 10], kaq44x0, kbq44x0⟩))[H.length]? = some (.rw [w]) := by rw [at_set_ne _ _ _ _ (by omega)]; exact w1
 have bx1 : cellsOf (K.set (H.length + 2) (.loop ⟨.busy, .normal, t, [9, 10], kaq44x0, kbq44x0⟩)) (H.length + 1) = some [.ptr p 0] := by rw [cells_set_ne _ _ _ _ (by omega)]; exact y.bx
 have o1 : ∀ b, b < H.length → b ≠ d → (K.set (H.length + 2) (.loop ⟨.busy, .normal, t, [9, 10], kaq44x0, kbq44x0⟩))[b]? = H[b]? := fun b hb hne => by rw [at_set_ne _ _ _ _ (by omega)]; exact y.old b hb hne
 have st := fun {ex : Ex} {t2 : T} {K2 : AHeap} (hb : runC (envL prog) (bq44x0 (envL prog)) (((t.set 9 (.int .i64 (i : Int))).set 10 (.ptr d (i * 65))).set 5 (.ptr d (i * 65))) (K.set (H.length + 2) (.loop ⟨.busy, .normal, t, [9, 10], kaq44x0, kbq44x0⟩)) = some (ex, t2, K2)) (h2 : K2[H.length + 2]? = some (.loop ⟨.busy, .normal, t, [9, 10], kaq44x0, kbq44x0⟩)) =>
  yield_step (P := prog) (l := H.length + 2) (args := [.int .i64 (i : Int), .ptr d (i * 65)]) (K := K) (eaq44x0 _) (ebq44x0 _) y.lp rfl (t1 := ((t.set 9 (.int .i64 (i : Int))).set 10 (.ptr d (i * 65))).set 5 (.ptr d (i * 65))) (by
   unfold aq44x0
   simp -implicitDefEqProofs (maxSteps := 5000000) only [go_sem, Nat.reduceShiftRight, Nat.reduceAnd, Nat.reduceBNe, Int.reduceEq, Nat.reduceAdd, Nat.reduceSub, Nat.reduceMul, Nat.reduceLeDiff, reduceIte, reduceCtorEq, Nat.reduceBEq, Nat.reduceEqDiff, putParams, getT_set, ht, List.length_set, Nat.reduceLT]) hb h2
 generalize hK1 : K.set (H.length + 2) (.loop ⟨.busy, .normal, t, [9, 10], kaq44x0, kbq44x0⟩) = K1 at *
 obtain ⟨gv, ok, cap⟩ := m1.vs.at hx2
 have cb := m1.vs.cb
 obtain ⟨hvl, hr⟩ := ver_read gv ok
 obtain ⟨cs, hc, hv, hle, htk, _⟩ := m1.row hx2
 have hca : cellsA x.1 = some [x.1] := by
  rcases hr with ⟨z0, _⟩ | ⟨b, cs2, z, hz, z1, _⟩
  ·exact absurd z0 h1
  ·rw [z1]; rfl
 have l64 := ok.t.1
 have w64 : (u8s x.2.there).length = 64 := by rw [u8s_len]; exact l64
 have sp := splice_u8 (.int .u8 0) l64 (by omega)
 have hbs : BS K1 w (crashR (L.map (·.2)) zs i) := by
  rcases w2 with h | ⟨b, o, l, e, C, rfl, hC, h⟩
  ·exact .inl h
  ·obtain ⟨q1, q2⟩ := w4 b rfl
   exact .inr ⟨b, o, l, e, C, rfl, by rw [cells_congr (o1 b q1 q2)]; exact hC, h⟩
 have hwl := hbs.len
 have hkp := cells_rw p1
 cases hz : crashR (L.map (·.2)) zs i with
 | nil =>
  rw [hz] at hwl
  obtain ⟨z, C, z1, z2, ct, ix, hle2, htk2, se⟩ := crashTail m1 hx2 (k := 0) (by omega)
  have ob : Outs (runC (envL prog) (bq44x0 (envL prog)) (((t.set 9 (.int .i64 (i : Int))).set 10 (.ptr d (i * 65))).set 5 (.ptr d (i * 65))) K1) fun e _ K' => e = .normal ∧ K' = setD (K1 ++ [.rw (u8s x.2.there), .rw [.sl K1.length 0 64 1 1 true, x.1], .rw C]) d ((crL L zs i).set i (.nilSl, ⟨z, []⟩)) := by
   have d0 : decide ((0 : Int) > 0) = false := rfl
   rw [List.length_nil] at hwl
   rw [show ((0 : Nat) : Int) = 0 from rfl] at hwl ix
   rw [Nat.zero_mul, Nat.zero_add] at hle2
   rw [Nat.zero_mul, List.drop_zero] at htk2
   unfold bq44x0
   simp -implicitDefEqProofs (maxSteps := 5000000) only [go_sem, Nat.reduceShiftRight, Nat.reduceAnd, Nat.reduceBNe, Int.reduceEq, Nat.reduceAdd, Nat.reduceSub, Nat.reduceMul, Nat.reduceLeDiff, reduceIte, reduceCtorEq, Nat.reduceBEq, Nat.reduceEqDiff, getT_set, ht, ht3, List.length_set, Nat.reduceLT, hkp, hwl, d0, hc, cells_old hc, hv, hle, htk, w64, sp, hca, ct, ix, hle2, htk2, se, Nat.zero_mul, outs_normal]
  obtain ⟨e, t2, K2, er, rfl, rfl⟩ := ob
  have g : CrI H p d c L zs (.loop ⟨.busy, .normal, t, [9, 10], kaq44x0, kbq44x0⟩) i (i + 1) K1 := by
   have e : crashR (L.map (·.2)) zs (i + 1) = crashR (L.map (·.2)) zs i := by
    rw [hR]; unfold crashZ; rw [if_neg h1, hz]; rfl
   exact ⟨l1, b1, bx1, ⟨w, p1, by rw [e]; exact w2, w3, w4, by rw [e]; exact w5⟩, m1, o1⟩
  obtain ⟨K', yk, e2⟩ := CrI.end (B := [.rw (u8s x.2.there), .rw [.sl K1.length 0 64 1 1 true, x.1], .rw C]) hd hp y g hx hx2 z2 (by
   unfold crashSec
   rw [if_neg h1, hz]
   show (⟨((x.2.there :: x.2.vers)[0]?).getD [], []⟩ : Sec) = _
   rw [z1]; rfl)
  refine ⟨K', yk, (st er ?_).trans e2⟩
  unfold setD
  rw [at_set_ne _ _ _ _ (by omega), List.getElem?_append_left (by omega), b1]
 | cons z0 R =>
  rw [hz] at hwl hbs
  have hu0 : 0 ≤ z0 ∧ z0 ≤ 255 := by rw [hz] at w5; exact w5 z0 (by simp)
  rw [hz] at w2
  obtain ⟨w', s1, s2, s3, s4, s5, s6⟩ := w2.tail w3
  obtain ⟨ad, ia, la⟩ := hbs.idx (i := 0) (z := z0) rfl .i64
  rw [show ((0 : Nat) : Int) = 0 from rfl] at ia
  have nv : 0 < x.2.vers.length := by cases hq : x.2.vers with | nil => exact absurd hq h1 | cons _ _ => simp
  have md0 := Int.emod_nonneg z0 (show ((x.2.vers.length : Int) + 1) ≠ 0 by omega)
  have md1 := Int.emod_lt_of_pos z0 (show 0 < ((x.2.vers.length : Int) + 1) by omega)
  obtain ⟨k, hk⟩ : ∃ k : Nat, z0 % ((x.2.vers.length : Int) + 1) = k := ⟨(z0 % ((x.2.vers.length : Int) + 1)).toNat, by omega⟩
  have hrem : binV .rem .none (.int .i64 z0) (.int .i64 ((x.2.vers.length + 1 : Nat) : Int)) = some (.int .i64 (k : Int)) := by
   rw [int_rem _ _ _ _ (by omega), Int.tmod_eq_emod_of_nonneg hu0.1, ← hk]; rfl
  have wz : IntKind.i64.wrap z0 = z0 := wrap64 (by omega) (by omega)
  have wn : IntKind.i64.wrap ((x.2.vers.length : Int) + 1) = ((x.2.vers.length + 1 : Nat) : Int) := by rw [wrap64 (by omega) (by omega)]; omega
  obtain ⟨nn, hnn⟩ : ∃ nn : Nat, nn = (z0 :: R).length := ⟨_, rfl⟩
  have hn1 : 1 ≤ nn := by rw [hnn]; simp
  rw [← hnn] at hwl
  have hd0 : decide ((nn : Int) > 0) = true := decide_eq_true (by omega)
  have wr : writeN K1 H.length 0 [w'] = some (K1.set H.length (.rw [w'])) := by
   rw [write_of p1, if_pos ⟨by simp, by simp [s5]⟩, splice_one]; rfl
  have f3 : Fr K1 (K1.set H.length (.rw [w'])) (· = H.length) := Fr.set _ _ rfl
  have m3 := m1.fr f3 fun b hb => by
   rcases hb with rfl | rfl | ⟨x', hx', hb⟩
   ·omega
   ·omega
   ·rcases m1.vs.ver x' hx' with ⟨_, h0⟩ | ⟨h0', b', _, h0, hH⟩
    ·rw [h0] at hb; cases hb
    ·rw [h0] at hb; injection hb with hb; subst hb
     intro e; subst e
     rw [p1] at hH
     injection hH with hH; injection hH with hH
     have := congrArg List.length hH
     rw [rows_len (verR_len (m1.vs.ok x' hx'))] at this
     simp only [List.length_cons, List.length_nil] at this
     have pos : 1 ≤ (verR x'.2).length := by cases hq : verR x'.2 with | nil => exact absurd hq h0' | cons _ _ => simp
     omega
  have l3 : (K1.set H.length (.rw [w'])).length = H.length + 3 := by rw [List.length_set]; exact l1
  have p3 : (K1.set H.length (.rw [w']))[H.length]? = some (.rw [w']) := at_set _ _ _ (by omega)
  have b3 : (K1.set H.length (.rw [w']))[H.length + 2]? = _ := (at_set_ne _ _ _ _ (by omega)).trans b1
  have bx3 : cellsOf (K1.set H.length (.rw [w'])) (H.length + 1) = _ := (cells_set_ne _ _ _ _ (by omega)).trans bx1
  have o3 : ∀ b, b < H.length → b ≠ d → (K1.set H.length (.rw [w']))[b]? = H[b]? := fun b hb hne => (at_set_ne _ _ _ _ (by omega)).trans (o1 b hb hne)
  generalize hK3 : K1.set H.length (.rw [w']) = K3 at *
  obtain ⟨z, C, z1, z2, ct, ix, hle2, htk2, se⟩ := crashTail m3 hx2 (k := k) (by omega)
  obtain ⟨cs3, hc3, hv3, hle3, htk3, _⟩ := m3.row hx2
  have ob : Outs (runC (envL prog) (bq44x0 (envL prog)) (((t.set 9 (.int .i64 (i : Int))).set 10 (.ptr d (i * 65))).set 5 (.ptr d (i * 65))) K1) fun e _ K' => e = .normal ∧ K' = setD (K3 ++ [.rw (u8s x.2.there), .rw [.sl K3.length 0 64 1 1 true, x.1], .rw C]) d ((crL L zs i).set i (.nilSl, ⟨z, []⟩)) := by
   unfold bq44x0
   simp -implicitDefEqProofs (maxSteps := 5000000) only [go_sem, Nat.reduceShiftRight, Nat.reduceAnd, Nat.reduceBNe, Int.reduceEq, Nat.reduceAdd, Nat.reduceSub, Nat.reduceMul, Nat.reduceLeDiff, reduceIte, reduceCtorEq, Nat.reduceBEq, Nat.reduceEqDiff, getT_set, ht, ht3, List.length_set, Nat.reduceLT, hkp, hwl, hd0, ia, la, wz, hvl, wn, hrem, s1, store_one, s6, wr, hc, hc3, cells_old hc3, hv, hv3, hle3, htk3, w64, sp, hca, ct, ix, hle2, htk2, se, outs_normal]
  obtain ⟨e, t2, K2, er, rfl, rfl⟩ := ob
  have g : CrI H p d c L zs (.loop ⟨.busy, .normal, t, [9, 10], kaq44x0, kbq44x0⟩) i (i + 1) K3 := by
   have e : crashR (L.map (·.2)) zs (i + 1) = R := by
    rw [hR]; unfold crashZ; rw [if_neg h1, hz]; rfl
   exact ⟨l3, b3, bx3, ⟨w', p3, by rw [e]; exact s2, s3, by rw [s4]; exact w4, by rw [e]; rw [hz] at w5; exact fun z hz => w5 z (by simp [hz])⟩, m3, o3⟩
  obtain ⟨K', yk, e2⟩ := CrI.end (B := [.rw (u8s x.2.there), .rw [.sl K3.length 0 64 1 1 true, x.1], .rw C]) hd hp y g hx hx2 z2 (by
   unfold crashSec
   rw [if_neg h1, hz]
   show (⟨((x.2.there :: x.2.vers)[(z0 % ((x.2.vers.length : Int) + 1)).toNat]?).getD [], []⟩ : Sec) = _
   rw [hk, Int.toNat_natCast, z1]; rfl)
  refine ⟨K', yk, (st er ?_).trans e2⟩
  unfold setD
  rw [at_set_ne _ _ _ _ (by omega), List.getElem?_append_left (by omega), b3]
set_option maxHeartbeats 4000000 in
theorem diskCrashC {H : AHeap} {p d c : Nat} {L : List (AV × Sec)} (m : DK H p d c L) {v : AV} {zs : List Int} (b : BS H v zs) (hu : IsU8 zs) (hl : LenOk v) (hv : ∀ b, slb v = some b → b < H.length ∧ b ≠ d) (hvc : cellsA v = some [v]) :
  ∃ H', DK H' p d c ((crashS (L.map (·.2)) zs).map (fun s => (AV.nilSl, s))) ∧ KeepB H H' [d] ∧ (envL prog).call 44 [.ptr p 0, v] H = some (.tup [], H') := by
 have hd := lt_of_at m.blk
 have hp := lt_of_cells m.ptr
 have it : ∀ t : T, (t.length = 43 ∧ getT t 3 = .ptr H.length 0) → ∃ K, (envL prog).call 73 [.yld (H.length + 2), .ptr (H.length + 1) 0] (H ++ [.rw [v], .rw [.ptr p 0], .loop ⟨.ready, .normal, t, [9, 10], kaq44x0, kbq44x0⟩]) = some (.tup [], K) ∧
   CrI H p d c L zs (.loop ⟨.ready, .normal, t, [9, 10], kaq44x0, kbq44x0⟩) L.length L.length K := by
  rintro T ⟨hT, hT3⟩
  have hY : LooseY (H.length + 2) (H.length + 1) p d L.length (fun i K => CrI H p d c L zs (.loop ⟨.ready, .normal, T, [9, 10], kaq44x0, kbq44x0⟩) i i K) := by
   intro i K y hi
   obtain ⟨x, hx⟩ : ∃ x, L[i]? = some x := ⟨_, List.getElem?_eq_getElem hi⟩
   have hx2 : (crL L zs i)[i]? = some x := by rw [crL_get hi, hx]
   obtain ⟨_, hR⟩ := crashS_get (zs := zs) (get_map (fun y : AV × Sec => y.2) hx)
   refine ⟨c, crL L zs i, x, y.dk, crL_len L zs (by omega), y.bx, hx2, fun h0 => ?_, fun h1 => crashRound hd hp hT hT3 y hx hx2 h1⟩
   have ez : crashZ (crashR (L.map (·.2)) zs i) x.2 = crashR (L.map (·.2)) zs i := by unfold crashZ; rw [if_pos h0]
   have es : crashSec (crashR (L.map (·.2)) zs i) x.2 = x.2 := by unfold crashSec; rw [if_pos h0]
   have ev : x.1 = .nilSl := by
    rcases (y.dk.vs.at hx2).1 with ⟨_, hv⟩ | ⟨hv, _⟩
    ·exact hv
    ·exact absurd (by unfold verR; rw [h0]; rfl) hv
   obtain ⟨w, y6, y7, y8, y9, y10⟩ := y.pk
   refine ⟨y.len, y.lp, y.bx, ⟨w, y6, by rw [hR, ez]; exact y7, y8, y9, by rw [hR, ez]; exact y10⟩, ?_, y.old⟩
   rw [crL_step hx, es, ← ev, show (crL L zs i).set i (x.1, x.2) = crL L zs i from by
    apply List.ext_getElem?; intro j
    by_cases ej : i = j
    ·subst ej; rw [List.getElem?_set_self (List.getElem?_eq_some_iff.1 hx2).1, hx2]
    ·rw [List.getElem?_set_ne ej]]
   exact y.dk
  have m0 : DK (H ++ [.rw [v], .rw [.ptr p 0], .loop ⟨.ready, .normal, T, [9, 10], kaq44x0, kbq44x0⟩]) p d c L := m.fr (Fr.adds ⟨_, rfl⟩ (fun _ => False)) (fun _ _ h => h)
  have y0 : CrI H p d c L zs (.loop ⟨.ready, .normal, T, [9, 10], kaq44x0, kbq44x0⟩) 0 0 (H ++ [.rw [v], .rw [.ptr p 0], .loop ⟨.ready, .normal, T, [9, 10], kaq44x0, kbq44x0⟩]) := by
   have e : crashR (L.map (·.2)) zs 0 = zs := by cases L <;> rfl
   refine ⟨by simp, by simp, by unfold cellsOf; simp, ⟨v, by simp, by rw [e]; exact b, hl, hv, by rw [e]; exact hu⟩, ?_, fun b hb _ => List.getElem?_append_left hb⟩
   unfold crL
   rw [List.take_zero, List.map_nil, List.nil_append, List.drop_zero]
   exact m0
  obtain ⟨K, hK, e⟩ := looseC hY m.sz y0 y0.bx m0 rfl
  refine ⟨K, ?_, hK⟩
  rw [e]
  exact trim_same (by rw [hK.len]; simp)
 obtain ⟨KK, hKK⟩ := skolem_c it
 have e1 := fun t h1 h2 => (hKK t ⟨h1, h2⟩).1
 have e2 := fun t h1 h2 => (hKK t ⟨h1, h2⟩).2.lp
 have l0 := fun B => loose0 (p := p) (H ++ B)
 have o : Outs (runC (envL prog) (b44 (envL prog)) ([.ptr p 0, v] ++ List.replicate (43 - [AV.ptr p 0, v].length) .undef) H) fun e' t K' => (∃ t' : T, (t'.length = 43 ∧ getT t' 3 = .ptr H.length 0) ∧ K' = (KK t').set (H.length + 2) (.loop ⟨.exhausted, .normal, t', [9, 10], kaq44x0, kbq44x0⟩)) ∧ fin [] (some (e', t, K')) = some (.tup [], K') := by
  unfold b44
  generalize hQ : (fun (e' : Ex) (t : T) (K' : AHeap) => (∃ t' : T, (t'.length = 43 ∧ getT t' 3 = .ptr H.length 0) ∧ K' = (KK t').set (H.length + 2) (.loop ⟨.exhausted, .normal, t', [9, 10], kaq44x0, kbq44x0⟩)) ∧ fin [] (some (e', t, K')) = some (AV.tup [], K')) = Q
  simp -implicitDefEqProofs (maxSteps := 5000000) only [go_sem, Nat.reduceShiftRight, Nat.reduceAnd, Nat.reduceBNe, Int.reduceEq, Nat.reduceAdd, Nat.reduceSub, Nat.reduceMul, Nat.reduceLeDiff, reduceIte, reduceCtorEq, Nat.reduceBEq, Nat.reduceEqDiff, hvc, l0, runC_range, callF_fn, e1, rangeEnd, e2, outs_normal]
  subst hQ
  refine ⟨⟨_, ⟨rfl, rfl⟩, rfl⟩, ?_⟩
  simp -implicitDefEqProofs (maxSteps := 5000000) only [go_sem, Nat.reduceShiftRight, Nat.reduceAnd, Nat.reduceBNe, Int.reduceEq, Nat.reduceAdd, Nat.reduceSub, Nat.reduceMul, Nat.reduceLeDiff, reduceIte, reduceCtorEq, Nat.reduceBEq, Nat.reduceEqDiff]
 obtain ⟨e', t, K', hr, ⟨t', ht, rfl⟩, hf⟩ := o
 obtain ⟨_, kk⟩ := hKK t' ht
 have kl := kk.len
 have k4 := kk.dk
 rw [crL_all] at k4
 have hl2 : ((KK t').set (H.length + 2) (.loop ⟨.exhausted, .normal, t', [9, 10], kaq44x0, kbq44x0⟩)).length = H.length + 3 := by rw [List.length_set]; exact kl
 have fK : Fr H ((KK t').set (H.length + 2) (.loop ⟨.exhausted, .normal, t', [9, 10], kaq44x0, kbq44x0⟩)) (· = d) := ⟨by omega, fun b hb hn => by
  rw [at_set_ne _ _ _ _ (by omega)]; exact kk.old b hb hn⟩
 have dk : DK (((KK t').set (H.length + 2) (.loop ⟨.exhausted, .normal, t', [9, 10], kaq44x0, kbq44x0⟩)).take H.length) p d c ((crashS (L.map (·.2)) zs).map (fun s => (AV.nilSl, s))) := by
  refine ⟨?_, ?_, m.np, by simp [crashS_len]; exact m.sz, ⟨m.vs.cb, fun x hx => ?_, k4.vs.ok, k4.vs.cap, k4.vs.out, k4.vs.inj⟩⟩
  ·rw [take_cells hp, cells_set_ne _ _ _ _ (by omega)]; exact k4.ptr
  ·rw [take_get hd, at_set_ne _ _ _ _ (by omega)]; exact k4.blk
  ·rcases k4.vs.ver x hx with h | ⟨_, b', _, h0, _⟩
   ·exact .inl h
   ·obtain ⟨y, _, rfl⟩ := List.mem_map.1 hx
    cases h0
 refine ⟨_, dk, ⟨take_len fK.1, fun b hb => ?_⟩, ?_⟩
 ·by_cases hlt : b < H.length
  ·exact (take_get hlt).trans (fK.2 b hlt (by simpa using hb))
  ·rw [List.getElem?_eq_none (by rw [take_len fK.1]; omega), List.getElem?_eq_none (by omega)]
 ·rw [c44, hr, hf]
  refine trim_take fK.1 rfl fun b k' hb hk => ?_
  by_cases e : b = d
  ·subst e
   have hd2 := dk.blk
   rw [take_get hd] at hd2
   rw [hd2] at hk
   injection hk with hk; subst hk
   have := secR_under dk.vs
   rw [take_len fK.1] at this
   exact .inr this
  ·exact .inl ((fK.2 b hb e).symm.trans hk)
end Go.Proofs.Ytipedaadjfhdnaa.G06
end
