/- What the functions that RingTorn reaches answer, for every argument. No condition but those in each statement. -/
import Derived.Test.YtipedaadjfhdnaaN
import Derived.Test.YtipedaadjfhdnaaE6
set_option linter.unusedSimpArgs false
set_option linter.unusedVariables false
set_option linter.unusedSectionVars false
set_option maxRecDepth 10000
section
namespace Go.Proofs.Ytipedaadjfhdnaa.G06
open Go Go.Proofs.Ytipedaadjfhdnaa.Eng
theorem shr8 (n : Int) (i : Nat) : binV .shr .none (.int .u64 (n / 256 ^ i)) (.int .u64 8) = some (.int .u64 (n / 256 ^ (i + 1))) := by
 show (if (8 : Int) < 0 then none else some (AV.int .u64 ((n / 256 ^ i).fdiv (2 ^ min (Int.toNat 8) 64)))) = _
 rw [if_neg (by omega), show ((2 : Int) ^ min (Int.toNat 8) 64) = 256 from rfl, Int.fdiv_eq_ediv_of_nonneg _ (by omega), div_pow']
noncomputable abbrev LP1 (l : Env → CT) := (envL prog).loop (runC (envL prog) (l (envL prog)))
def ByteY (y p : Nat) (n : Int) (k : Nat) (Y : Nat → AHeap → Prop) : Prop :=
 ∀ i K, Y i K → i < k → K[p]? = some (.rw [.int .u64 (n / 256 ^ i)]) ∧ ∃ K', K'[p]? = some (.rw [.int .u64 (n / 256 ^ i)]) ∧ Y (i + 1) (K'.set p (.rw [.int .u64 (n / 256 ^ (i + 1))])) ∧ (envL prog).yield y [.int .u8 (n / 256 ^ i % 256)] K = some (.bool true, K')
set_option maxHeartbeats 2000000 in
theorem bytesL {y p k : Nat} {n : Int} {Y : Nat → AHeap → Prop} (hY : ByteY y p n k Y) (hk : k ≤ 4096) (x1 x3 : AV) : ∀ (m i : Nat) (K : AHeap) (j6 j7 j8 j9 j10 j11 j12 j13 j14 : AV), Y i K → i + m = k →
  Outs (LP1 l79x0 [.yld y, x1, .ptr p 0, x3, .int .i64 (k : Int), .int .i64 (i : Int), j6, j7, j8, j9, j10, j11, j12, j13, j14] K) fun e t K' => e = .exit 0 ∧ Y k K' ∧ ∃ fv : Nat → AV, t = [.yld y, x1, .ptr p 0, x3, .int .i64 (k : Int), (fv 5), (fv 6), (fv 7), (fv 8), (fv 9), (fv 10), (fv 11), (fv 12), (fv 13), (fv 14)] := by
 intro m
 obtain ⟨L, hL⟩ : ∃ L, L = LP1 l79x0 := ⟨_, rfl⟩
 have lo := loop_open hL
 rw [← hL]
 induction m with
 | zero =>
  intro i K j6 j7 j8 j9 j10 j11 j12 j13 j14 hK hi
  obtain rfl : i = k := by omega
  have hd : decide ((i : Int) < (i : Int)) = false := by simp
  rw [lo]
  unfold l79x0
  simp -implicitDefEqProofs (maxSteps := 5000000) only [go_sem, Nat.reduceShiftRight, Nat.reduceAnd, Nat.reduceBNe, Int.reduceEq, Nat.reduceAdd, Nat.reduceSub, Nat.reduceMul, Nat.reduceLeDiff, reduceIte, reduceCtorEq, Nat.reduceBEq, Nat.reduceEqDiff, hd, seqR_exit', outs_normal]
  exact ⟨hK, exF rfl⟩
 | succ m ih =>
  intro i K j6 j7 j8 j9 j10 j11 j12 j13 j14 hK hi
  have hlt : i < k := by omega
  have hd : decide ((i : Int) < (k : Int)) = true := decide_eq_true (by omega)
  have e2 : IntKind.i64.wrap ((i : Int) + 1) = ((i + 1 : Nat) : Int) := by rw [wrap64 (by omega) (by omega)]; omega
  obtain ⟨hp, K', hp', hK', hy⟩ := hY i K hK hlt
  have cp := cells_rw hp
  have cp' := cells_rw hp'
  have wr : writeN K' p 0 [.int .u64 (n / 256 ^ (i + 1))] = some (K'.set p (.rw [.int .u64 (n / 256 ^ (i + 1))])) := by
   rw [write_of hp', if_pos ⟨by simp, rfl⟩, splice_one]; rfl
  rw [lo]
  unfold l79x0
  simp -implicitDefEqProofs (maxSteps := 5000000) only [go_sem, Nat.reduceShiftRight, Nat.reduceAnd, Nat.reduceBNe, Int.reduceEq, Nat.reduceAdd, Nat.reduceSub, Nat.reduceMul, Nat.reduceLeDiff, reduceIte, reduceCtorEq, Nat.reduceBEq, Nat.reduceEqDiff, hd, cp, cp', wrapu8, hy, callV_yld, shr8, store_one, wr, e2]
  exact ih (i + 1) _ _ _ _ _ _ _ _ _ _ hK' (by omega)
set_option maxHeartbeats 2000000 in
theorem bytesC {y p q k : Nat} {n : Int} {Y : Nat → AHeap → Prop} (hY : ByteY y p n k Y) (hk : k ≤ 4096) {K : AHeap} (hK : Y 0 K) (hq : cellsOf K q = some [.int .i64 (k : Int)]) :
  ∃ K', Y k K' ∧ (envL prog).call 79 [.yld y, .ptr q 0, .ptr p 0] K = trim K (some (.tup [], K')) := by
 have l0 := bytesL hY hk (m := k) (i := 0)
 rw [show ((0 : Nat) : Int) = 0 from rfl] at l0
 have o : Outs (runC (envL prog) (b79 (envL prog)) ([.yld y, .ptr q 0, .ptr p 0] ++ List.replicate (15 - [AV.yld y, .ptr q 0, .ptr p 0].length) .undef) K) fun e' t K' => Y k K' ∧ fin [] (some (e', t, K')) = some (.tup [], K') := by
  unfold b79
  generalize hQ : (fun (e' : Ex) (t : T) (K' : AHeap) => Y k K' ∧ fin [] (some (e', t, K')) = some (.tup [], K')) = Q
  simp -implicitDefEqProofs (maxSteps := 5000000) only [go_sem, Nat.reduceShiftRight, Nat.reduceAnd, Nat.reduceBNe, Int.reduceEq, Nat.reduceAdd, Nat.reduceSub, Nat.reduceMul, Nat.reduceLeDiff, reduceIte, reduceCtorEq, Nat.reduceBEq, Nat.reduceEqDiff, runC_loop, hq]
  unfold LP1 at l0
  generalize (envL prog).loop (runC (envL prog) (l79x0 (envL prog))) = L0 at l0 ⊢
  refine outs_ctx (fun r => blockR 0 r) (l0 _ _ _ _ _ _ _ _ _ _ _ _ hK (by omega)) ?_
  rintro e t H' ⟨rfl, hK', k, rfl⟩
  simp -implicitDefEqProofs (maxSteps := 5000000) only [go_sem, Nat.reduceShiftRight, Nat.reduceAnd, Nat.reduceBNe, Int.reduceEq, Nat.reduceAdd, Nat.reduceSub, Nat.reduceMul, Nat.reduceLeDiff, reduceIte, reduceCtorEq, Nat.reduceBEq, Nat.reduceEqDiff, outs_normal]
  subst hQ
  refine ⟨hK', ?_⟩
  simp -implicitDefEqProofs (maxSteps := 5000000) only [go_sem, Nat.reduceShiftRight, Nat.reduceAnd, Nat.reduceBNe, Int.reduceEq, Nat.reduceAdd, Nat.reduceSub, Nat.reduceMul, Nat.reduceLeDiff, reduceIte, reduceCtorEq, Nat.reduceBEq, Nat.reduceEqDiff]
 obtain ⟨e', t, H', hr, hK', hf⟩ := o
 exact ⟨H', hK', by rw [c79, hr, hf]⟩
theorem bytes0 (n k : Int) (H : AHeap) : (envL prog).call 77 [.int .u64 n, .int .i64 k] H = some (.fn 79 [.ptr (H.length + 1) 0, .ptr H.length 0], H ++ [.rw [.int .u64 n], .rw [.int .i64 k]]) := by
 rw [c77]
 unfold b77
 simp -implicitDefEqProofs (maxSteps := 5000000) only [go_sem, Nat.reduceShiftRight, Nat.reduceAnd, Nat.reduceBNe, Int.reduceEq, Nat.reduceAdd, Nat.reduceSub, Nat.reduceMul, Nat.reduceLeDiff, reduceIte, reduceCtorEq, Nat.reduceBEq, Nat.reduceEqDiff]
 exact trim_keep (by simp [AV.under, underAll])
end Go.Proofs.Ytipedaadjfhdnaa.G06
end
section
namespace Go.Proofs.Ytipedaadjfhdnaa.G06
open Go Go.Proofs.Ytipedaadjfhdnaa.Eng
noncomputable abbrev PutL (s : LoopState) (t : T) : ABlk := .loop ⟨s, .normal, t, [16], kaq69x0, kbq69x0⟩
structure PutY (H : AHeap) (n : Int) (k : Nat) (s : LoopState) (t : T) (i : Nat) (K : AHeap) : Prop where
 old : ∀ b, b < H.length → K[b]? = H[b]?
 len : H.length + 4 ≤ K.length
 out : ∃ l, K[H.length]? = some (.rw [l]) ∧ GB K (H.length + 4) l (putS i n)
 num : K[H.length + 1]? = some (.rw [.int .u64 (n / 256 ^ i)])
 siz : K[H.length + 2]? = some (.rw [.int .i64 (k : Int)])
 lp : K[H.length + 3]? = some (PutL s t)
theorem under_of {H : AHeap} {B : Nat} {l : AV} {zs : List Int} (g : GB H B l zs) : l.under H.length = true := by
 rcases g with ⟨rfl, rfl⟩ | ⟨_, b, _, rfl, h⟩
 ·rfl
 ·have := lt_of_at h; simp [AV.under]; omega
set_option maxHeartbeats 4000000 in
theorem putRound {H : AHeap} {n : Int} {k : Nat} {t : T} (ht : t.length = 22) (h5 : getT t 5 = .ptr H.length 0) {i : Nat} (hi : i ≤ 1000) {K : AHeap} (y : PutY H n k .ready t i K) :
  ∃ K', PutY H n k .ready t (i + 1) (K'.set (H.length + 1) (.rw [.int .u64 (n / 256 ^ (i + 1))])) ∧ K'[H.length + 1]? = some (.rw [.int .u64 (n / 256 ^ i)]) ∧ (envL prog).yield (H.length + 3) [.int .u8 (n / 256 ^ i % 256)] K = some (.bool true, K') := by
 obtain ⟨l, hl, g⟩ := y.out
 have kl := y.len
 have g1 : GB (K.set (H.length + 3) (PutL .busy t)) (H.length + 4) l (putS i n) := g.fr (Fr.set (F := (· = H.length + 3)) _ _ rfl) fun b hb => by have := g.out b hb; omega
 have l1 : (K.set (H.length + 3) (PutL .busy t)).length = K.length := by simp
 have a0 : (K.set (H.length + 3) (PutL .busy t))[H.length]? = some (.rw [l]) := by rw [at_set_ne _ _ _ _ (by omega)]; exact hl
 have a1 : (K.set (H.length + 3) (PutL .busy t))[H.length + 1]? = some (.rw [.int .u64 (n / 256 ^ i)]) := by rw [at_set_ne _ _ _ _ (by omega)]; exact y.num
 have a2 : (K.set (H.length + 3) (PutL .busy t))[H.length + 2]? = some (.rw [.int .i64 (k : Int)]) := by rw [at_set_ne _ _ _ _ (by omega)]; exact y.siz
 have a3 : (K.set (H.length + 3) (PutL .busy t))[H.length + 3]? = some (PutL .busy t) := at_set _ _ _ (by omega)
 have ao : ∀ b, b < H.length → (K.set (H.length + 3) (PutL .busy t))[b]? = H[b]? := fun b hb => by rw [at_set_ne _ _ _ _ (by omega)]; exact y.old b hb
 have st := fun {ex : Ex} {t2 : T} {K2 : AHeap} (hb : runC (envL prog) (bq69x0 (envL prog)) ((t.set 16 (.int .u8 (n / 256 ^ i % 256))).set 6 (.int .u8 (n / 256 ^ i % 256))) (K.set (H.length + 3) (PutL .busy t)) = some (ex, t2, K2)) (h2 : K2[H.length + 3]? = some (PutL .busy t)) =>
  yield_step (P := prog) (l := H.length + 3) (args := [.int .u8 (n / 256 ^ i % 256)]) (K := K) (eaq69x0 _) (ebq69x0 _) y.lp rfl (t1 := (t.set 16 (.int .u8 (n / 256 ^ i % 256))).set 6 (.int .u8 (n / 256 ^ i % 256))) (by
   unfold aq69x0
   simp -implicitDefEqProofs (maxSteps := 5000000) only [go_sem, Nat.reduceShiftRight, Nat.reduceAnd, Nat.reduceBNe, Int.reduceEq, Nat.reduceAdd, Nat.reduceSub, Nat.reduceMul, Nat.reduceLeDiff, reduceIte, reduceCtorEq, Nat.reduceBEq, Nat.reduceEqDiff, putParams, getT_set, ht, List.length_set, Nat.reduceLT]) hb h2
 generalize hK1 : K.set (H.length + 3) (PutL .busy t) = K1 at *
 obtain ⟨P, hP⟩ : ∃ P, P = K1.take (H.length + 4) := ⟨_, rfl⟩
 have Pl : P.length = H.length + 4 := by rw [hP, List.length_take]; omega
 have gz : GB (K1 ++ [.rw [.int .u8 (n / 256 ^ i % 256)]]) P.length l (putS i n) := by rw [Pl]; exact g1.fr (Fr.adds ⟨_, rfl⟩ (fun _ => False)) fun _ _ h => h
 obtain ⟨l', K2, ad, g2, fr, hu, ha⟩ := GB.more (d := ty 1 false 1 [.int .u8 0]) rfl rfl (P := P) (H := K1 ++ [.rw [.int .u8 (n / 256 ^ i % 256)]]) ⟨K1.drop (H.length + 4) ++ [.rw [.int .u8 (n / 256 ^ i % 256)]], by rw [← List.append_assoc, hP, List.take_append_drop]⟩ gz (ys := [n / 256 ^ i % 256]) (y := .sl K1.length 0 1 1 1 true) (Src.block (by unfold cellsOf; simp [u8s]) rfl rfl) (by rw [putS_len]; simp; omega)
 rw [← putS_snoc, Pl] at g2
 have hu := hu (by simp)
 have cl := g2.cells
 have hk2 : ∀ b, b < H.length + 4 → K2[b]? = K1[b]? := fun b hb => by
  obtain ⟨G, rfl⟩ := ad
  rw [List.getElem?_append_left (by omega), hP, List.getElem?_take, if_pos hb]
 have l2 : K1.length < K2.length := by
  have := fr.1
  rw [List.length_append, List.length_singleton] at this
  omega
 have b0 := (hk2 H.length (by omega)).trans a0
 have wr : writeN K2 H.length 0 [l'] = some (K2.set H.length (.rw [l'])) := by
  rw [write_of b0, if_pos ⟨by simp, by simp [cl.2]⟩, splice_one]; rfl
 have c0 := cells_rw a0
 have ob : Outs (runC (envL prog) (bq69x0 (envL prog)) ((t.set 16 (.int .u8 (n / 256 ^ i % 256))).set 6 (.int .u8 (n / 256 ^ i % 256))) K1) fun e _ K' => e = .normal ∧ K' = K2.set H.length (.rw [l']) := by
  unfold bq69x0
  simp -implicitDefEqProofs (maxSteps := 5000000) only [go_sem, Nat.reduceShiftRight, Nat.reduceAnd, Nat.reduceBNe, Int.reduceEq, Nat.reduceAdd, Nat.reduceSub, Nat.reduceMul, Nat.reduceLeDiff, reduceIte, reduceCtorEq, Nat.reduceBEq, Nat.reduceEqDiff, getT_set, ht, h5, List.length_set, Nat.reduceLT, c0, ha, store_one, cl.1, wr, outs_normal]
 obtain ⟨e, t2, K', er, rfl, rfl⟩ := ob
 have e1 := st er (by rw [at_set_ne _ _ _ _ (by omega), hk2 _ (by omega)]; exact a3)
 simp only [Ex.isNormal, if_true] at e1
 have k0 : ((K2.set H.length (.rw [l'])).set (H.length + 3) (PutL .ready t))[H.length]? = some (.rw [l']) := by rw [at_set_ne _ _ _ _ (by omega), at_set _ _ _ (by omega)]
 refine ⟨(K2.set H.length (.rw [l'])).set (H.length + 3) (PutL .ready t), ⟨fun b hb => ?_, by simp; omega, ⟨l', ?_, ?_⟩, ?_, ?_, ?_⟩, ?_, e1.trans ?_⟩
 ·rw [at_set_ne _ _ _ _ (by omega), at_set_ne _ _ _ _ (by omega), at_set_ne _ _ _ _ (by omega), hk2 _ (by omega)]; exact ao b hb
 ·rw [at_set_ne _ _ _ _ (by omega)]; exact k0
 ·refine GB.fr (F := fun b => b < H.length + 4) ⟨by simp, fun b hb hn => ?_⟩ g2 fun b hb => by have := g2.out b hb; omega
  rw [at_set_ne _ _ _ _ (by omega), at_set_ne _ _ _ _ (by omega), at_set_ne _ _ _ _ (by omega)]
 ·exact at_set _ _ _ (by simp; omega)
 ·rw [at_set_ne _ _ _ _ (by omega), at_set_ne _ _ _ _ (by omega), at_set_ne _ _ _ _ (by omega), hk2 _ (by omega)]; exact a2
 ·rw [at_set_ne _ _ _ _ (by omega)]; exact at_set _ _ _ (by simp; omega)
 ·rw [at_set_ne _ _ _ _ (by omega), at_set_ne _ _ _ _ (by omega), hk2 _ (by omega)]; exact a1
 ·refine trim_dirty H.length (.rw [l]) (.rw [l']) l' hl k0 (by simp [ABlk.vals]) ?_ ?_
  ·cases h : l'.under K.length with
   | false => rfl
   | true =>
    rw [under_mono (by rw [List.length_append]; omega) h] at hu
    cases hu
  ·intro c hc
   simp only [ABlk.vals, List.mem_cons, List.not_mem_nil, or_false] at hc
   subst hc
   exact under_of g
set_option maxHeartbeats 4000000 in
theorem putC (n : Int) {k : Nat} (k1 : 1 ≤ k) (k2 : k ≤ 16) (H : AHeap) : ∃ l K, Adds H K ∧ GB K H.length l (putS k n) ∧ (envL prog).call 69 [.int .u64 n, .int .i64 (k : Int)] H = some (l, K) := by
 have it : ∀ t : T, (t.length = 22 ∧ getT t 5 = .ptr H.length 0) → ∃ K, (envL prog).call 79 [.yld (H.length + 3), .ptr (H.length + 2) 0, .ptr (H.length + 1) 0] (H ++ [.rw [.nilSl], .rw [.int .u64 n], .rw [.int .i64 (k : Int)], PutL .ready t]) = some (.tup [], K) ∧ PutY H n k .ready t k K := by
  rintro t ⟨ht, h5⟩
  have hY : ByteY (H.length + 3) (H.length + 1) n k (PutY H n k .ready t) := fun i K y hi => by
   obtain ⟨K', y', yn, e⟩ := putRound ht h5 (by omega) y
   exact ⟨y.num, K', yn, y', e⟩
  have y0 : PutY H n k .ready t 0 (H ++ [.rw [.nilSl], .rw [.int .u64 n], .rw [.int .i64 (k : Int)], PutL .ready t]) := by
   refine ⟨fun b hb => List.getElem?_append_left hb, by simp, ⟨.nilSl, by simp, .inl ⟨rfl, rfl⟩⟩, ?_, by simp, by simp⟩
   rw [Int.pow_zero, Int.ediv_one]; simp
  obtain ⟨K', yk, e⟩ := bytesC hY (by omega) (q := H.length + 2) y0 (by unfold cellsOf; simp)
  refine ⟨K', e.trans ?_, yk⟩
  obtain ⟨l, hl, g⟩ := yk.out
  refine trim_dirty H.length (.rw [.nilSl]) (.rw [l]) l (by simp) hl (by simp [ABlk.vals]) ?_ ?_
  ·rw [show (H ++ [.rw [.nilSl], .rw [.int .u64 n], .rw [.int .i64 (k : Int)], PutL .ready t]).length = H.length + 4 by simp]
   exact g.under fun e => by have := putS_len k n; rw [e] at this; simp at this; omega
  ·intro c hc
   simp only [ABlk.vals, List.mem_cons, List.not_mem_nil, or_false] at hc
   subst hc; rfl
 obtain ⟨KK, hKK⟩ := skolem_c it
 have e1 := fun t h1 h2 => (hKK t ⟨h1, h2⟩).1
 have e2 := fun t h1 h2 => (hKK t ⟨h1, h2⟩).2.lp
 obtain ⟨LL, hLL⟩ := skolem_v fun t ht => (hKK t ht).2.out
 have e3 : ∀ t, t.length = 22 → getT t 5 = .ptr H.length 0 → cellsOf ((KK t).set (H.length + 3) (PutL .exhausted t)) H.length = some [LL t] := fun t h1 h2 => by
  rw [cells_set_ne _ _ _ _ (by omega)]; exact cells_rw (hLL t ⟨h1, h2⟩).1
 have l0 := fun B => bytes0 n (k : Int) (H ++ B)
 have d1 : decide ((k : Int) < 1) = false := decide_eq_false (by omega)
 have d2 : decide ((k : Int) > 16) = false := decide_eq_false (by omega)
 have o : Outs (runC (envL prog) (b69 (envL prog)) ([.int .u64 n, .int .i64 (k : Int)] ++ List.replicate (22 - [AV.int .u64 n, .int .i64 (k : Int)].length) .undef) H) fun e' t K => (∃ t' : T, (t'.length = 22 ∧ getT t' 5 = .ptr H.length 0) ∧ K = (KK t').set (H.length + 3) (PutL .exhausted t') ∧ fin [.tmp 4] (some (e', t, K)) = some (LL t', K)) := by
  unfold b69
  generalize hQ : (fun (e' : Ex) (t : T) (K : AHeap) => ∃ t' : T, (t'.length = 22 ∧ getT t' 5 = .ptr H.length 0) ∧ K = (KK t').set (H.length + 3) (PutL .exhausted t') ∧ fin [.tmp 4] (some (e', t, K)) = some (LL t', K)) = Q
  simp -implicitDefEqProofs (maxSteps := 5000000) only [go_sem, Nat.reduceShiftRight, Nat.reduceAnd, Nat.reduceBNe, Int.reduceEq, Nat.reduceAdd, Nat.reduceSub, Nat.reduceMul, Nat.reduceLeDiff, reduceIte, reduceCtorEq, Nat.reduceBEq, Nat.reduceEqDiff, d1, d2, l0, runC_range, callF_fn, e1, rangeEnd, e2, e3, outs_normal]
  subst hQ
  refine ⟨_, ⟨rfl, rfl⟩, rfl, ?_⟩
  simp -implicitDefEqProofs (maxSteps := 5000000) only [go_sem, Nat.reduceShiftRight, Nat.reduceAnd, Nat.reduceBNe, Int.reduceEq, Nat.reduceAdd, Nat.reduceSub, Nat.reduceMul, Nat.reduceLeDiff, reduceIte, reduceCtorEq, Nat.reduceBEq, Nat.reduceEqDiff]
 obtain ⟨e', t, K, hr, ⟨t', ht, rfl, hf⟩⟩ := o
 obtain ⟨_, y⟩ := hKK t' ht
 obtain ⟨_, g⟩ := hLL t' ht
 have yl := y.len
 have g2 : GB ((KK t').set (H.length + 3) (PutL .exhausted t')) H.length (LL t') (putS k n) := by
  have := GB.fr (Fr.set (F := (· = H.length + 3)) (KK t') (PutL .exhausted t') rfl) g fun b hb => by have := g.out b hb; omega
  rcases this with h | ⟨h0, b, hb, h⟩
  ·exact .inl h
  ·exact .inr ⟨h0, b, by omega, h⟩
 refine ⟨LL t', _, ⟨((KK t').set (H.length + 3) (PutL .exhausted t')).drop H.length, ?_⟩, g2, ?_⟩
 ·conv => lhs; rw [← List.take_append_drop H.length ((KK t').set (H.length + 3) (PutL .exhausted t'))]
  congr 1
  apply List.ext_getElem?
  intro i
  rw [List.getElem?_take]
  split
  ·rw [at_set_ne _ _ _ _ (by omega)]; exact y.old i (by omega)
  ·rw [List.getElem?_eq_none (by omega)]
 ·rw [c69, hr, hf]
  exact trim_keep (g2.under fun e => by have := putS_len k n; rw [e] at this; simp at this; omega)
end Go.Proofs.Ytipedaadjfhdnaa.G06
end
section
namespace Go.Proofs.Ytipedaadjfhdnaa.G06
open Go Go.Proofs.Ytipedaadjfhdnaa.Eng
theorem shlU (z : Int) (i : Nat) : binV .shl .none (.int .u64 z) (.int .i64 ((8 * i : Nat) : Int)) = some (.int .u64 (IntKind.u64.wrap (z * 2 ^ min (8 * i) 64))) := by
 show (if ((8 * i : Nat) : Int) < 0 then none else some (AV.int .u64 (IntKind.u64.wrap (z * 2 ^ min (((8 * i : Nat) : Int)).toNat 64)))) = _
 rw [if_neg (by omega), Int.toNat_natCast]
theorem orU (x y : Int) : binV .or .none (.int .u64 x) (.int .u64 y) = some (.int .u64 (IntKind.u64.wrap ((BitVec.ofInt 64 x ||| BitVec.ofInt 64 y).toNat : Int))) := rfl
theorem xorU (x y : Int) : binV .xor .none (.int .u64 x) (.int .u64 y) = some (.int .u64 (IntKind.u64.wrap ((BitVec.ofInt 64 x ^^^ BitVec.ofInt 64 y).toNat : Int))) := rfl
section
variable {H : AHeap} {w : AV} {zs : List Int} (b : BS H w zs) (hu : IsU8 zs)
include b hu
set_option maxHeartbeats 2000000 in
theorem getL (hl : zs.length ≤ 8) (x0 x1 x2 x6 x7 x8 x9 x25 : AV) : ∀ (m i : Nat) (j4 j5 j13 j14 j15 j16 j17 j18 j19 j20 j21 j22 j23 j24 : AV), i + m = zs.length →
  Outs (LP1 l75x0 [x0, x1, x2, .int .u64 (getS (zs.take i)), j4, j5, x6, x7, x8, x9, w, .int .i64 (zs.length : Int), .int .i64 (i : Int), j13, j14, j15, j16, j17, j18, j19, j20, j21, j22, j23, j24, x25] H) fun e t K' => e = .exit 0 ∧ K' = H ∧ ∃ k : Nat → AV, t = [x0, x1, x2, .int .u64 (getS zs), (k 4), (k 5), x6, x7, x8, x9, w, .int .i64 (zs.length : Int), (k 12), (k 13), (k 14), (k 15), (k 16), (k 17), (k 18), (k 19), (k 20), (k 21), (k 22), (k 23), (k 24), x25] := by
 intro m
 obtain ⟨L, hL⟩ : ∃ L, L = LP1 l75x0 := ⟨_, rfl⟩
 have lo := loop_open hL
 rw [← hL]
 induction m with
 | zero =>
  intro i j4 j5 j13 j14 j15 j16 j17 j18 j19 j20 j21 j22 j23 j24 hi
  obtain rfl : i = zs.length := by omega
  have hd : decide ((zs.length : Int) < (zs.length : Int)) = false := by simp
  rw [lo, List.take_length]
  unfold l75x0
  simp -implicitDefEqProofs (maxSteps := 5000000) only [go_sem, Nat.reduceShiftRight, Nat.reduceAnd, Nat.reduceBNe, Int.reduceEq, Nat.reduceAdd, Nat.reduceSub, Nat.reduceMul, Nat.reduceLeDiff, reduceIte, reduceCtorEq, Nat.reduceBEq, Nat.reduceEqDiff, hd, seqR_exit', outs_normal]
  exact exF rfl
 | succ m ih =>
  intro i j4 j5 j13 j14 j15 j16 j17 j18 j19 j20 j21 j22 j23 j24 hi
  have hlt : i < zs.length := by omega
  have hd : decide ((i : Int) < (zs.length : Int)) = true := decide_eq_true (by omega)
  have e2 : IntKind.i64.wrap ((i : Int) + 1) = ((i + 1 : Nat) : Int) := by rw [wrap64 (by omega) (by omega)]; omega
  have e8 : IntKind.i64.wrap (8 * (i : Int)) = ((8 * i : Nat) : Int) := by rw [wrap64 (by omega) (by omega)]; omega
  have hz := List.getElem?_eq_getElem hlt
  have uz := hu _ (List.getElem_mem hlt)
  generalize zs[i] = z at *
  obtain ⟨a, ia, la⟩ := b.idx hz .i64
  have wz : IntKind.u64.wrap z = z := wrapu64_id (by omega) (by omega)
  have ut : IsU8 (zs.take i) := fun y hy => hu y (List.mem_of_mem_take hy)
  have gt := getS_lt ut
  have tl : (zs.take i).length = i := by rw [List.length_take]; omega
  rw [tl] at gt
  have ob := or_byte gt.1 gt.2 uz.1 uz.2 (show i < 8 by omega)
  have es : getS (zs.take (i + 1)) = getS (zs.take i) + z * 256 ^ i := by
   rw [List.take_add_one, hz]
   show getS (zs.take i ++ [z]) = _
   rw [getS_snoc, tl]
  rw [← es] at ob
  rw [lo]
  unfold l75x0
  simp -implicitDefEqProofs (maxSteps := 5000000) only [go_sem, Nat.reduceShiftRight, Nat.reduceAnd, Nat.reduceBNe, Int.reduceEq, Nat.reduceAdd, Nat.reduceSub, Nat.reduceMul, Nat.reduceLeDiff, reduceIte, reduceCtorEq, Nat.reduceBEq, Nat.reduceEqDiff, hd, ia, la, wz, e8, shlU, orU, ob, e2]
  exact ih (i + 1) _ _ _ _ _ _ _ _ _ _ _ _ _ _ (by omega)
set_option maxHeartbeats 2000000 in
theorem getC (hl : zs.length ≤ 8) (ok : LenOk w) : (envL prog).call 75 [w] H = some (.int .u64 (getS zs), H) := by
 have hn := b.len
 have mn : (if (8 : Int) < (zs.length : Int) then (8 : Int) else (zs.length : Int)) = (zs.length : Int) := if_neg (by omega)
 have ss : sliceS 1 w none (some (.int .i64 (zs.length : Int))) none = some w := by
  rcases b with ⟨rfl, rfl⟩ | ⟨bb, o, l, e, cs, rfl, hc, hg, hle⟩
  ·rfl
  ·have hlen : zs.length ≤ l := ok _ _ _ _ _ _ rfl
   simp [sliceS, asI, hlen]
 have l0 := getL b hu hl (m := zs.length) (i := 0)
 rw [show ((0 : Nat) : Int) = 0 from rfl, List.take_zero, show getS [] = 0 from rfl] at l0
 have o : Outs (runC (envL prog) (b75 (envL prog)) ([w] ++ List.replicate (26 - [w].length) .undef) H) fun e' t K' => fin [.tmp 2] (some (e', t, K')) = some (.int .u64 (getS zs), K') ∧ K' = H := by
  unfold b75
  generalize hQ : (fun (e' : Ex) (t : T) (K' : AHeap) => fin [.tmp 2] (some (e', t, K')) = some (AV.int .u64 (getS zs), K') ∧ K' = H) = Q
  simp -implicitDefEqProofs (maxSteps := 5000000) only [go_sem, Nat.reduceShiftRight, Nat.reduceAnd, Nat.reduceBNe, Int.reduceEq, Nat.reduceAdd, Nat.reduceSub, Nat.reduceMul, Nat.reduceLeDiff, reduceIte, reduceCtorEq, Nat.reduceBEq, Nat.reduceEqDiff, runC_loop, hn, mn, ss]
  unfold LP1 at l0
  generalize (envL prog).loop (runC (envL prog) (l75x0 (envL prog))) = L0 at l0 ⊢
  refine outs_ctx (fun r => seqR (blockR 0 r) _) (l0 _ _ _ _ _ _ _ _ _ _ _ _ _ _ _ _ _ _ _ _ _ _ (by omega)) ?_
  rintro e t H' ⟨rfl, rfl, k, rfl⟩
  simp -implicitDefEqProofs (maxSteps := 5000000) only [go_sem, Nat.reduceShiftRight, Nat.reduceAnd, Nat.reduceBNe, Int.reduceEq, Nat.reduceAdd, Nat.reduceSub, Nat.reduceMul, Nat.reduceLeDiff, reduceIte, reduceCtorEq, Nat.reduceBEq, Nat.reduceEqDiff, outs_normal]
  subst hQ
  refine ⟨?_, rfl⟩
  simp -implicitDefEqProofs (maxSteps := 5000000) only [go_sem, Nat.reduceShiftRight, Nat.reduceAnd, Nat.reduceBNe, Int.reduceEq, Nat.reduceAdd, Nat.reduceSub, Nat.reduceMul, Nat.reduceLeDiff, reduceIte, reduceCtorEq, Nat.reduceBEq, Nat.reduceEqDiff]
 obtain ⟨e', t, H', hr, hf, rfl⟩ := o
 rw [c75, hr, hf]
 exact trim_same rfl
end
end Go.Proofs.Ytipedaadjfhdnaa.G06
end
section
namespace Go.Proofs.Ytipedaadjfhdnaa.G06
open Go Go.Proofs.Ytipedaadjfhdnaa.Eng
def ValY (y : Nat) (w : AV) (zs : List Int) (Y : Nat → AHeap → Prop) : Prop :=
 ∀ i K z, Y i K → zs[i]? = some z → BS K w zs ∧ ∃ K', Y (i + 1) K' ∧ (envL prog).yield y [.int .u8 z] K = some (.bool true, K')
set_option maxHeartbeats 2000000 in
theorem valuesL {y : Nat} {w : AV} {zs : List Int} {Y : Nat → AHeap → Prop} (hY : ValY y w zs Y) (hk : zs.length ≤ 1000000000) (x1 x2 x3 : AV) : ∀ (m i : Nat) (K : AHeap) (j4 j8 j9 j10 j11 j12 j13 j14 j15 : AV), Y i K → i + m = zs.length →
  Outs (LP1 l81x0 [.yld y, x1, x2, x3, j4, w, .int .i64 (zs.length : Int), .int .i64 (i : Int), j8, j9, j10, j11, j12, j13, j14, j15] K) fun e t K' => e = .exit 0 ∧ Y zs.length K' ∧ ∃ k : Nat → AV, t = [.yld y, x1, x2, x3, (k 4), w, .int .i64 (zs.length : Int), (k 7), (k 8), (k 9), (k 10), (k 11), (k 12), (k 13), (k 14), (k 15)] := by
 intro m
 obtain ⟨L, hL⟩ : ∃ L, L = LP1 l81x0 := ⟨_, rfl⟩
 have lo := loop_open hL
 rw [← hL]
 induction m with
 | zero =>
  intro i K j4 j8 j9 j10 j11 j12 j13 j14 j15 hK hi
  obtain rfl : i = zs.length := by omega
  have hd : decide ((zs.length : Int) < (zs.length : Int)) = false := by simp
  rw [lo]
  unfold l81x0
  simp -implicitDefEqProofs (maxSteps := 5000000) only [go_sem, Nat.reduceShiftRight, Nat.reduceAnd, Nat.reduceBNe, Int.reduceEq, Nat.reduceAdd, Nat.reduceSub, Nat.reduceMul, Nat.reduceLeDiff, reduceIte, reduceCtorEq, Nat.reduceBEq, Nat.reduceEqDiff, hd, seqR_exit', outs_normal]
  exact ⟨hK, exF rfl⟩
 | succ m ih =>
  intro i K j4 j8 j9 j10 j11 j12 j13 j14 j15 hK hi
  have hlt : i < zs.length := by omega
  have hd : decide ((i : Int) < (zs.length : Int)) = true := decide_eq_true (by omega)
  have e2 : IntKind.i64.wrap ((i : Int) + 1) = ((i + 1 : Nat) : Int) := by rw [wrap64 (by omega) (by omega)]; omega
  have hz := List.getElem?_eq_getElem hlt
  generalize zs[i] = z at *
  obtain ⟨b, K', hK', hy⟩ := hY i K z hK hz
  obtain ⟨a, ia, la⟩ := b.idx hz .i64
  rw [lo]
  unfold l81x0
  simp -implicitDefEqProofs (maxSteps := 5000000) only [go_sem, Nat.reduceShiftRight, Nat.reduceAnd, Nat.reduceBNe, Int.reduceEq, Nat.reduceAdd, Nat.reduceSub, Nat.reduceMul, Nat.reduceLeDiff, reduceIte, reduceCtorEq, Nat.reduceBEq, Nat.reduceEqDiff, hd, ia, la, hy, callV_yld, e2]
  exact ih (i + 1) _ _ _ _ _ _ _ _ _ _ hK' (by omega)
set_option maxHeartbeats 2000000 in
theorem valuesC {y q : Nat} {w : AV} {zs : List Int} {Y : Nat → AHeap → Prop} (hY : ValY y w zs Y) (hk : zs.length ≤ 1000000000) {K : AHeap} (hK : Y 0 K) (b : BS K w zs) (hq : cellsOf K q = some [w]) :
  ∃ K', Y zs.length K' ∧ (envL prog).call 81 [.yld y, .ptr q 0] K = trim K (some (.tup [], K')) := by
 have l0 := valuesL hY hk (m := zs.length) (i := 0)
 have hn := b.len
 rw [show ((0 : Nat) : Int) = 0 from rfl] at l0
 have o : Outs (runC (envL prog) (b81 (envL prog)) ([.yld y, .ptr q 0] ++ List.replicate (16 - [AV.yld y, .ptr q 0].length) .undef) K) fun e' t K' => Y zs.length K' ∧ fin [] (some (e', t, K')) = some (.tup [], K') := by
  unfold b81
  generalize hQ : (fun (e' : Ex) (t : T) (K' : AHeap) => Y zs.length K' ∧ fin [] (some (e', t, K')) = some (.tup [], K')) = Q
  simp -implicitDefEqProofs (maxSteps := 5000000) only [go_sem, Nat.reduceShiftRight, Nat.reduceAnd, Nat.reduceBNe, Int.reduceEq, Nat.reduceAdd, Nat.reduceSub, Nat.reduceMul, Nat.reduceLeDiff, reduceIte, reduceCtorEq, Nat.reduceBEq, Nat.reduceEqDiff, runC_loop, hq, hn]
  unfold LP1 at l0
  generalize (envL prog).loop (runC (envL prog) (l81x0 (envL prog))) = L0 at l0 ⊢
  refine outs_ctx (fun r => blockR 0 r) (l0 _ _ _ _ _ _ _ _ _ _ _ _ _ hK (by omega)) ?_
  rintro e t H' ⟨rfl, hK', k, rfl⟩
  simp -implicitDefEqProofs (maxSteps := 5000000) only [go_sem, Nat.reduceShiftRight, Nat.reduceAnd, Nat.reduceBNe, Int.reduceEq, Nat.reduceAdd, Nat.reduceSub, Nat.reduceMul, Nat.reduceLeDiff, reduceIte, reduceCtorEq, Nat.reduceBEq, Nat.reduceEqDiff, outs_normal]
  subst hQ
  refine ⟨hK', ?_⟩
  simp -implicitDefEqProofs (maxSteps := 5000000) only [go_sem, Nat.reduceShiftRight, Nat.reduceAnd, Nat.reduceBNe, Int.reduceEq, Nat.reduceAdd, Nat.reduceSub, Nat.reduceMul, Nat.reduceLeDiff, reduceIte, reduceCtorEq, Nat.reduceBEq, Nat.reduceEqDiff]
 obtain ⟨e', t, H', hr, hK', hf⟩ := o
 exact ⟨H', hK', by rw [c81, hr, hf]⟩
theorem values0 {w : AV} (hc : cellsA w = some [w]) (H : AHeap) : (envL prog).call 80 [w] H = some (.fn 81 [.ptr H.length 0], H ++ [.rw [w]]) := by
 rw [c80]
 unfold b80
 simp -implicitDefEqProofs (maxSteps := 5000000) only [go_sem, Nat.reduceShiftRight, Nat.reduceAnd, Nat.reduceBNe, Int.reduceEq, Nat.reduceAdd, Nat.reduceSub, Nat.reduceMul, Nat.reduceLeDiff, reduceIte, reduceCtorEq, Nat.reduceBEq, Nat.reduceEqDiff, hc]
 exact trim_keep (by simp [AV.under, underAll])
noncomputable abbrev MoreL (s : LoopState) (t : T) : ABlk := .loop ⟨s, .normal, t, [8], kaq78x0, kbq78x0⟩
structure MoreY (H : AHeap) (w : AV) (h : Int) (zs : List Int) (s : LoopState) (t : T) (i : Nat) (K : AHeap) : Prop where
 old : ∀ b, b < H.length → K[b]? = H[b]?
 len : K.length = H.length + 3
 num : K[H.length]? = some (.rw [.int .u64 (moreS h (zs.take i))])
 box : K[H.length + 1]? = some (.rw [w])
 lp : K[H.length + 2]? = some (MoreL s t)
set_option maxHeartbeats 4000000 in
theorem moreRound {H : AHeap} {w : AV} {h : Int} {zs : List Int} (hu : IsU8 zs) {t : T} (ht : t.length = 15) (h2 : getT t 2 = .ptr H.length 0) {i : Nat} {K : AHeap} (y : MoreY H w h zs .ready t i K) {z : Int} (hz : zs[i]? = some z) :
  ∃ K', MoreY H w h zs .ready t (i + 1) K' ∧ (envL prog).yield (H.length + 2) [.int .u8 z] K = some (.bool true, K') := by
 have kl := y.len
 have uz := hu z (List.mem_of_getElem? hz)
 have wz : IntKind.u64.wrap z = z := wrapu64_id (by omega) (by omega)
 have es : moreS h (zs.take (i + 1)) = fnvStep (moreS h (zs.take i)) z := by
  rw [List.take_add_one, hz]
  show moreS h (zs.take i ++ [z]) = _
  unfold moreS
  rw [List.foldl_append]; rfl
 have l1 : (K.set (H.length + 2) (MoreL .busy t)).length = K.length := by simp
 have a0 : (K.set (H.length + 2) (MoreL .busy t))[H.length]? = some (.rw [.int .u64 (moreS h (zs.take i))]) := by rw [at_set_ne _ _ _ _ (by omega)]; exact y.num
 have a1 : (K.set (H.length + 2) (MoreL .busy t))[H.length + 1]? = some (.rw [w]) := by rw [at_set_ne _ _ _ _ (by omega)]; exact y.box
 have a2 : (K.set (H.length + 2) (MoreL .busy t))[H.length + 2]? = some (MoreL .busy t) := at_set _ _ _ (by omega)
 have ao : ∀ b, b < H.length → (K.set (H.length + 2) (MoreL .busy t))[b]? = H[b]? := fun b hb => by rw [at_set_ne _ _ _ _ (by omega)]; exact y.old b hb
 have st := fun {ex : Ex} {t2 : T} {K2 : AHeap} (hb : runC (envL prog) (bq78x0 (envL prog)) ((t.set 8 (.int .u8 z)).set 5 (.int .u8 z)) (K.set (H.length + 2) (MoreL .busy t)) = some (ex, t2, K2)) (h2 : K2[H.length + 2]? = some (MoreL .busy t)) =>
  yield_step (P := prog) (l := H.length + 2) (args := [.int .u8 z]) (K := K) (eaq78x0 _) (ebq78x0 _) y.lp rfl (t1 := (t.set 8 (.int .u8 z)).set 5 (.int .u8 z)) (by
   unfold aq78x0
   simp -implicitDefEqProofs (maxSteps := 5000000) only [go_sem, Nat.reduceShiftRight, Nat.reduceAnd, Nat.reduceBNe, Int.reduceEq, Nat.reduceAdd, Nat.reduceSub, Nat.reduceMul, Nat.reduceLeDiff, reduceIte, reduceCtorEq, Nat.reduceBEq, Nat.reduceEqDiff, putParams, getT_set, ht, List.length_set, Nat.reduceLT]) hb h2
 generalize hK1 : K.set (H.length + 2) (MoreL .busy t) = K1 at *
 have wr : writeN K1 H.length 0 [.int .u64 (moreS h (zs.take (i + 1)))] = some (K1.set H.length (.rw [.int .u64 (moreS h (zs.take (i + 1)))])) := by
  rw [write_of a0, if_pos ⟨by simp, rfl⟩, splice_one]; rfl
 have c0 := cells_rw a0
 have ef : IntKind.u64.wrap (IntKind.u64.wrap ((BitVec.ofInt 64 (moreS h (zs.take i)) ^^^ BitVec.ofInt 64 z).toNat : Int) * 1099511628211) = moreS h (zs.take (i + 1)) := es.symm
 have ob : Outs (runC (envL prog) (bq78x0 (envL prog)) ((t.set 8 (.int .u8 z)).set 5 (.int .u8 z)) K1) fun e _ K' => e = .normal ∧ K' = K1.set H.length (.rw [.int .u64 (moreS h (zs.take (i + 1)))]) := by
  unfold bq78x0
  simp -implicitDefEqProofs (maxSteps := 5000000) only [go_sem, Nat.reduceShiftRight, Nat.reduceAnd, Nat.reduceBNe, Int.reduceEq, Nat.reduceAdd, Nat.reduceSub, Nat.reduceMul, Nat.reduceLeDiff, reduceIte, reduceCtorEq, Nat.reduceBEq, Nat.reduceEqDiff, getT_set, ht, h2, List.length_set, Nat.reduceLT, c0, wz, xorU, ef, store_one, wr, outs_normal]
 obtain ⟨e, t2, K', er, rfl, rfl⟩ := ob
 have e1 := st er (by rw [at_set_ne _ _ _ _ (by omega)]; exact a2)
 simp only [Ex.isNormal, if_true] at e1
 refine ⟨(K1.set H.length (.rw [.int .u64 (moreS h (zs.take (i + 1)))])).set (H.length + 2) (MoreL .ready t), ⟨fun b hb => ?_, by simp; omega, ?_, ?_, ?_⟩, e1.trans (trim_same (by simp; omega))⟩
 ·rw [at_set_ne _ _ _ _ (by omega), at_set_ne _ _ _ _ (by omega)]; exact ao b hb
 ·rw [at_set_ne _ _ _ _ (by omega)]; exact at_set _ _ _ (by omega)
 ·rw [at_set_ne _ _ _ _ (by omega), at_set_ne _ _ _ _ (by omega)]; exact a1
 ·exact at_set _ _ _ (by simp; omega)
set_option maxHeartbeats 4000000 in
theorem moreC {H : AHeap} {w : AV} {zs : List Int} (b : BS H w zs) (hu : IsU8 zs) (hk : zs.length ≤ 1000000000) (h : Int) : (envL prog).call 78 [.int .u64 h, w] H = some (.int .u64 (moreS h zs), H) := by
 have hc : cellsA w = some [w] := by rcases b.is with rfl | ⟨_, _, _, _, _, _, rfl⟩ <;> rfl
 have it : ∀ t : T, (t.length = 15 ∧ getT t 2 = .ptr H.length 0) → ∃ K, (envL prog).call 81 [.yld (H.length + 2), .ptr (H.length + 1) 0] (H ++ [.rw [.int .u64 h], .rw [w], MoreL .ready t]) = some (.tup [], K) ∧ MoreY H w h zs .ready t zs.length K := by
  rintro t ⟨ht, h2⟩
  have hY : ValY (H.length + 2) w zs (MoreY H w h zs .ready t) := fun i K z y hz =>
   ⟨BS.fr b (F := fun _ => False) ⟨by rw [y.len]; omega, fun b hb _ => y.old b hb⟩ fun _ _ h => h, moreRound hu ht h2 y hz⟩
  have y0 : MoreY H w h zs .ready t 0 (H ++ [.rw [.int .u64 h], .rw [w], MoreL .ready t]) := by
   refine ⟨fun b hb => List.getElem?_append_left hb, by simp, ?_, by simp, by simp⟩
   rw [List.take_zero]; simp [moreS]
  obtain ⟨K', yk, e⟩ := valuesC hY hk (q := H.length + 1) y0 (b.mono _) (by unfold cellsOf; simp)
  exact ⟨K', e.trans (trim_same (by rw [yk.len]; simp)), yk⟩
 obtain ⟨KK, hKK⟩ := skolem_c it
 have e1 := fun t h1 h2 => (hKK t ⟨h1, h2⟩).1
 have e2 := fun t h1 h2 => (hKK t ⟨h1, h2⟩).2.lp
 have e3 : ∀ t, t.length = 15 → getT t 2 = .ptr H.length 0 → cellsOf ((KK t).set (H.length + 2) (MoreL .exhausted t)) H.length = some [.int .u64 (moreS h zs)] := fun t h1 h2 => by
  rw [cells_set_ne _ _ _ _ (by omega)]
  have := cells_rw (hKK t ⟨h1, h2⟩).2.num
  rw [List.take_length] at this; exact this
 have l0 := fun B => values0 hc (H ++ B)
 have o : Outs (runC (envL prog) (b78 (envL prog)) ([.int .u64 h, w] ++ List.replicate (15 - [AV.int .u64 h, w].length) .undef) H) fun e' t K => (∃ t' : T, (t'.length = 15 ∧ getT t' 2 = .ptr H.length 0) ∧ K = (KK t').set (H.length + 2) (MoreL .exhausted t') ∧ fin [.tmp 4] (some (e', t, K)) = some (.int .u64 (moreS h zs), K)) := by
  unfold b78
  generalize hQ : (fun (e' : Ex) (t : T) (K : AHeap) => ∃ t' : T, (t'.length = 15 ∧ getT t' 2 = .ptr H.length 0) ∧ K = (KK t').set (H.length + 2) (MoreL .exhausted t') ∧ fin [.tmp 4] (some (e', t, K)) = some (AV.int .u64 (moreS h zs), K)) = Q
  simp -implicitDefEqProofs (maxSteps := 5000000) only [go_sem, Nat.reduceShiftRight, Nat.reduceAnd, Nat.reduceBNe, Int.reduceEq, Nat.reduceAdd, Nat.reduceSub, Nat.reduceMul, Nat.reduceLeDiff, reduceIte, reduceCtorEq, Nat.reduceBEq, Nat.reduceEqDiff, l0, runC_range, callF_fn, e1, rangeEnd, e2, e3, outs_normal]
  subst hQ
  refine ⟨_, ⟨rfl, rfl⟩, rfl, ?_⟩
  simp -implicitDefEqProofs (maxSteps := 5000000) only [go_sem, Nat.reduceShiftRight, Nat.reduceAnd, Nat.reduceBNe, Int.reduceEq, Nat.reduceAdd, Nat.reduceSub, Nat.reduceMul, Nat.reduceLeDiff, reduceIte, reduceCtorEq, Nat.reduceBEq, Nat.reduceEqDiff]
 obtain ⟨e', t, K, hr, ⟨t', ht, rfl, hf⟩⟩ := o
 obtain ⟨_, y⟩ := hKK t' ht
 rw [c78, hr, hf]
 have el : (KK t').set (H.length + 2) (MoreL .exhausted t') = H ++ ((KK t').set (H.length + 2) (MoreL .exhausted t')).drop H.length := by
  conv => lhs; rw [← List.take_append_drop H.length ((KK t').set (H.length + 2) (MoreL .exhausted t'))]
  congr 1
  apply List.ext_getElem?
  intro i
  rw [List.getElem?_take]
  split
  ·rw [at_set_ne _ _ _ _ (by omega)]; exact y.old i (by omega)
  ·rw [List.getElem?_eq_none (by omega)]
 rw [el]
 exact trim_app rfl
theorem checkC {H : AHeap} {w : AV} {zs : List Int} (b : BS H w zs) (hu : IsU8 zs) (hk : zs.length ≤ 1000000000) : (envL prog).call 70 [w] H = some (.int .u64 (checkS zs), H) := by
 have e := moreC b hu hk 14695981039346656037
 rw [c70]
 unfold b70
 simp -implicitDefEqProofs (maxSteps := 5000000) only [go_sem, Nat.reduceShiftRight, Nat.reduceAnd, Nat.reduceBNe, Int.reduceEq, Nat.reduceAdd, Nat.reduceSub, Nat.reduceMul, Nat.reduceLeDiff, reduceIte, reduceCtorEq, Nat.reduceBEq, Nat.reduceEqDiff, e]
 rfl
end Go.Proofs.Ytipedaadjfhdnaa.G06
end
section
namespace Go.Proofs.Ytipedaadjfhdnaa.G06
open Go Go.Proofs.Ytipedaadjfhdnaa.Eng
noncomputable abbrev LQU (l : Env → CT) := (envL prog).loop (runC (envL prog) (l (envL prog)))
noncomputable abbrev tyU : TyD := ty 1 false 1 [.int .u8 0]
theorem growU {n : Nat} (h1 : 1 ≤ n) (hn : n ≤ 2000000000) (H : AHeap) : (envL prog).call 76 [.nilSl, .int .i64 (n : Int)] H = some (.sl H.length 0 1 0 n false, H ++ [.rw (List.replicate n (tyU).zero).flatten]) := by
 have w0 : IntKind.i64.wrap (0 - 0) = 0 := by decide
 have w1 : IntKind.i64.wrap ((n : Int) - 0) = (n : Int) := by rw [wrap64 (by omega) (by omega)]; omega
 have d1 : decide ((n : Int) < 0) = false := decide_eq_false (by omega)
 have d2 : decide ((n : Int) > 0) = true := decide_eq_true (by omega)
 have ha := appN_nil (d := tyU) (H := H) (n := n) (k := 1) (by omega) rfl (by decide) h1 (by unfold roomy; show n * 1 ≤ _; omega)
 have sl0 : sliceS 1 .nilSl none (some (.int .i64 0)) none = some .nilSl := by simp [sliceS, asI]
 have sl1 : sliceS 1 (.sl H.length 0 1 n n false) none (some (.int .i64 0)) none = some (.sl H.length 0 1 0 n false) := by simp [sliceS, asI]
 unfold tyU at ha
 rw [c76]
 unfold b76
 have hcap : capSl .nilSl = some (.int .i64 0) := rfl
 simp -implicitDefEqProofs (maxSteps := 5000000) only [go_sem, Nat.reduceShiftRight, Nat.reduceAnd, Nat.reduceBNe, Int.reduceEq, Nat.reduceAdd, Nat.reduceSub, Nat.reduceMul, Nat.reduceLeDiff, reduceIte, reduceCtorEq, Nat.reduceBEq, Nat.reduceEqDiff, hcap, w0, w1, d1, d2, ha, sl0, sl1]
 exact trim_keep (by simp [AV.under])
theorem grow0U (H : AHeap) : (envL prog).call 76 [.nilSl, .int .i64 0] H = some (.nilSl, H) := by
 have w0 : IntKind.i64.wrap (0 - 0) = 0 := by decide
 have d1 : decide ((0 : Int) < 0) = false := rfl
 have d2 : decide ((0 : Int) > 0) = false := rfl
 rw [c76]
 unfold b76
 have hcap : capSl .nilSl = some (.int .i64 0) := rfl
 simp -implicitDefEqProofs (maxSteps := 5000000) only [go_sem, Nat.reduceShiftRight, Nat.reduceAnd, Nat.reduceBNe, Int.reduceEq, Nat.reduceAdd, Nat.reduceSub, Nat.reduceMul, Nat.reduceLeDiff, reduceIte, reduceCtorEq, Nat.reduceBEq, Nat.reduceEqDiff, hcap, w0, d1, d2]
def totU (Xs : List (AV × Nat × List AV)) : Nat := (Xs.map fun x => x.2.1).sum
def catU (Xs : List (AV × Nat × List AV)) : List AV := (Xs.map fun x => x.2.2).flatten
section
variable {H : AHeap} {a : Nat} {Xs : List (AV × Nat × List AV)} (ha : cellsOf H a = some (Xs.map fun x => x.1)) (hs : ∀ x ∈ Xs, Src 1 H x.1 x.2.1 x.2.2) (ht : totU Xs ≤ 2000000000) (hX : Xs.length ≤ 1000)
include ha hs ht hX
set_option maxHeartbeats 2000000 in
theorem sumLU (x0 x1 x2 x4 x6 x7 x8 x23 x24 x25 x26 x27 x28 x29 x30 x31 x32 x33 x34 x35 : AV) : ∀ (k i : Nat) (j5 j12 j13 j14 j15 j16 j17 j18 j19 j20 j21 j22 : AV), i + k = Xs.length →
  Outs (LQU l68x0 [x0, x1, x2, .int .i64 (totU (Xs.take i) : Int), x4, j5, x6, x7, x8, .sl a 0 1 Xs.length Xs.length true, .int .i64 (Xs.length : Int), .int .i64 (i : Int), j12, j13, j14, j15, j16, j17, j18, j19, j20, j21, j22, x23, x24, x25, x26, x27, x28, x29, x30, x31, x32, x33, x34, x35] H) fun e t H' => e = .exit 0 ∧ H' = H ∧ ∃ k : Nat → AV, t = [x0, x1, x2, .int .i64 (totU Xs : Int), x4, (k 5), x6, x7, x8, .sl a 0 1 Xs.length Xs.length true, .int .i64 (Xs.length : Int), (k 11), (k 12), (k 13), (k 14), (k 15), (k 16), (k 17), (k 18), (k 19), (k 20), (k 21), (k 22), x23, x24, x25, x26, x27, x28, x29, x30, x31, x32, x33, x34, x35] := by
 intro k
 obtain ⟨L, hL⟩ : ∃ L, L = LQU l68x0 := ⟨_, rfl⟩
 have lo := loop_open hL
 rw [← hL]
 induction k with
 | zero =>
  intro i j5 j12 j13 j14 j15 j16 j17 j18 j19 j20 j21 j22 hi
  obtain rfl : i = Xs.length := by omega
  have hd : decide ((Xs.length : Int) < (Xs.length : Int)) = false := by simp
  rw [List.take_length, lo]
  unfold l68x0
  simp -implicitDefEqProofs (maxSteps := 5000000) only [go_sem, Nat.reduceShiftRight, Nat.reduceAnd, Nat.reduceBNe, Int.reduceEq, Nat.reduceAdd, Nat.reduceSub, Nat.reduceMul, Nat.reduceLeDiff, reduceIte, reduceCtorEq, Nat.reduceBEq, Nat.reduceEqDiff, hd, seqR_exit', outs_normal]
  exact exF rfl
 | succ k ih =>
  intro i j5 j12 j13 j14 j15 j16 j17 j18 j19 j20 j21 j22 hi
  have hlt : i < Xs.length := by omega
  have hx := List.getElem?_eq_getElem hlt
  have hv := get_map (fun x : AV × Nat × List AV => x.1) hx
  have sx := hs _ (List.getElem_mem hlt)
  generalize Xs[i] = x at *
  have hd : decide ((i : Int) < (Xs.length : Int)) = true := decide_eq_true (by omega)
  have et : totU (Xs.take (i + 1)) = totU (Xs.take i) + x.2.1 := by unfold totU; rw [List.take_add_one, hx]; simp
  have le : totU (Xs.take (i + 1)) ≤ totU Xs := by
   unfold totU
   rw [← List.take_append_drop (i + 1) Xs, List.map_append, List.sum_append, List.take_append_drop]
   exact Nat.le_add_right _ _
  have e2 : IntKind.i64.wrap ((i : Int) + 1) = ((i + 1 : Nat) : Int) := by
   skip
   rw [wrap64 (by omega) (by omega)]; omega
  have e3 : IntKind.i64.wrap ((totU (Xs.take i) : Int) + (x.2.1 : Int)) = (totU (Xs.take (i + 1)) : Int) := by rw [wrap64 (by omega) (by omega)]; omega
  have d3 : decide ((totU (Xs.take (i + 1)) : Int) < 0) = false := decide_eq_false (by omega)
  have ix := idx_nat a 1 Xs.length Xs.length i true .i64 (by omega) hlt
  rw [Nat.mul_one] at ix
  have hl := sx.len
  rw [lo]
  unfold l68x0
  simp -implicitDefEqProofs (maxSteps := 5000000) only [go_sem, Nat.reduceShiftRight, Nat.reduceAnd, Nat.reduceBNe, Int.reduceEq, Nat.reduceAdd, Nat.reduceSub, Nat.reduceMul, Nat.reduceLeDiff, reduceIte, reduceCtorEq, Nat.reduceBEq, Nat.reduceEqDiff, hd, ix, ha, hv, hl, e2, e3, d3]
  exact ih (i + 1) _ _ _ _ _ _ _ _ _ _ _ _ (by omega)
def OutU (H : AHeap) (Xs : List (AV × Nat × List AV)) (i : Nat) (l : AV) (H' : AHeap) : Prop :=
 (totU Xs = 0 ∧ l = .nilSl ∧ H' = H) ∨ (totU Xs ≠ 0 ∧ l = .sl H.length 0 1 (totU (Xs.take i)) (totU Xs) false ∧ ∃ Z : List AV, Z.length + totU (Xs.take i) * 1 = totU Xs * 1 ∧ H' = H ++ [.rw (catU (Xs.take i) ++ Z)])
theorem catlenU : ∀ i, (catU (Xs.take i)).length = totU (Xs.take i) * 1 := by
 intro i
 have : ∀ Ys : List (AV × Nat × List AV), (∀ x ∈ Ys, x.2.2.length = x.2.1 * 1) → (catU Ys).length = totU Ys * 1 := by
  intro Ys
  induction Ys with
  | nil => intro _; rfl
  | cons x Ys ih =>
   intro h
   have e := ih fun y hy => h y (by simp [hy])
   unfold catU totU at e ⊢
   rw [List.map_cons, List.map_cons, List.flatten_cons, List.sum_cons, List.length_append, e, h x (by simp), Nat.add_mul]
 exact this _ fun x hx => (hs x (List.mem_of_mem_take hx)).clen
set_option maxHeartbeats 2000000 in
theorem catLU (x0 x1 x2 x3 x4 x5 x7 x9 x10 x11 x12 x13 x14 x15 x16 x17 x18 x19 x20 x21 x22 x23 x24 x35 : AV) : ∀ (k i : Nat) (l : AV) (H1 : AHeap) (j8 j28 j29 j30 j31 j32 j33 j34 : AV), OutU H Xs i l H1 → i + k = Xs.length →
  Outs (LQU l68x1 [x0, x1, x2, x3, x4, x5, l, x7, j8, x9, x10, x11, x12, x13, x14, x15, x16, x17, x18, x19, x20, x21, x22, x23, x24, .sl a 0 1 Xs.length Xs.length true, .int .i64 (Xs.length : Int), .int .i64 (i : Int), j28, j29, j30, j31, j32, j33, j34, x35] H1) fun e t H' => e = .exit 2 ∧ ∃ l', OutU H Xs Xs.length l' H' ∧ ∃ k : Nat → AV, t = [x0, x1, x2, x3, x4, x5, l', x7, (k 8), x9, x10, x11, x12, x13, x14, x15, x16, x17, x18, x19, x20, x21, x22, x23, x24, .sl a 0 1 Xs.length Xs.length true, .int .i64 (Xs.length : Int), (k 27), (k 28), (k 29), (k 30), (k 31), (k 32), (k 33), (k 34), x35] := by
 intro k
 obtain ⟨L, hL⟩ : ∃ L, L = LQU l68x1 := ⟨_, rfl⟩
 have lo := loop_open hL
 rw [← hL]
 induction k with
 | zero =>
  intro i l H1 j8 j28 j29 j30 j31 j32 j33 j34 ho hi
  obtain rfl : i = Xs.length := by omega
  have hd : decide ((Xs.length : Int) < (Xs.length : Int)) = false := by simp
  rw [lo]
  unfold l68x1
  simp -implicitDefEqProofs (maxSteps := 5000000) only [go_sem, Nat.reduceShiftRight, Nat.reduceAnd, Nat.reduceBNe, Int.reduceEq, Nat.reduceAdd, Nat.reduceSub, Nat.reduceMul, Nat.reduceLeDiff, reduceIte, reduceCtorEq, Nat.reduceBEq, Nat.reduceEqDiff, hd, seqR_exit', outs_normal]
  exact ⟨l, ho, exF rfl⟩
 | succ k ih =>
  intro i l H1 j8 j28 j29 j30 j31 j32 j33 j34 ho hi
  have hlt : i < Xs.length := by omega
  have cl := catlenU ha hs ht hX
  have hx := List.getElem?_eq_getElem hlt
  have hv := get_map (fun x : AV × Nat × List AV => x.1) hx
  have sx := hs _ (List.getElem_mem hlt)
  generalize Xs[i] = x at *
  have hd : decide ((i : Int) < (Xs.length : Int)) = true := decide_eq_true (by omega)
  have et : totU (Xs.take (i + 1)) = totU (Xs.take i) + x.2.1 := by unfold totU; rw [List.take_add_one, hx]; simp
  have ec : catU (Xs.take (i + 1)) = catU (Xs.take i) ++ x.2.2 := by unfold catU; rw [List.take_add_one, hx]; simp
  have le : totU (Xs.take (i + 1)) ≤ totU Xs := by
   unfold totU
   rw [← List.take_append_drop (i + 1) Xs, List.map_append, List.sum_append, List.take_append_drop]
   exact Nat.le_add_right _ _
  have e2 : IntKind.i64.wrap ((i : Int) + 1) = ((i + 1 : Nat) : Int) := by rw [wrap64 (by omega) (by omega)]; omega
  have ix := idx_nat a 1 Xs.length Xs.length i true .i64 (by omega) hlt
  rw [Nat.mul_one] at ix
  obtain ⟨l2, H2, ho2, ea⟩ : ∃ l2 H2, OutU H Xs (i + 1) l2 H2 ∧ app tyU l x.1 H1 = some (l2, H2) := by
   rcases ho with ⟨h0, rfl, rfl⟩ | ⟨h0, rfl, Z, hZ, rfl⟩
   ·have : x.2.1 = 0 := by omega
    rw [this] at sx
    exact ⟨_, _, .inl ⟨h0, rfl, rfl⟩, app_nil0 rfl sx⟩
   ·refine ⟨_, _, .inr ⟨h0, rfl, Z.drop x.2.2.length, ?_, rfl⟩, ?_⟩
    ·rw [List.length_drop, sx.clen, et, Nat.add_mul]
     rw [et] at le
     have := Nat.mul_le_mul_right 1 le
     rw [Nat.add_mul] at this
     omega
    ·have := app_in (k := 1) (by omega) (d := tyU) rfl (H := H ++ [.rw (catU (Xs.take i) ++ Z)]) (b := H.length) (m := totU (Xs.take i)) (n := totU Xs) (A := catU (Xs.take i)) (Z := Z) (by simp) (cl i) (sx.adds _) (by
      rw [sx.clen]
      rw [et] at le
      have := Nat.mul_le_mul_right 1 le
      rw [Nat.add_mul] at this
      omega) (by omega)
     rw [this, et, ec]
     simp
  have hm : ∀ G, cellsOf (H ++ G) a = some (Xs.map fun x => x.1) := fun G => cells_old ha
  have hm1 : cellsOf H1 a = some (Xs.map fun x => x.1) := by
   rcases ho with ⟨_, _, rfl⟩ | ⟨_, _, Z, _, rfl⟩
   ·exact ha
   ·exact hm _
  unfold tyU at ea
  rw [lo]
  unfold l68x1
  simp -implicitDefEqProofs (maxSteps := 5000000) only [go_sem, Nat.reduceShiftRight, Nat.reduceAnd, Nat.reduceBNe, Int.reduceEq, Nat.reduceAdd, Nat.reduceSub, Nat.reduceMul, Nat.reduceLeDiff, reduceIte, reduceCtorEq, Nat.reduceBEq, Nat.reduceEqDiff, hd, ix, hm1, hv, e2, ea]
  exact ih (i + 1) l2 H2 _ _ _ _ _ _ _ _ ho2 (by omega)
set_option maxHeartbeats 2000000 in
theorem concatU : ∃ l H', ((totU Xs = 0 ∧ l = .nilSl ∧ H' = H) ∨ (totU Xs ≠ 0 ∧ l = .sl H.length 0 1 (totU Xs) (totU Xs) false ∧ H' = H ++ [.rw (catU Xs)])) ∧ (envL prog).call 68 [.sl a 0 1 Xs.length Xs.length true] H = some (l, H') := by
 have l0 := sumLU ha hs ht hX (k := Xs.length) (i := 0)
 have cl := catlenU ha hs ht hX
 rw [show ((0 : Nat) : Int) = 0 from rfl, List.take_zero, show totU [] = 0 from rfl, show ((0 : Nat) : Int) = 0 from rfl] at l0
 have l1 := catLU ha hs ht hX (k := Xs.length) (i := 0)
 rw [show ((0 : Nat) : Int) = 0 from rfl] at l1
 obtain ⟨g, H1, ho, hg⟩ : ∃ g H1, OutU H Xs 0 g H1 ∧ (envL prog).call 76 [.nilSl, .int .i64 (totU Xs : Int)] H = some (g, H1) := by
  by_cases h0 : totU Xs = 0
  ·refine ⟨_, _, .inl ⟨h0, rfl, rfl⟩, ?_⟩
   rw [h0]; exact grow0U H
  ·refine ⟨_, _, .inr ⟨h0, rfl, (List.replicate (totU Xs) (tyU).zero).flatten, ?_, rfl⟩, ?_⟩
   ·rw [rep_zero_len (k := 1) (by rfl), List.take_zero, show totU [] = 0 from rfl, Nat.zero_mul, Nat.add_zero]
   ·rw [List.take_zero, show totU [] = 0 from rfl, show catU [] = [] from rfl, List.nil_append]
    exact growU (by omega) ht H
 have o : Outs (runC (envL prog) (b68 (envL prog)) ([.sl a 0 1 Xs.length Xs.length true] ++ List.replicate (36 - [AV.sl a 0 1 Xs.length Xs.length true].length) .undef) H) fun e' t H' => ∃ l, OutU H Xs Xs.length l H' ∧ fin [.tmp 2] (some (e', t, H')) = some (l, H') := by
  unfold b68
  generalize hQ : (fun (e' : Ex) (t : T) (H' : AHeap) => ∃ l, OutU H Xs Xs.length l H' ∧ fin [.tmp 2] (some (e', t, H')) = some (l, H')) = Q
  simp -implicitDefEqProofs (maxSteps := 5000000) only [go_sem, Nat.reduceShiftRight, Nat.reduceAnd, Nat.reduceBNe, Int.reduceEq, Nat.reduceAdd, Nat.reduceSub, Nat.reduceMul, Nat.reduceLeDiff, reduceIte, reduceCtorEq, Nat.reduceBEq, Nat.reduceEqDiff, runC_loop]
  unfold LQU at l0 l1
  generalize (envL prog).loop (runC (envL prog) (l68x0 (envL prog))) = L0 at l0 ⊢
  refine outs_ctx (fun r => seqR (blockR 0 r) _) (l0 _ _ _ _ _ _ _ _ _ _ _ _ _ _ _ _ _ _ _ _ _ _ _ _ _ _ _ _ _ _ _ _ (by omega)) ?_
  rintro e t H' ⟨rfl, rfl, k, rfl⟩
  simp -implicitDefEqProofs (maxSteps := 5000000) only [go_sem, Nat.reduceShiftRight, Nat.reduceAnd, Nat.reduceBNe, Int.reduceEq, Nat.reduceAdd, Nat.reduceSub, Nat.reduceMul, Nat.reduceLeDiff, reduceIte, reduceCtorEq, Nat.reduceBEq, Nat.reduceEqDiff, runC_loop, hg]
  generalize (envL prog).loop (runC (envL prog) (l68x1 (envL prog))) = L1 at l1 ⊢
  refine outs_ctx (fun r => seqR (blockR 2 r) _) (l1 _ _ _ _ _ _ _ _ _ _ _ _ _ _ _ _ _ _ _ _ _ _ _ _ _ _ _ _ _ _ _ _ _ _ ho (by omega)) ?_
  rintro e t H' ⟨rfl, l, ho, k, rfl⟩
  simp -implicitDefEqProofs (maxSteps := 5000000) only [go_sem, Nat.reduceShiftRight, Nat.reduceAnd, Nat.reduceBNe, Int.reduceEq, Nat.reduceAdd, Nat.reduceSub, Nat.reduceMul, Nat.reduceLeDiff, reduceIte, reduceCtorEq, Nat.reduceBEq, Nat.reduceEqDiff, outs_normal]
  subst hQ
  refine ⟨l, ho, ?_⟩
  simp -implicitDefEqProofs (maxSteps := 5000000) only [go_sem, Nat.reduceShiftRight, Nat.reduceAnd, Nat.reduceBNe, Int.reduceEq, Nat.reduceAdd, Nat.reduceSub, Nat.reduceMul, Nat.reduceLeDiff, reduceIte, reduceCtorEq, Nat.reduceBEq, Nat.reduceEqDiff]
 obtain ⟨e', t, H', hr, l, ho, hf⟩ := o
 rw [c68, hr, hf]
 rcases ho with ⟨h0, rfl, rfl⟩ | ⟨h0, rfl, Z, hZ, rfl⟩
 ·exact ⟨_, _, .inl ⟨h0, rfl, rfl⟩, trim_same rfl⟩
 ·rw [List.take_length] at hZ ⊢
  obtain rfl : Z = [] := List.eq_nil_of_length_eq_zero (by omega)
  rw [List.append_nil]
  exact ⟨_, _, .inr ⟨h0, rfl, rfl⟩, trim_keep (by simp [AV.under])⟩
end
end Go.Proofs.Ytipedaadjfhdnaa.G06
end
section
namespace Go.Proofs.Ytipedaadjfhdnaa.G06
open Go Go.Proofs.Ytipedaadjfhdnaa.Eng
theorem adds_at {H K : AHeap} (a : Adds H K) {b : Nat} {k : ABlk} (h : H[b]? = some k) : K[b]? = some k := by
 obtain ⟨G, rfl⟩ := a
 rw [List.getElem?_append_left (lt_of_at h)]; exact h
theorem trim_adds {H K : AHeap} (a : Adds H K) {v : AV} (hv : v.under H.length = true) : trim H (some (v, K)) = some (v, H) := by
 obtain ⟨G, rfl⟩ := a
 exact trim_app hv
theorem adds_set {H K : AHeap} (a : Adds H K) {b : Nat} (k : ABlk) (h : H.length ≤ b) : Adds H (K.set b k) := by
 obtain ⟨G, rfl⟩ := a
 exact ⟨G.set (b - H.length) k, by rw [List.set_append_right _ _ h]⟩
theorem encBad {p : PgS} (h : p.Ok) (hk : encOk p.m p.i = false) (H : AHeap) : (envL prog).call 51 [.agg p.cells] H = some (.tup [.agg (u8s z64), .int .i64 11], H) := by
 obtain ⟨m, s, i, b⟩ := p
 unfold PgS.cells
 simp only at *
 rw [c51]
 unfold b51
 have ua : ∀ n, underAll n (u8s z64) = true := fun n => u8s_all _ n
 have sp := splice_all z64_len z64_len (by omega)
 have t64 := u8s_take z64_len
 by_cases hm : m = 0
 ·subst hm
  simp -implicitDefEqProofs (maxSteps := 5000000) only [go_sem, Nat.reduceShiftRight, Nat.reduceAnd, Nat.reduceBNe, Int.reduceEq, Nat.reduceAdd, Nat.reduceSub, Nat.reduceMul, Nat.reduceLeDiff, reduceIte, reduceCtorEq, Nat.reduceBEq, Nat.reduceEqDiff, wrap64, runC_loop, runC_range, callF_fn, callV_fn, callV_yld, yield_eq, yieldBody, yieldRaw, roundMid, roundEnd, rangeEnd, Bool.not_not, put_cons, put_nil, trim_same, at_zero, at_add, set_zero, set_add, store_one, write_zero, write_add, write_head, write_succ, splice_one, splice_more, List.drop_nil, List.take_nil, cell_int, cell_bool, fillS, splice_one, idxA, Ex.isNormal, List.set_nil, List.length_set, List.all_cons, List.all_nil, Bool.and_self, and_self, true_and, and_true, List.getElem?_nil, Int.reduceLT, Int.reduceLE, Int.reduceToNat, Int.toNat_zero, Int.toNat_one, Int.reduceAdd, Int.reduceSub, Int.reduceMul, Int.reduceNeg, Int.reduceBEq, Int.reduceBNe, Int.reduceGE, Int.reduceGT, Nat.reduceLT, trim_keep, under_fn, under_ptr, under_sl, Nat.lt_irrefl, not_lt_add, trim_tail, keepOk, ABlk.vals, Int.cast_ofNat_Int, decide_true, decide_false, List.all_cons, List.all_nil, Nat.zero_mul, Nat.mul_one, Nat.one_mul, Int.reduceBEq, rep_z64, ua, u8s_len, z64_len, u8s_cell, sp, t64]
 ·have e0 : (m == 0) = false := by simpa using hm
  unfold encOk at hk
  rw [e0, Bool.not_false, Bool.true_and] at hk
  by_cases hi : i < 0
  ·have d0 := decide_eq_true hi
   simp -implicitDefEqProofs (maxSteps := 5000000) only [go_sem, Nat.reduceShiftRight, Nat.reduceAnd, Nat.reduceBNe, Int.reduceEq, Nat.reduceAdd, Nat.reduceSub, Nat.reduceMul, Nat.reduceLeDiff, reduceIte, reduceCtorEq, Nat.reduceBEq, Nat.reduceEqDiff, wrap64, runC_loop, runC_range, callF_fn, callV_fn, callV_yld, yield_eq, yieldBody, yieldRaw, roundMid, roundEnd, rangeEnd, Bool.not_not, put_cons, put_nil, trim_same, at_zero, at_add, set_zero, set_add, store_one, write_zero, write_add, write_head, write_succ, splice_one, splice_more, List.drop_nil, List.take_nil, cell_int, cell_bool, fillS, splice_one, idxA, Ex.isNormal, List.set_nil, List.length_set, List.all_cons, List.all_nil, Bool.and_self, and_self, true_and, and_true, List.getElem?_nil, Int.reduceLT, Int.reduceLE, Int.reduceToNat, Int.toNat_zero, Int.toNat_one, Int.reduceAdd, Int.reduceSub, Int.reduceMul, Int.reduceNeg, Int.reduceBEq, Int.reduceBNe, Int.reduceGE, Int.reduceGT, Nat.reduceLT, trim_keep, under_fn, under_ptr, under_sl, Nat.lt_irrefl, not_lt_add, trim_tail, keepOk, ABlk.vals, Int.cast_ofNat_Int, decide_true, decide_false, List.all_cons, List.all_nil, Nat.zero_mul, Nat.mul_one, Nat.one_mul, e0, d0, rep_z64, ua, u8s_len, z64_len, u8s_cell, sp, t64]
  ·have d0 := decide_eq_false hi
   rw [decide_eq_true (show 0 ≤ i by omega), Bool.true_and] at hk
   have d1 : decide (i > 65535) = true := decide_eq_true (by have := of_decide_eq_false hk; omega)
   simp -implicitDefEqProofs (maxSteps := 5000000) only [go_sem, Nat.reduceShiftRight, Nat.reduceAnd, Nat.reduceBNe, Int.reduceEq, Nat.reduceAdd, Nat.reduceSub, Nat.reduceMul, Nat.reduceLeDiff, reduceIte, reduceCtorEq, Nat.reduceBEq, Nat.reduceEqDiff, wrap64, runC_loop, runC_range, callF_fn, callV_fn, callV_yld, yield_eq, yieldBody, yieldRaw, roundMid, roundEnd, rangeEnd, Bool.not_not, put_cons, put_nil, trim_same, at_zero, at_add, set_zero, set_add, store_one, write_zero, write_add, write_head, write_succ, splice_one, splice_more, List.drop_nil, List.take_nil, cell_int, cell_bool, fillS, splice_one, idxA, Ex.isNormal, List.set_nil, List.length_set, List.all_cons, List.all_nil, Bool.and_self, and_self, true_and, and_true, List.getElem?_nil, Int.reduceLT, Int.reduceLE, Int.reduceToNat, Int.toNat_zero, Int.toNat_one, Int.reduceAdd, Int.reduceSub, Int.reduceMul, Int.reduceNeg, Int.reduceBEq, Int.reduceBNe, Int.reduceGE, Int.reduceGT, Nat.reduceLT, trim_keep, under_fn, under_ptr, under_sl, Nat.lt_irrefl, not_lt_add, trim_tail, keepOk, ABlk.vals, Int.cast_ofNat_Int, decide_true, decide_false, List.all_cons, List.all_nil, Nat.zero_mul, Nat.mul_one, Nat.one_mul, e0, d0, d1, rep_z64, ua, u8s_len, z64_len, u8s_cell, sp, t64]
set_option maxHeartbeats 4000000 in
theorem encGood {p : PgS} (h : p.Ok) (hk : encOk p.m p.i = true) (H : AHeap) : (envL prog).call 51 [.agg p.cells] H = some (.tup [.agg (u8s (encS p.m p.s p.i p.b)), .int .i64 0], H) := by
 obtain ⟨m, s, i, b⟩ := p
 obtain ⟨hm, hs, _, hb⟩ := h
 unfold PgS.cells
 simp only at *
 have bl := hb.1
 have ki : (m == 0) = false ∧ 0 ≤ i ∧ i ≤ 65535 := by
  unfold encOk at hk
  simpa using hk
 obtain ⟨e0, i0, i1⟩ := ki
 have d0 : decide (i < 0) = false := decide_eq_false (by omega)
 have d1 : decide (i > 65535) = false := decide_eq_false (by omega)
 have ws : IntKind.u64.wrap s = s := wrapu64_id (by omega) (by omega)
 have wi : IntKind.u64.wrap i = i := wrapu64_id (by omega) (by omega)
 obtain ⟨K1, hK1⟩ : ∃ K1 : AHeap, K1 = H ++ [.rw (.int .u8 m :: .int .u32 s :: .int .i64 i :: u8s b), .rw (u8s z64), .rw [.int .u8 m]] := ⟨_, rfl⟩
 have L1 : K1.length = H.length + 3 := by rw [hK1]; simp
 obtain ⟨l1, K2, a2, g1, c1⟩ := putC s (k := 4) (by omega) (by omega) K1
 obtain ⟨l2, K3, a3, g2, c2⟩ := putC i (k := 2) (by omega) (by omega) K2
 have x1 : K1[H.length]? = some (.rw (.int .u8 m :: .int .u32 s :: .int .i64 i :: u8s b)) := by rw [hK1]; simp
 have y1 : K1[H.length + 1]? = some (.rw (u8s z64)) := by rw [hK1]; simp
 have m1 : K1[H.length + 2]? = some (.rw [.int .u8 m]) := by rw [hK1]; simp
 rw [hK1] at c1
 rw [show ((4 : Nat) : Int) = 4 from rfl] at c1
 rw [show ((2 : Nat) : Int) = 2 from rfl] at c2
 have x2 := adds_at a2 x1
 have x3 := adds_at a3 x2
 have cx2 := cells_rw x2
 have cx3 := fun X : AHeap => cells_old (x := X) (cells_rw x3)
 have cx3' := cells_rw x3
 have sA : ∀ K : AHeap, cellsOf K H.length = some (.int .u8 m :: .int .u32 s :: .int .i64 i :: u8s b) → sliceA 48 1 (.ptr H.length 3) none none none K = some (.sl H.length 3 1 48 48 true) := fun K hK => sliceA_all hK (by simp [u8s_len, bl])
 have m3 := adds_at a3 (adds_at a2 m1)
 obtain ⟨K4, hK4⟩ : ∃ K4 : AHeap, K4 = K3 ++ [.rw [.sl (H.length + 2) 0 1 1 1 true, l1, l2, .sl H.length 3 1 48 48 true]] := ⟨_, rfl⟩
 have s1 : Src 1 K4 (.sl (H.length + 2) 0 1 1 1 true) 1 (u8s [m]) := by
  rw [hK4]; exact Src.block (cells_old (cells_rw m3)) rfl rfl
 have s2 : Src 1 K4 l1 4 (u8s (putS 4 s)) := by
  obtain ⟨G, rfl⟩ := a3
  have := (((g1.bs.mono G).mono [.rw [.sl (H.length + 2) 0 1 1 1 true, l1, l2, .sl H.length 3 1 48 48 true]])).src
  rw [putS_len] at this
  rw [hK4]; exact this
 have s3 : Src 1 K4 l2 2 (u8s (putS 2 i)) := by
  have := (g2.bs.mono [.rw [.sl (H.length + 2) 0 1 1 1 true, l1, l2, .sl H.length 3 1 48 48 true]]).src
  rw [putS_len] at this
  rw [hK4]; exact this
 have bb : BS K4 (.sl H.length 3 1 48 48 true) b := .inr ⟨H.length, 3, 48, true, _, by rw [bl], by rw [hK4]; exact cx3 _, fun i z hz => by
  rw [Nat.add_comm, List.getElem?_cons_succ, List.getElem?_cons_succ, List.getElem?_cons_succ]; exact u8s_get hz, by simp [u8s_len]; omega⟩
 have s4 : Src 1 K4 (.sl H.length 3 1 48 48 true) 48 (u8s b) := by
  have := bb.src
  rw [bl] at this; exact this
 obtain ⟨l, K5, ho, ec⟩ := concatU (H := K4) (a := K3.length) (Xs := [(.sl (H.length + 2) 0 1 1 1 true, 1, u8s [m]), (l1, 4, u8s (putS 4 s)), (l2, 2, u8s (putS 2 i)), (.sl H.length 3 1 48 48 true, 48, u8s b)]) (by rw [hK4]; unfold cellsOf; simp) (by
   intro y hy
   simp only [List.mem_cons, List.not_mem_nil, or_false] at hy
   rcases hy with rfl | rfl | rfl | rfl
   ·exact s1
   ·exact s2
   ·exact s3
   ·exact s4) (by unfold totU; simp) (by simp)
 have et : totU [(.sl (H.length + 2) 0 1 1 1 true, 1, u8s [m]), (l1, 4, u8s (putS 4 s)), (l2, 2, u8s (putS 2 i)), (.sl H.length 3 1 48 48 true, 48, u8s b)] = 55 := by unfold totU; simp
 have eb : catU [(.sl (H.length + 2) 0 1 1 1 true, 1, u8s [m]), (l1, 4, u8s (putS 4 s)), (l2, 2, u8s (putS 2 i)), (.sl H.length 3 1 48 48 true, 48, u8s b)] = u8s (headS m s i b) := by
  unfold catU headS
  simp [u8s]
 rw [et, eb] at ho
 rcases ho with ⟨h0, _⟩ | ⟨_, rfl, rfl⟩
 ·omega
 rw [show ([(AV.sl (H.length + 2) 0 1 1 1 true, 1, u8s [m]), (l1, 4, u8s (putS 4 s)), (l2, 2, u8s (putS 2 i)), (.sl H.length 3 1 48 48 true, 48, u8s b)] : List (AV × Nat × List AV)).length = 4 from rfl, hK4] at ec
 have hl := headS_len m s i bl
 have hu := headS_u8 (s := s) (i := i) hm hb.2
 obtain ⟨K6, hK6⟩ : ∃ K6 : AHeap, K6 = K4 ++ [.rw (u8s (headS m s i b)), .rw (u8s z64)] := ⟨_, rfl⟩
 have gh : GB K6 K4.length (.sl K4.length 0 1 55 55 false) (headS m s i b) := .inr ⟨fun e => by rw [e] at hl; simp at hl, K4.length, Nat.le_refl _, by rw [hl], by rw [hK6]; simp⟩
 have ck := checkC gh.bs hu (by omega)
 obtain ⟨l3, K7, a7, g7, c7⟩ := putC (checkS (headS m s i b)) (k := 8) (by omega) (by omega) K6
 rw [show ((8 : Nat) : Int) = 8 from rfl] at c7
 have gh7 : GB K7 K4.length (.sl K4.length 0 1 55 55 false) (headS m s i b) := gh.fr (Fr.adds a7 (fun _ => False)) fun _ _ h => h
 obtain ⟨l4, K8, a8, g8, f8, _, e8⟩ := GB.more (d := ty 1 false 1 [.int .u8 0]) rfl rfl (P := K4) (H := K7) (by
  obtain ⟨G, rfl⟩ := a7; rw [hK6]; exact ⟨_, by rw [List.append_assoc]⟩) gh7 g7.bs.src (by rw [hl, putS_len]; omega)
 have l64 : (headS m s i b ++ putS 8 (checkS (headS m s i b))).length = 63 := by rw [List.length_append, hl, putS_len]
 have K4l : K4.length = K3.length + 1 := by rw [hK4]; simp
 have aH1 : Adds H K1 := ⟨_, hK1⟩
 have aH4 : Adds H K4 := ((aH1.trans a2).trans a3).trans ⟨_, hK4⟩
 have aH8 : Adds H K8 := aH4.trans a8
 have y4 : K4[H.length + 1]? = some (.rw (u8s z64)) := adds_at ⟨_, hK4⟩ (adds_at a3 (adds_at a2 y1))
 have y8 : K8[H.length + 1]? = some (.rw (u8s z64)) := adds_at a8 y4
 have q8 : K8[K3.length + 2]? = some (.rw (u8s z64)) := by
  have q6 : K6[K4.length + 1]? = some (.rw (u8s z64)) := by rw [hK6]; simp
  rw [K4l] at q6
  exact f8.at (adds_at a7 q6) fun h => by injection h; omega
 have q7 : K7[K3.length + 2]? = some (.rw (u8s z64)) := by
  have q6 : K6[K4.length + 1]? = some (.rw (u8s z64)) := by rw [hK6]; simp
  rw [K4l] at q6
  exact adds_at a7 q6
 have l4s := g8.bs.src
 rw [l64] at l4s
 have en : encS m s i b = headS m s i b ++ putS 8 (checkS (headS m s i b)) ++ [0] := rfl
 have le : (encS m s i b).length = 64 := by rw [en, List.length_append, l64]; rfl
 have H3 : H.length + 3 ≤ K3.length := by
  obtain ⟨_, rfl⟩ := a2
  obtain ⟨_, rfl⟩ := a3
  simp; omega
 have cp : copyV (ty 1 false 1 [.int .u8 0]) (.sl (K3.length + 2) 0 1 64 64 true) l4 K8 = some (.int .i64 63, K8.set (K3.length + 2) (.rw (u8s (encS m s i b)))) := by
  unfold copyV
  rw [l4s.sl]
  simp only [Option.bind_some]
  rw [if_neg (by simp [ty]), show min 63 64 = 63 from rfl]
  show ((srcCells 1 63 l4 K8).bind _) = _
  rw [l4s.cells]
  simp only [Option.bind_some]
  rw [if_neg (by omega), write_of q8, if_pos ⟨by rw [u8s_len, u8s_len, l64, z64_len]; omega, u8s_cell _⟩]
  simp only [Option.map_some, Option.some.injEq, Prod.mk.injEq]
  refine ⟨rfl, ?_⟩
  congr 2
  rw [splice_long _ _ _ (by rw [u8s_len, l64]; omega), u8s_len, l64, List.take_zero, List.nil_append, en]
  show _ = u8s _
  unfold u8s
  rw [List.map_append, List.map_append, List.map_append]
  rfl
 have c9 : cellsOf (K8.set (K3.length + 2) (.rw (u8s (encS m s i b)))) (K3.length + 2) = some (u8s (encS m s i b)) := cells_rw (at_set _ _ _ (lt_of_at q8))
 have wr : writeN (K8.set (K3.length + 2) (.rw (u8s (encS m s i b)))) (H.length + 1) 0 (u8s (encS m s i b)) = some ((K8.set (K3.length + 2) (.rw (u8s (encS m s i b)))).set (H.length + 1) (.rw (u8s (encS m s i b)))) := by
  rw [write_of ((at_set_ne _ _ _ _ (by omega)).trans y8), if_pos ⟨by rw [u8s_len, u8s_len, le, z64_len]; omega, u8s_cell _⟩, splice_all z64_len le (by omega)]
 have c10 : cellsOf ((K8.set (K3.length + 2) (.rw (u8s (encS m s i b)))).set (H.length + 1) (.rw (u8s (encS m s i b)))) (H.length + 1) = some (u8s (encS m s i b)) := cells_rw (at_set _ _ _ (by rw [List.length_set]; exact lt_of_at y8))
 have fin := trim_adds (v := .tup [.agg (u8s (encS m s i b)), .int .i64 0]) (adds_set (adds_set aH8 (b := K3.length + 2) (.rw (u8s (encS m s i b))) (by omega)) (b := H.length + 1) (.rw (u8s (encS m s i b))) (by omega)) (by simp [AV.under, underAll, u8s_all])
 have sl2 : ∀ X, sliceA 64 1 (.ptr (K3.length + 2) 0) none none none (K3 ++ (.rw [.sl (H.length + 2) 0 1 1 1 true, l1, l2, .sl H.length 3 1 48 48 true]) :: .rw (u8s (headS m s i b)) :: .rw (u8s z64) :: X) = some (.sl (K3.length + 2) 0 1 64 64 true) := fun X => sliceA_all (cs := u8s z64) (by unfold cellsOf; simp) (by rw [u8s_len, z64_len]; omega)
 have sl7 : sliceA 64 1 (.ptr (K3.length + 2) 0) none none none K7 = some (.sl (K3.length + 2) 0 1 64 64 true) := sliceA_all (cells_rw q7) (by rw [u8s_len, z64_len]; omega)
 have sl8 : sliceA 64 1 (.ptr (K3.length + 2) 0) none none none K8 = some (.sl (K3.length + 2) 0 1 64 64 true) := sliceA_all (cells_rw q8) (by rw [u8s_len, z64_len]; omega)
 have sl9 : sliceA 64 1 (.ptr (K3.length + 2) 0) none none none (K8.set (K3.length + 2) (.rw (u8s (encS m s i b)))) = some (.sl (K3.length + 2) 0 1 64 64 true) := sliceA_all c9 (by rw [u8s_len, le]; omega)
 have t64 := u8s_take le
 rw [hK6, hK4] at ck c7
 rw [K4l] at e8
 simp only [List.append_assoc, List.cons_append, List.nil_append, List.length_append, List.length_cons, List.length_nil, Nat.zero_add] at ck c7
 rw [c51]
 unfold b51
 simp -implicitDefEqProofs (maxSteps := 5000000) only [go_sem, Nat.reduceShiftRight, Nat.reduceAnd, Nat.reduceBNe, Int.reduceEq, Nat.reduceAdd, Nat.reduceSub, Nat.reduceMul, Nat.reduceLeDiff, reduceIte, reduceCtorEq, Nat.reduceBEq, Nat.reduceEqDiff, wrap64, runC_loop, runC_range, callF_fn, callV_fn, callV_yld, yield_eq, yieldBody, yieldRaw, roundMid, roundEnd, rangeEnd, Bool.not_not, put_cons, put_nil, trim_same, at_zero, at_add, set_zero, set_add, store_one, write_zero, write_add, write_head, write_succ, splice_one, splice_more, List.drop_nil, List.take_nil, cell_int, cell_bool, fillS, splice_one, idxA, Ex.isNormal, List.set_nil, List.length_set, List.all_cons, List.all_nil, Bool.and_self, and_self, true_and, and_true, List.getElem?_nil, Int.reduceLT, Int.reduceLE, Int.reduceToNat, Int.toNat_zero, Int.toNat_one, Int.reduceAdd, Int.reduceSub, Int.reduceMul, Int.reduceNeg, Int.reduceBEq, Int.reduceBNe, Int.reduceGE, Int.reduceGT, Nat.reduceLT, trim_keep, under_fn, under_ptr, under_sl, Nat.lt_irrefl, not_lt_add, trim_tail, keepOk, ABlk.vals, Int.cast_ofNat_Int, decide_true, decide_false, List.all_cons, List.all_nil, Nat.zero_mul, Nat.mul_one, Nat.one_mul, e0, d0, d1, ws, wi, rep_z64, u8s_len, bl, c1, cx2, c2, cx3, cx3', sA, g1.cells.1, g2.cells.1, K4l, ec, ck, c7, e8, sl2, sl7, sl8, sl9, cp, c9, wr, c10, le, t64, fin]
theorem encC {p : PgS} (h : p.Ok) (H : AHeap) : (envL prog).call 51 [.agg p.cells] H = some (.tup [.agg (u8s p.enc.1), .int .i64 p.enc.2], H) := by
 unfold PgS.enc
 cases hk : encOk p.m p.i with
 | true => exact encGood h hk H
 | false => exact encBad h hk H
end Go.Proofs.Ytipedaadjfhdnaa.G06
end
section
namespace Go.Proofs.Ytipedaadjfhdnaa.G06
open Go Go.Proofs.Ytipedaadjfhdnaa.Eng
theorem BS.part {K : AHeap} {b : Nat} {z : List Int} (h : cellsOf K b = some (u8s z)) (lo n c : Nat) (hl : lo + n ≤ z.length) : BS K (.sl b lo 1 n c true) ((z.drop lo).take n) := by
 have e : ((z.drop lo).take n).length = n := by rw [List.length_take, List.length_drop]; omega
 refine .inr ⟨b, lo, c, true, u8s z, by rw [e], h, fun i y hy => ?_, by rw [e, u8s_len]; exact hl⟩
 rw [List.getElem?_take] at hy
 split at hy
 ·rw [List.getElem?_drop] at hy; exact u8s_get hy
 ·cases hy
set_option maxHeartbeats 4000000 in
theorem decC {z : List Int} (hz : B64 z) (H : AHeap) : (envL prog).call 67 [.agg (u8s z)] H = some (.tup [.agg (decS z).1.cells, .int .i64 (decS z).2], H) := by
 have ok := rawS_ok hz
 obtain ⟨hl, hu⟩ := hz
 obtain ⟨y, hy⟩ : ∃ y, z[0]? = some y := ⟨_, List.getElem?_eq_getElem (by omega)⟩
 have h0 : (u8s z)[0]? = some (.int .u8 (rawS z).m) := by
  show _ = some (AV.int .u8 ((z[0]?).getD 0))
  rw [hy]; exact u8s_get hy
 have l1 : ((z.drop 1).take 4).length = 4 := by simp [hl]
 have l2 : ((z.drop 5).take 2).length = 2 := by simp [hl]
 have u1 : IsU8 ((z.drop 1).take 4) := fun y hy => hu y (List.mem_of_mem_drop (List.mem_of_mem_take hy))
 have u2 : IsU8 ((z.drop 5).take 2) := fun y hy => hu y (List.mem_of_mem_drop (List.mem_of_mem_take hy))
 have lo4 : ∀ b o c, 4 ≤ c → LenOk (.sl b o 1 4 c true) := fun b o c h b' o' s' n' l' e' q => by injection q; omega
 have lo2 : ∀ b o c, 2 ≤ c → LenOk (.sl b o 1 2 c true) := fun b o c h b' o' s' n' l' e' q => by injection q; omega
 have g1 : ∀ K, cellsOf K H.length = some (u8s z) → (envL prog).call 75 [.sl H.length 1 1 4 63 true] K = some (.int .u64 (rawS z).s, K) := fun K hK => getC (BS.part hK 1 4 63 (by omega)) u1 (by omega) (lo4 _ _ _ (by omega))
 have g2 : ∀ K, cellsOf K H.length = some (u8s z) → (envL prog).call 75 [.sl H.length 5 1 2 59 true] K = some (.int .u64 (rawS z).i, K) := fun K hK => getC (BS.part hK 5 2 59 (by omega)) u2 (by omega) (lo2 _ _ _ (by omega))
 have s1 : ∀ K, cellsOf K H.length = some (u8s z) → sliceA 64 1 (.ptr H.length 0) (some (.int .i64 1)) (some (.int .i64 5)) none K = some (.sl H.length 1 1 4 63 true) := fun K hK => sliceA_part 1 5 hK (by rw [u8s_len]; omega) (by omega) (by omega)
 have s2 : ∀ K, cellsOf K H.length = some (u8s z) → sliceA 64 1 (.ptr H.length 0) (some (.int .i64 5)) (some (.int .i64 7)) none K = some (.sl H.length 5 1 2 59 true) := fun K hK => sliceA_part 5 7 hK (by rw [u8s_len]; omega) (by omega) (by omega)
 have s3 : ∀ K, cellsOf K H.length = some (u8s z) → sliceA 64 1 (.ptr H.length 0) (some (.int .i64 7)) (some (.int .i64 55)) none K = some (.sl H.length 7 1 48 57 true) := fun K hK => sliceA_part 7 55 hK (by rw [u8s_len]; omega) (by omega) (by omega)
 have hi := getS_lt u2
 rw [l2] at hi
 have wi : IntKind.i64.wrap (rawS z).i = (rawS z).i := wrap64 (by show _ ≤ getS _; omega) (by show getS _ ≤ _; omega)
 have ws : IntKind.u32.wrap (rawS z).s = (rawS z).s := by
  show (rawS z).s % 4294967296 = _
  have := ok.s; omega
 have ec := fun K : AHeap => encC ok K
 have en : decS z = if (rawS z).enc.2 = 0 ∧ (rawS z).enc.1 = z then (rawS z, 0) else (zpg, 11) := rfl
 have eb : (rawS z).b = (z.drop 7).take 48 := rfl
 have b48 := ok.b.1
 rw [en]
 have B := ok.b.1
 unfold PgS.cells at ec
 generalize hp : rawS z = p at *
 obtain ⟨m, s, i, b⟩ := p
 simp only at *
 have c0 : (AV.int .u8 m :: .int .u32 s :: .int .i64 i :: u8s b).length = 51 := by simp [u8s_len, b48]
 have sp1 : ∀ x y w, splice (AV.int .u8 0 :: .int .u32 0 :: .int .i64 0 :: u8s zbody) 0 (AV.int .u8 x :: .int .u32 y :: .int .i64 w :: u8s zbody) = AV.int .u8 x :: .int .u32 y :: .int .i64 w :: u8s zbody := fun x y w => rfl
 have zl : zbody.length = 48 := zbody_b.1
 have s4 : ∀ (X : AHeap), sliceA 48 1 (.ptr (H.length + 2) 3) none none none (H ++ .rw (u8s z) :: .rw (.int .u8 0 :: .int .u32 0 :: .int .i64 0 :: u8s zbody) :: .rw (.int .u8 m :: .int .u32 s :: .int .i64 i :: u8s zbody) :: X) = some (.sl (H.length + 2) 3 1 48 48 true) := fun X => sliceA_all (cs := AV.int .u8 m :: .int .u32 s :: .int .i64 i :: u8s zbody) (by unfold cellsOf; simp) (by simp [u8s_len, zl])
 have s5 : ∀ (X : AHeap), sliceA 48 1 (.ptr (H.length + 2) 3) none none none (H ++ .rw (u8s z) :: .rw (.int .u8 0 :: .int .u32 0 :: .int .i64 0 :: u8s zbody) :: .rw (.int .u8 m :: .int .u32 s :: .int .i64 i :: u8s b) :: X) = some (.sl (H.length + 2) 3 1 48 48 true) := fun X => sliceA_all (cs := AV.int .u8 m :: .int .u32 s :: .int .i64 i :: u8s b) (by unfold cellsOf; simp) (by simp [u8s_len, b48])
 have cp : copyV (ty 1 false 1 [.int .u8 0]) (.sl (H.length + 2) 3 1 48 48 true) (.sl H.length 7 1 48 57 true) (H ++ [.rw (u8s z), .rw (.int .u8 0 :: .int .u32 0 :: .int .i64 0 :: u8s zbody), .rw (.int .u8 m :: .int .u32 s :: .int .i64 i :: u8s zbody)]) = some (.int .i64 48, H ++ [.rw (u8s z), .rw (.int .u8 0 :: .int .u32 0 :: .int .i64 0 :: u8s zbody), .rw (.int .u8 m :: .int .u32 s :: .int .i64 i :: u8s b)]) := by
  have rd : srcCells 1 48 (.sl H.length 7 1 48 57 true) (H ++ [.rw (u8s z), .rw (.int .u8 0 :: .int .u32 0 :: .int .i64 0 :: u8s zbody), .rw (.int .u8 m :: .int .u32 s :: .int .i64 i :: u8s zbody)]) = some (u8s b) := by
   have bp := (BS.part (K := H ++ [.rw (u8s z), .rw (.int .u8 0 :: .int .u32 0 :: .int .i64 0 :: u8s zbody), .rw (.int .u8 m :: .int .u32 s :: .int .i64 i :: u8s zbody)]) (b := H.length) (z := z) (by unfold cellsOf; simp) 7 48 57 (by omega)).src.cells
   rw [← eb, b48] at bp
   exact bp
  unfold copyV
  show ((srcCells 1 48 _ _).bind _) = _
  rw [rd]
  simp only [Option.bind_some]
  rw [if_neg (by omega), write_of (cs := AV.int .u8 m :: .int .u32 s :: .int .i64 i :: u8s zbody) (by simp), if_pos ⟨by simp [u8s_len, b48, zl], u8s_cell _⟩]
  simp only [Option.map_some, Option.some.injEq, Prod.mk.injEq]
  refine ⟨rfl, ?_⟩
  rw [splice_long _ _ _ (by rw [u8s_len]; omega), List.drop_of_length_le (by simp [u8s_len, b48, zl]), List.append_nil]
  simp
 have t51 : (AV.int .u8 m :: .int .u32 s :: .int .i64 i :: u8s b).take 51 = AV.int .u8 m :: .int .u32 s :: .int .i64 i :: u8s b := List.take_of_length_le (by omega)
 have z51 : (AV.int .u8 0 :: .int .u32 0 :: .int .i64 0 :: u8s zbody).take 51 = AV.int .u8 0 :: .int .u32 0 :: .int .i64 0 :: u8s zbody := List.take_of_length_le (by simp [u8s_len, zl])
 have sp2 : splice (AV.int .u8 0 :: .int .u32 0 :: .int .i64 0 :: u8s zbody) 0 (AV.int .u8 m :: .int .u32 s :: .int .i64 i :: u8s b) = AV.int .u8 m :: .int .u32 s :: .int .i64 i :: u8s b := by
  rw [splice_long _ _ _ (by simp), List.drop_of_length_le (by simp [u8s_len, b48, zl]), List.append_nil]
  simp
 have t48 := u8s_take b48
 have tz48 := u8s_take zl
 have e64 : ((⟨m, s, i, b⟩ : PgS).enc.1).length = 64 := by
  unfold PgS.enc
  split
  ·exact (encS_b64 ok.m ok.b).1
  ·exact z64_len
 have sp3 := splice_all z64_len e64 (by omega)
 have ut : ∀ n, underAll n (u8s b) = true := fun n => u8s_all _ n
 have uz : ∀ n, underAll n (u8s zbody) = true := fun n => u8s_all _ n
 have te := u8s_take e64
 have tz := u8s_take hl
 have ne := ne_u8 (n := 64) e64 hl
 rw [c67]
 unfold b67
 by_cases he : (⟨m, s, i, b⟩ : PgS).enc.2 = 0
 ·have n0 : ((⟨m, s, i, b⟩ : PgS).enc.2 != 0) = false := by rw [he]; rfl
  by_cases hq : (⟨m, s, i, b⟩ : PgS).enc.1 = z
  ·rw [if_pos ⟨he, hq⟩]
   have dq := decide_eq_true hq
   simp -implicitDefEqProofs (maxSteps := 5000000) only [go_sem, Nat.reduceShiftRight, Nat.reduceAnd, Nat.reduceBNe, Int.reduceEq, Nat.reduceAdd, Nat.reduceSub, Nat.reduceMul, Nat.reduceLeDiff, reduceIte, reduceCtorEq, Nat.reduceBEq, Nat.reduceEqDiff, wrap64, runC_loop, runC_range, callF_fn, callV_fn, callV_yld, yield_eq, yieldBody, yieldRaw, roundMid, roundEnd, rangeEnd, Bool.not_not, put_cons, put_nil, trim_same, at_zero, at_add, set_zero, set_add, store_one, write_zero, write_add, write_head, write_succ, splice_one, splice_more, List.drop_nil, List.take_nil, cell_int, cell_bool, fillS, splice_one, idxA, Ex.isNormal, List.set_nil, List.length_set, List.all_cons, List.all_nil, Bool.and_self, and_self, true_and, and_true, List.getElem?_nil, Int.reduceLT, Int.reduceLE, Int.reduceToNat, Int.toNat_zero, Int.toNat_one, Int.reduceAdd, Int.reduceSub, Int.reduceMul, Int.reduceNeg, Int.reduceBEq, Int.reduceBNe, Int.reduceGE, Int.reduceGT, Nat.reduceLT, trim_keep, under_fn, under_ptr, under_sl, Nat.lt_irrefl, not_lt_add, trim_tail, keepOk, ABlk.vals, Int.cast_ofNat_Int, decide_true, decide_false, List.all_cons, List.all_nil, Nat.zero_mul, Nat.mul_one, Nat.one_mul, idx_arr, h0, s1, s2, s3, s4, s5, g1, g2, ws, wi, rep_z64, rep_z48, u8s_len, hl, zl, b48, sp1, sp2, sp3, u8s_cell, cp, t51, z51, t48, tz48, ec, e64, z64_len, te, tz, n0, ne, dq, ut, uz, PgS.cells]
   done
  ·rw [if_neg (fun h => hq h.2)]
   have dq := decide_eq_false hq
   simp -implicitDefEqProofs (maxSteps := 5000000) only [go_sem, Nat.reduceShiftRight, Nat.reduceAnd, Nat.reduceBNe, Int.reduceEq, Nat.reduceAdd, Nat.reduceSub, Nat.reduceMul, Nat.reduceLeDiff, reduceIte, reduceCtorEq, Nat.reduceBEq, Nat.reduceEqDiff, wrap64, runC_loop, runC_range, callF_fn, callV_fn, callV_yld, yield_eq, yieldBody, yieldRaw, roundMid, roundEnd, rangeEnd, Bool.not_not, put_cons, put_nil, trim_same, at_zero, at_add, set_zero, set_add, store_one, write_zero, write_add, write_head, write_succ, splice_one, splice_more, List.drop_nil, List.take_nil, cell_int, cell_bool, fillS, splice_one, idxA, Ex.isNormal, List.set_nil, List.length_set, List.all_cons, List.all_nil, Bool.and_self, and_self, true_and, and_true, List.getElem?_nil, Int.reduceLT, Int.reduceLE, Int.reduceToNat, Int.toNat_zero, Int.toNat_one, Int.reduceAdd, Int.reduceSub, Int.reduceMul, Int.reduceNeg, Int.reduceBEq, Int.reduceBNe, Int.reduceGE, Int.reduceGT, Nat.reduceLT, trim_keep, under_fn, under_ptr, under_sl, Nat.lt_irrefl, not_lt_add, trim_tail, keepOk, ABlk.vals, Int.cast_ofNat_Int, decide_true, decide_false, List.all_cons, List.all_nil, Nat.zero_mul, Nat.mul_one, Nat.one_mul, idx_arr, h0, s1, s2, s3, s4, s5, g1, g2, ws, wi, rep_z64, rep_z48, u8s_len, hl, zl, b48, sp1, sp2, sp3, u8s_cell, cp, t51, z51, t48, tz48, ec, e64, z64_len, te, tz, n0, ne, dq, ut, uz, PgS.cells, zpg]
   done
 ·rw [if_neg (fun h => he h.1)]
  have n0 : ((⟨m, s, i, b⟩ : PgS).enc.2 != 0) = true := by simpa using he
  simp -implicitDefEqProofs (maxSteps := 5000000) only [go_sem, Nat.reduceShiftRight, Nat.reduceAnd, Nat.reduceBNe, Int.reduceEq, Nat.reduceAdd, Nat.reduceSub, Nat.reduceMul, Nat.reduceLeDiff, reduceIte, reduceCtorEq, Nat.reduceBEq, Nat.reduceEqDiff, wrap64, runC_loop, runC_range, callF_fn, callV_fn, callV_yld, yield_eq, yieldBody, yieldRaw, roundMid, roundEnd, rangeEnd, Bool.not_not, put_cons, put_nil, trim_same, at_zero, at_add, set_zero, set_add, store_one, write_zero, write_add, write_head, write_succ, splice_one, splice_more, List.drop_nil, List.take_nil, cell_int, cell_bool, fillS, splice_one, idxA, Ex.isNormal, List.set_nil, List.length_set, List.all_cons, List.all_nil, Bool.and_self, and_self, true_and, and_true, List.getElem?_nil, Int.reduceLT, Int.reduceLE, Int.reduceToNat, Int.toNat_zero, Int.toNat_one, Int.reduceAdd, Int.reduceSub, Int.reduceMul, Int.reduceNeg, Int.reduceBEq, Int.reduceBNe, Int.reduceGE, Int.reduceGT, Nat.reduceLT, trim_keep, under_fn, under_ptr, under_sl, Nat.lt_irrefl, not_lt_add, trim_tail, keepOk, ABlk.vals, Int.cast_ofNat_Int, decide_true, decide_false, List.all_cons, List.all_nil, Nat.zero_mul, Nat.mul_one, Nat.one_mul, idx_arr, h0, s1, s2, s3, s4, s5, g1, g2, ws, wi, rep_z64, rep_z48, u8s_len, hl, zl, b48, sp1, sp2, sp3, u8s_cell, cp, t51, z51, t48, tz48, ec, e64, z64_len, te, tz, n0, ne, ut, uz, PgS.cells, zpg]
  done
end Go.Proofs.Ytipedaadjfhdnaa.G06
end
