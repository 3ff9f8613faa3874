/- What the functions that RingTorn reaches answer, for every argument. No condition but those in each statement. -/
import Derived.Test.YtipedaadjfhdnaaRA
import Derived.Test.YtipedaadjfhdnaaE6
import Derived.Test.YtipedaadjfhdnaaPA
set_option linter.unusedSimpArgs false
set_option linter.unusedVariables false
set_option linter.unusedSectionVars false
set_option maxRecDepth 10000
section
namespace Go.Proofs.Ytipedaadjfhdnaa.G06
open Go Go.Proofs.Ytipedaadjfhdnaa.Eng
section
variable {q : RPl} {H : AHeap} {c : Nat} {r : RgS} {F : Nat → Prop} (m : RigAt q H c r F)
include m
theorem atRead (dev i : Int) : (envL prog).call 15 [.ptr q.p 0, .int .i64 dev, .int .i64 i] H = some (.tup [.agg (u8s (r.read dev i).1), .int .i64 (r.read dev i).2], H) := rinRead m.rin dev i
theorem atLen (dev : Int) : (envL prog).call 49 [.ptr q.p 0, .int .i64 dev] H = some (.int .i64 ((r.dk dev).length : Int), H) := rinLen m.rin dev
theorem atWrite (dev i : Int) {z : List Int} (hz : B64 z) (hc : c + 1 ≤ 1000000000) : ∃ H' F', RigAt q H' (c + 1) (r.write dev i z).1 F' ∧ RStep H F H' F' ∧ (envL prog).call 16 [.ptr q.p 0, .int .i64 dev, .int .i64 i, .agg (u8s z)] H = some (.int .i64 (r.write dev i z).2, H') := by
 obtain ⟨L0, L1, m, h1, h2⟩ := m
 obtain ⟨H', L0', L1', m', f, n, e⟩ := rigWriteC m dev i hz hc
 refine ⟨H', fun b => F b ∨ (H.length ≤ b ∧ b < H'.length), ⟨L0', L1', m', fun b hb => ?_, fun b hb => ?_⟩, ⟨f.mono fun b _ hb => h1 b hb, fun b hb => hb.elim .inl fun h => .inr h.1⟩, e⟩
 ·rcases n b hb with h | h
  ·exact .inl (h1 b h)
  ·exact .inr ⟨h, m'.lt hb⟩
 ·rcases hb with h | h
  ·exact Nat.lt_of_lt_of_le (h2 b h) f.1
  ·exact h.2
theorem atFlush (dev : Int) : ∃ H', RigAt q H' c (r.flush dev).1 F ∧ RStep H F H' F ∧ H'.length = H.length ∧ (envL prog).call 31 [.ptr q.p 0, .int .i64 dev] H = some (.int .i64 (r.flush dev).2, H') := by
 obtain ⟨L0, L1, m, h1, h2⟩ := m
 obtain ⟨H', L0', L1', m', f, hl, n, e⟩ := rigFlushC m dev
 exact ⟨H', ⟨L0', L1', m', fun b hb => h1 b (n b hb), fun b hb => by rw [hl]; exact h2 b hb⟩, ⟨f.mono fun b _ hb => h1 b hb, fun b hb => .inl hb⟩, hl, e⟩
theorem at_ok (dev i : Int) : B64 (r.read dev i).1 := by
 obtain ⟨oa, ob, la, lb⟩ := m.rin.ok
 unfold RgS.read
 split
 ·rename_i hi
  split
  ·exact B64.zero
  ·have lt : i.toNat < (r.dk dev).length := by omega
   rw [List.getElem?_eq_getElem lt]
   have mem := List.getElem_mem lt
   generalize (r.dk dev)[i.toNat] = s at *
   have os : s.Ok := by
    unfold RgS.dk at mem
    split at mem
    ·exact oa s mem
    ·split at mem
     ·exact ob s mem
     ·cases mem
   show B64 s.last
   exact os.last
 ·exact B64.zero
end
end Go.Proofs.Ytipedaadjfhdnaa.G06
end
section
namespace Go.Proofs.Ytipedaadjfhdnaa.G06
open Go Go.Proofs.Ytipedaadjfhdnaa.Eng
noncomputable abbrev trk (p : Nat) (f c : Int) : AV := .agg [.ptr p 0, .int .i64 f, .int .i64 c]
theorem tmod_rng {a c : Int} (h0 : 0 ≤ a) (h1 : 1 ≤ c) : 0 ≤ a.tmod c ∧ a.tmod c < c := by
 rw [Int.tmod_eq_emod_of_nonneg h0]
 exact ⟨Int.emod_nonneg _ (by omega), Int.emod_lt_of_pos _ (by omega)⟩
theorem sectorC' (p : Nat) {f c a : Int} (hf : 0 ≤ f) (hc : 2 ≤ c) (hs : f + c ≤ 1000000000) (ha : 0 ≤ a) (H : AHeap) : (envL prog).call 52 [trk p f c, .int .i64 a] H = some (.int .i64 (f + a.tmod c), H) := by
 have t := tmod_rng ha (show 1 ≤ c by omega)
 have w : IntKind.i64.wrap (f + a.tmod c) = f + a.tmod c := wrap64 (by omega) (by omega)
 have rm := int_rem .none .i64 a c (by omega)
 rw [c52]
 unfold b52
 simp -implicitDefEqProofs (maxSteps := 5000000) only [go_sem, Nat.reduceShiftRight, Nat.reduceAnd, Nat.reduceBNe, Int.reduceEq, Nat.reduceAdd, Nat.reduceSub, Nat.reduceMul, Nat.reduceLeDiff, reduceIte, reduceCtorEq, Nat.reduceBEq, Nat.reduceEqDiff, rm, w]
section
variable {q : RPl} {H : AHeap} {n : Nat} {r : RgS} {F : Nat → Prop} (m : RigAt q H n r F)
include m
theorem goodC (f c a : Int) : (envL prog).call 28 [trk q.p f c, .int .i64 a] H = some (.bool (decide (goodS r f c a)), H) := by
 have hl : r.a.length ≤ 4096 := m.rin.ok.2.2.1
 have len := fun x => atLen (m.adds x) 0
 have e0 : r.dk 0 = r.a := rfl
 rw [e0] at len
 rw [c28]
 unfold b28
 by_cases h1 : f ≥ 0
 ·have e1 : decide (f ≥ 0) = true := by simp [h1]
  by_cases h2 : c ≥ 2
  ·have e2 : decide (c ≥ 2) = true := by simp [h2]
   by_cases h3 : c ≤ 256
   ·have e3 : decide (c ≤ 256) = true := by simp [h3]
    have w : IntKind.i64.wrap ((r.a.length : Int) - c) = (r.a.length : Int) - c := wrap64 (by omega) (by omega)
    by_cases h4 : f ≤ (r.a.length : Int) - c
    ·have e4 : decide (f ≤ (r.a.length : Int) - c) = true := by simp [h4]
     by_cases h5 : a ≥ 0
     ·have e5 : decide (a ≥ 0) = true := by simp [h5]
      have e6 : decide (goodS r f c a) = decide (a < c) := by
       unfold goodS
       by_cases h6 : a < c
       ·rw [decide_eq_true h6]; exact decide_eq_true ⟨h1, h2, h3, h4, h5, h6⟩
       ·rw [decide_eq_false h6]; exact decide_eq_false fun h => h6 h.2.2.2.2.2
      rw [e6]
      simp -implicitDefEqProofs (maxSteps := 5000000) only [go_sem, Nat.reduceShiftRight, Nat.reduceAnd, Nat.reduceBNe, Int.reduceEq, Nat.reduceAdd, Nat.reduceSub, Nat.reduceMul, Nat.reduceLeDiff, reduceIte, reduceCtorEq, Nat.reduceBEq, Nat.reduceEqDiff, len, e1, e2, e3, e4, e5, w]
     ·have e5 : decide (a ≥ 0) = false := by simp [h5]
      have e6 : decide (goodS r f c a) = false := decide_eq_false fun h => h5 h.2.2.2.2.1
      rw [e6]
      simp -implicitDefEqProofs (maxSteps := 5000000) only [go_sem, Nat.reduceShiftRight, Nat.reduceAnd, Nat.reduceBNe, Int.reduceEq, Nat.reduceAdd, Nat.reduceSub, Nat.reduceMul, Nat.reduceLeDiff, reduceIte, reduceCtorEq, Nat.reduceBEq, Nat.reduceEqDiff, len, e1, e2, e3, e4, e5, w]
    ·have e4 : decide (f ≤ (r.a.length : Int) - c) = false := by simp [h4]
     have e6 : decide (goodS r f c a) = false := decide_eq_false fun h => h4 h.2.2.2.1
     rw [e6]
     simp -implicitDefEqProofs (maxSteps := 5000000) only [go_sem, Nat.reduceShiftRight, Nat.reduceAnd, Nat.reduceBNe, Int.reduceEq, Nat.reduceAdd, Nat.reduceSub, Nat.reduceMul, Nat.reduceLeDiff, reduceIte, reduceCtorEq, Nat.reduceBEq, Nat.reduceEqDiff, len, e1, e2, e3, e4, w]
   ·have e3 : decide (c ≤ 256) = false := by simp [h3]
    have e6 : decide (goodS r f c a) = false := decide_eq_false fun h => h3 h.2.2.1
    rw [e6]
    simp -implicitDefEqProofs (maxSteps := 5000000) only [go_sem, Nat.reduceShiftRight, Nat.reduceAnd, Nat.reduceBNe, Int.reduceEq, Nat.reduceAdd, Nat.reduceSub, Nat.reduceMul, Nat.reduceLeDiff, reduceIte, reduceCtorEq, Nat.reduceBEq, Nat.reduceEqDiff, len, e1, e2, e3]
  ·have e2 : decide (c ≥ 2) = false := by simp [h2]
   have e6 : decide (goodS r f c a) = false := decide_eq_false fun h => h2 h.2.1
   rw [e6]
   simp -implicitDefEqProofs (maxSteps := 5000000) only [go_sem, Nat.reduceShiftRight, Nat.reduceAnd, Nat.reduceBNe, Int.reduceEq, Nat.reduceAdd, Nat.reduceSub, Nat.reduceMul, Nat.reduceLeDiff, reduceIte, reduceCtorEq, Nat.reduceBEq, Nat.reduceEqDiff, len, e1, e2]
 ·have e1 : decide (f ≥ 0) = false := by simp [h1]
  have e6 : decide (goodS r f c a) = false := decide_eq_false fun h => h1 h.1
  rw [e6]
  simp -implicitDefEqProofs (maxSteps := 5000000) only [go_sem, Nat.reduceShiftRight, Nat.reduceAnd, Nat.reduceBNe, Int.reduceEq, Nat.reduceAdd, Nat.reduceSub, Nat.reduceMul, Nat.reduceLeDiff, reduceIte, reduceCtorEq, Nat.reduceBEq, Nat.reduceEqDiff, len, e1]
set_option maxHeartbeats 4000000 in
theorem rreadC {f c a : Int} (hf : 0 ≤ f) (hc : 2 ≤ c) (hs : f + c ≤ 1000000000) (ha : 0 ≤ a) : (envL prog).call 50 [trk q.p f c, .int .i64 a] H = some (.tup [.agg (readP r f c a).1.cells, .int .i64 (readP r f c a).2], H) := by
 have sc := fun X => sectorC' q.p hf hc hs ha (H ++ X)
 have rd := fun X => atRead (m.adds X) 0 (f + a.tmod c)
 have ok := at_ok m 0 (f + a.tmod c)
 have dc := fun X => decC ok (H ++ X)
 have rdl := ok.1
 have sp1 := splice_all z64_len rdl (by omega)
 have t64 := u8s_take rdl
 have zl : zbody.length = 48 := zbody_b.1
 have uz : ∀ n, underAll n (u8s zbody) = true := fun n => u8s_all _ n
 have z51 : (AV.int .u8 0 :: .int .u32 0 :: .int .i64 0 :: u8s zbody).take 51 = AV.int .u8 0 :: .int .u32 0 :: .int .i64 0 :: u8s zbody := List.take_of_length_le (by simp [u8s_len, zl])
 have sz : splice (AV.int .u8 0 :: .int .u32 0 :: .int .i64 0 :: u8s zbody) 0 (AV.int .u8 0 :: .int .u32 0 :: .int .i64 0 :: u8s zbody) = AV.int .u8 0 :: .int .u32 0 :: .int .i64 0 :: u8s zbody := rfl
 unfold readP
 rw [c50]
 unfold b50
 by_cases he : (r.read 0 (f + a.tmod c)).2 = 0
 ·rw [if_pos he]
  have n0 : ((r.read 0 (f + a.tmod c)).2 != 0) = false := by rw [he]; rfl
  have dl := (decS_ok ok).b.1
  have zd : (u8s zbody).drop 48 = [] := List.drop_of_length_le (by rw [u8s_len, zl]; omega)
  generalize decS (r.read 0 (f + a.tmod c)).1 = D at *
  obtain ⟨⟨dm, ds, di, db⟩, de⟩ := D
  unfold PgS.cells at dc ⊢
  simp only at dc dl ⊢
  have t51 : (AV.int .u8 dm :: .int .u32 ds :: .int .i64 di :: u8s db).take 51 = AV.int .u8 dm :: .int .u32 ds :: .int .i64 di :: u8s db := List.take_of_length_le (by simp [u8s_len, dl])
  have ub : ∀ n, underAll n (u8s db) = true := fun n => u8s_all _ n
  have t48 := u8s_take dl
  simp -implicitDefEqProofs (maxSteps := 5000000) only [go_sem, Nat.reduceShiftRight, Nat.reduceAnd, Nat.reduceBNe, Int.reduceEq, Nat.reduceAdd, Nat.reduceSub, Nat.reduceMul, Nat.reduceLeDiff, reduceIte, reduceCtorEq, Nat.reduceBEq, Nat.reduceEqDiff, wrap64, runC_loop, runC_range, callF_fn, callV_fn, callV_yld, yield_eq, yieldBody, yieldRaw, roundMid, roundEnd, rangeEnd, Bool.not_not, put_cons, put_nil, trim_same, at_zero, at_add, set_zero, set_add, store_one, write_zero, write_add, write_head, write_succ, splice_one, splice_more, List.drop_nil, List.take_nil, cell_int, cell_bool, fillS, splice_one, idxA, Ex.isNormal, List.set_nil, List.length_set, List.all_cons, List.all_nil, Bool.and_self, and_self, true_and, and_true, List.getElem?_nil, Int.reduceLT, Int.reduceLE, Int.reduceToNat, Int.toNat_zero, Int.toNat_one, Int.reduceAdd, Int.reduceSub, Int.reduceMul, Int.reduceNeg, Int.reduceBEq, Int.reduceBNe, Int.reduceGE, Int.reduceGT, Nat.reduceLT, trim_keep, under_fn, under_ptr, under_sl, Nat.lt_irrefl, not_lt_add, trim_tail, keepOk, ABlk.vals, Int.cast_ofNat_Int, decide_true, decide_false, List.all_cons, List.all_nil, Nat.zero_mul, Nat.mul_one, Nat.one_mul, sc, rd, dc, n0, rep_z64, rep_z48, sp1, t64, u8s_len, rdl, z64_len, u8s_cell, zl, uz, z51, sz, dl, zd, t51, ub, t48]
 ·rw [if_neg he]
  have n0 : ((r.read 0 (f + a.tmod c)).2 != 0) = true := by simpa using he
  unfold PgS.cells zpg
  simp -implicitDefEqProofs (maxSteps := 5000000) only [go_sem, Nat.reduceShiftRight, Nat.reduceAnd, Nat.reduceBNe, Int.reduceEq, Nat.reduceAdd, Nat.reduceSub, Nat.reduceMul, Nat.reduceLeDiff, reduceIte, reduceCtorEq, Nat.reduceBEq, Nat.reduceEqDiff, wrap64, runC_loop, runC_range, callF_fn, callV_fn, callV_yld, yield_eq, yieldBody, yieldRaw, roundMid, roundEnd, rangeEnd, Bool.not_not, put_cons, put_nil, trim_same, at_zero, at_add, set_zero, set_add, store_one, write_zero, write_add, write_head, write_succ, splice_one, splice_more, List.drop_nil, List.take_nil, cell_int, cell_bool, fillS, splice_one, idxA, Ex.isNormal, List.set_nil, List.length_set, List.all_cons, List.all_nil, Bool.and_self, and_self, true_and, and_true, List.getElem?_nil, Int.reduceLT, Int.reduceLE, Int.reduceToNat, Int.toNat_zero, Int.toNat_one, Int.reduceAdd, Int.reduceSub, Int.reduceMul, Int.reduceNeg, Int.reduceBEq, Int.reduceBNe, Int.reduceGE, Int.reduceGT, Nat.reduceLT, trim_keep, under_fn, under_ptr, under_sl, Nat.lt_irrefl, not_lt_add, trim_tail, keepOk, ABlk.vals, Int.cast_ofNat_Int, decide_true, decide_false, List.all_cons, List.all_nil, Nat.zero_mul, Nat.mul_one, Nat.one_mul, sc, rd, n0, rep_z64, rep_z48, sp1, t64, u8s_len, rdl, z64_len, u8s_cell, zl, uz, z51, sz]
end
end Go.Proofs.Ytipedaadjfhdnaa.G06
end
section
namespace Go.Proofs.Ytipedaadjfhdnaa.G06
open Go Go.Proofs.Ytipedaadjfhdnaa.Eng
theorem enc_b64 {p : PgS} (h : p.Ok) : B64 p.enc.1 := by
 unfold PgS.enc
 split
 ·exact encS_b64 h.m h.b
 ·exact z64_b
section
variable {q : RPl} {H : AHeap} {n : Nat} {r : RgS} {F : Nat → Prop} (m : RigAt q H n r F)
include m
set_option maxHeartbeats 4000000 in
theorem rwriteC {f c a : Int} (hf : 0 ≤ f) (hc : 2 ≤ c) (hs : f + c ≤ 1000000000) (ha : 0 ≤ a) {p : PgS} (hp : p.Ok) (hk : encOk p.m p.i = true) (hn : n + 1 ≤ 1000000000) :
  ∃ H' F', RigAt q H' (n + 1) (writeP r f c a p).1 F' ∧ RStep H F H' F' ∧ (envL prog).call 30 [trk q.p f c, .int .i64 a, .agg p.cells] H = some (.int .i64 (writeP r f c a p).2, H') := by
 have sc := fun X => sectorC' q.p hf hc hs ha (H ++ X)
 have ok := enc_b64 hp
 have ec := fun X => encC hp (H ++ X)
 have e2 : p.enc.2 = 0 := by unfold PgS.enc; rw [if_pos hk]
 have el := ok.1
 have pl : (AV.int .u8 p.m :: .int .u32 p.s :: .int .i64 p.i :: u8s p.b).length = 51 := by simp [u8s_len, hp.b.1]
 obtain ⟨K, hK⟩ : ∃ K : AHeap, K = H ++ [.rw [.ptr q.p 0, .int .i64 f, .int .i64 c], .rw p.cells, .rw (u8s p.enc.1)] := ⟨_, rfl⟩
 have mK : RigAt q K n r F := by rw [hK]; exact m.adds _
 obtain ⟨K', F', m', st, ew⟩ := atWrite mK 0 (f + a.tmod c) ok hn
 have k0 : K[H.length]? = some (.rw [.ptr q.p 0, .int .i64 f, .int .i64 c]) := by rw [hK]; simp
 have k2 : K[H.length + 2]? = some (.rw (u8s p.enc.1)) := by rw [hK]; simp
 have c0 := cells_rw (st.1.at k0 fun h => by have := m.lt _ h; omega)
 have c2 := cells_rw (st.1.at k2 fun h => by have := m.lt _ h; omega)
 have sK : RStep H F K F := ⟨by rw [hK]; exact Fr.adds ⟨_, rfl⟩ _, fun b h => .inl h⟩
 obtain ⟨H', F'', et, mt, stt, _⟩ := m.trim m' (sK.trans st) (.int .i64 (writeP r f c a p).2)
 refine ⟨H', F'', mt, stt, ?_⟩
 have sp := splice_all z64_len el (by omega)
 have t64 := u8s_take el
 have n0 : ((0 : Int) != 0) = false := rfl
 have t51 : p.cells.take 51 = p.cells := List.take_of_length_le (by unfold PgS.cells; omega)
 have c51 : p.cells.length = 51 := pl
 have et' := et
 unfold writeP at et'
 rw [hK] at ew
 rw [c30]
 unfold b30
 simp -implicitDefEqProofs (maxSteps := 5000000) only [go_sem, Nat.reduceShiftRight, Nat.reduceAnd, Nat.reduceBNe, Int.reduceEq, Nat.reduceAdd, Nat.reduceSub, Nat.reduceMul, Nat.reduceLeDiff, reduceIte, reduceCtorEq, Nat.reduceBEq, Nat.reduceEqDiff, wrap64, runC_loop, runC_range, callF_fn, callV_fn, callV_yld, yield_eq, yieldBody, yieldRaw, roundMid, roundEnd, rangeEnd, Bool.not_not, put_cons, put_nil, trim_same, at_zero, at_add, set_zero, set_add, store_one, write_zero, write_add, write_head, write_succ, splice_one, splice_more, List.drop_nil, List.take_nil, cell_int, cell_bool, fillS, splice_one, idxA, Ex.isNormal, List.set_nil, List.length_set, List.all_cons, List.all_nil, Bool.and_self, and_self, true_and, and_true, List.getElem?_nil, Int.reduceLT, Int.reduceLE, Int.reduceToNat, Int.toNat_zero, Int.toNat_one, Int.reduceAdd, Int.reduceSub, Int.reduceMul, Int.reduceNeg, Int.reduceBEq, Int.reduceBNe, Int.reduceGE, Int.reduceGT, Nat.reduceLT, trim_keep, under_fn, under_ptr, under_sl, Nat.lt_irrefl, not_lt_add, trim_tail, keepOk, ABlk.vals, Int.cast_ofNat_Int, decide_true, decide_false, List.all_cons, List.all_nil, Nat.zero_mul, Nat.mul_one, Nat.one_mul, ec, e2, sc, rep_z64, sp, t64, u8s_len, el, z64_len, u8s_cell, n0, t51, c51, ew, c0, c2, et', writeP]
 done
end
end Go.Proofs.Ytipedaadjfhdnaa.G06
end
section
namespace Go.Proofs.Ytipedaadjfhdnaa.G06
open Go Go.Proofs.Ytipedaadjfhdnaa.Eng
theorem readP_ok {q : RPl} {H : AHeap} {n : Nat} {r : RgS} {F : Nat → Prop} (m : RigAt q H n r F) (f c a : Int) : (readP r f c a).1.Ok := by
 unfold readP
 split
 ·exact decS_ok (at_ok m _ _)
 ·exact zpg_ok
section
variable {q : RPl} {H : AHeap} {n : Nat} {r : RgS} {F : Nat → Prop} (m : RigAt q H n r F) {f c a seq : Int} (hf : 0 ≤ f) (hc : 2 ≤ c) (hc2 : c ≤ 256) (hs : f + c ≤ 1000000000) (ha : 0 ≤ a) (ha2 : a < c)
include m hf hc hc2 hs ha ha2
set_option maxHeartbeats 8000000 in
theorem nextL (x0 x4 x5 : AV) : ∀ (k : Nat) (v : AV) (l : List ImS) (K : AHeap) (j6 j7 j9 j10 j11 j12 j13 j14 j15 j16 j17 j18 j19 j20 j21 j22 j23 j24 j25 j26 j27 j28 j29 j30 j31 j32 j33 j34 j35 j36 j37 j38 j39 j40 j41 j42 j43 j44 j45 j46 j47 j48 j49 j50 j51 j52 j53 j54 j55 j56 : AV), Adds (H ++ [.rw [.ptr q.p 0, .int .i64 f, .int .i64 c]]) K → GR 49 K (H.length + 1) v (imRows l) → (∀ x ∈ l, x.b.length = 48) → l.length + (k + 1) = c.toNat →
  Outs (LP1 l29x0 [x0, .int .i64 a, .int .u32 seq, .ptr H.length 0, x4, x5, j6, j7, v, j9, j10, j11, j12, j13, j14, j15, j16, j17, j18, j19, j20, j21, j22, j23, j24, j25, j26, j27, j28, j29, j30, j31, j32, j33, j34, j35, j36, j37, j38, j39, j40, j41, j42, j43, j44, j45, j46, j47, j48, j49, j50, j51, j52, j53, j54, j55, j56] K) fun e t K' => Adds (H ++ [.rw [.ptr q.p 0, .int .i64 f, .int .i64 c]]) K' ∧ ∃ fv : Nat → AV, t = [x0, .int .i64 a, .int .u32 seq, .ptr H.length 0, x4, x5, (fv 6), (fv 7), fv 8, (fv 9), (fv 10), (fv 11), (fv 12), (fv 13), (fv 14), (fv 15), (fv 16), (fv 17), (fv 18), (fv 19), (fv 20), (fv 21), (fv 22), (fv 23), (fv 24), (fv 25), (fv 26), (fv 27), (fv 28), (fv 29), (fv 30), (fv 31), (fv 32), (fv 33), (fv 34), (fv 35), (fv 36), (fv 37), (fv 38), (fv 39), (fv 40), (fv 41), (fv 42), (fv 43), (fv 44), (fv 45), (fv 46), (fv 47), (fv 48), (fv 49), (fv 50), (fv 51), (fv 52), (fv 53), (fv 54), (fv 55), (fv 56)] ∧
   ((e = .exit 0 ∧ nextS r f c a seq (k + 1) l = ([], 0)) ∨ (e = .ret ∧ fv 7 = .int .i64 (nextS r f c a seq (k + 1) l).2 ∧ GR 49 K' (H.length + 1) (fv 6) (imRows (nextS r f c a seq (k + 1) l).1) ∧ ∀ x ∈ (nextS r f c a seq (k + 1) l).1, x.b.length = 48)) := by
 intro k
 obtain ⟨L, hL⟩ : ∃ L, L = LP1 l29x0 := ⟨_, rfl⟩
 have lo := loop_open hL
 rw [← hL]
 have zl : zbody.length = 48 := zbody_b.1
 have zd : (u8s zbody).drop 48 = [] := List.drop_of_length_le (by rw [u8s_len, zl]; omega)
 induction k using Nat.strongRecOn with
 | ind k ih =>
  intro v l K j6 j7 j9 j10 j11 j12 j13 j14 j15 j16 j17 j18 j19 j20 j21 j22 j23 j24 j25 j26 j27 j28 j29 j30 j31 j32 j33 j34 j35 j36 j37 j38 j39 j40 j41 j42 j43 j44 j45 j46 j47 j48 j49 j50 j51 j52 j53 j54 j55 j56 aK g hb hi
  have aH : Adds H K := by obtain ⟨G, rfl⟩ := aK; exact ⟨_, by rw [List.append_assoc]⟩
  have mK : RigAt q K n r F := by obtain ⟨G, rfl⟩ := aH; exact m.adds _
  have cK : cellsOf K H.length = some [.ptr q.p 0, .int .i64 f, .int .i64 c] := by obtain ⟨G, rfl⟩ := aK; exact cells_old (by unfold cellsOf; simp)
  have cK' := fun X : AHeap => cells_old (x := X) cK
  have gl := g.len
  unfold imRows at gl
  rw [List.length_map] at gl
  have w1 : IntKind.i64.wrap (a + (l.length : Int)) = a + (l.length : Int) := wrap64 (by omega) (by omega)
  have w2 : IntKind.i64.wrap (c - 1) = c - 1 := wrap64 (by omega) (by omega)
  have rc := rreadC mK hf hc hs (show 0 ≤ a + (l.length : Int) by omega)
  have ok := readP_ok mK f c (a + (l.length : Int))
  have bl := ok.b.1
  have nil48 : ∀ x ∈ ([] : List ImS), x.b.length = 48 := fun x hx => by cases hx
  have gn : ∀ K', GR 49 K' (H.length + 1) .nilSl (imRows []) := fun K' => .inl ⟨rfl, rfl⟩
  have aN : ∀ X : AHeap, Adds (H ++ [.rw [.ptr q.p 0, .int .i64 f, .int .i64 c]]) (K ++ X) := fun X => aK.trans ⟨X, rfl⟩
  rw [lo]
  unfold l29x0 nextS
  generalize readP r f c (a + (l.length : Int)) = X at *
  obtain ⟨⟨pm, ps, pi, pb⟩, pe⟩ := X
  simp only at bl
  have eqp : binV .eql (.flat 51) (.agg (.int .u8 pm :: .int .u32 ps :: .int .i64 pi :: u8s pb)) (.agg (.int .u8 67 :: .int .u32 seq :: .int .i64 (l.length : Int) :: u8s zbody)) = some (.bool (decide ((⟨pm, ps, pi, pb⟩ : PgS) = commitP seq l.length))) := eq_pg (p := ⟨pm, ps, pi, pb⟩) (p' := commitP seq l.length) bl zl
  have t51 : (AV.int .u8 pm :: .int .u32 ps :: .int .i64 pi :: u8s pb).take 51 = AV.int .u8 pm :: .int .u32 ps :: .int .i64 pi :: u8s pb := List.take_of_length_le (by simp [u8s_len, bl])
  unfold PgS.cells at rc
  simp only at rc ⊢
  by_cases he : pe = 0
  ·have n0 : (pe != 0) = false := by rw [he]; rfl
   rw [if_pos he]
   by_cases hq : ps = seq
   ·have n1 : (ps != seq) = false := by rw [hq]; simp
    rw [if_pos hq]
    by_cases h73 : pm = 73
    ·rw [if_pos h73]
     have n2 : (pm == 73) = true := by rw [h73]; rfl
     rcases Nat.eq_zero_or_pos k with rfl | hk
     ·have d2 : decide ((l.length : Int) < c - 1) = false := decide_eq_false (by omega)
      have dq : decide ((⟨pm, ps, pi, pb⟩ : PgS) = commitP seq l.length) = false := decide_eq_false fun h => by
       have := congrArg PgS.m h
       rw [show (commitP seq l.length).m = 67 from rfl] at this
       simp only at this; omega
      simp -implicitDefEqProofs (maxSteps := 5000000) only [go_sem, Nat.reduceShiftRight, Nat.reduceAnd, Nat.reduceBNe, Int.reduceEq, Nat.reduceAdd, Nat.reduceSub, Nat.reduceMul, Nat.reduceLeDiff, reduceIte, reduceCtorEq, Nat.reduceBEq, Nat.reduceEqDiff, wrap64, runC_loop, runC_range, callF_fn, callV_fn, callV_yld, yield_eq, yieldBody, yieldRaw, roundMid, roundEnd, rangeEnd, Bool.not_not, put_cons, put_nil, trim_same, at_zero, at_add, set_zero, set_add, store_one, write_zero, write_add, write_head, write_succ, splice_one, splice_more, List.drop_nil, List.take_nil, cell_int, cell_bool, fillS, splice_one, idxA, Ex.isNormal, List.set_nil, List.length_set, List.all_cons, List.all_nil, Bool.and_self, and_self, true_and, and_true, List.getElem?_nil, Int.reduceLT, Int.reduceLE, Int.reduceToNat, Int.toNat_zero, Int.toNat_one, Int.reduceAdd, Int.reduceSub, Int.reduceMul, Int.reduceNeg, Int.reduceBEq, Int.reduceBNe, Int.reduceGE, Int.reduceGT, Nat.reduceLT, trim_keep, under_fn, under_ptr, under_sl, Nat.lt_irrefl, not_lt_add, trim_tail, keepOk, ABlk.vals, Int.cast_ofNat_Int, decide_true, decide_false, List.all_cons, List.all_nil, Nat.zero_mul, Nat.mul_one, Nat.one_mul, cK, cK', gl, w1, w2, rc, rep_z48, u8s_len, zl, bl, u8s_cell, n0, n1, n2, d2, eqp, dq, t51, zd, seqR_exit', outs_normal]
      exact ⟨aN _, exF2 rfl (.inl (by simp [nextS]))⟩
     ·have d2 : decide ((l.length : Int) < c - 1) = true := decide_eq_true (by omega)
      obtain ⟨k, rfl⟩ : ∃ k', k = k' + 1 := ⟨k - 1, by omega⟩
      obtain ⟨v', K', aK', g', ea⟩ := GR.app (k := 49) (by omega) (d := ty 49 true 56 (.int .i64 0 :: u8s zbody)) rfl (by decide) (P := H ++ [.rw [.ptr q.p 0, .int .i64 f, .int .i64 c]]) (H := K ++ [.rw (.int .u8 pm :: .int .u32 ps :: .int .i64 pi :: u8s pb), .rw (.int .i64 pi :: u8s pb)]) (l := v) (rows := imRows l) (r := .int .i64 pi :: u8s pb) (y := .sl (K.length + 1) 0 49 1 1 true) (aN _) (by rw [List.length_append, List.length_singleton]; exact g.mono _) (by
        intro x hx
        obtain ⟨y, hy, rfl⟩ := List.mem_map.1 hx
        simp [ImS.cells, u8s_len, hb y hy]) rfl (by
        unfold srcCells readN cellsOf
        simp [u8s_len, bl, List.take_of_length_le]) (by simp only [List.all_cons, u8s_cell, AV.isCell, Bool.and_self]) (by
        unfold imRows
        rw [List.length_map]
        show (l.length + 1) * 56 ≤ roomy
        unfold roomy; omega)
      rw [show imRows l ++ [.int .i64 pi :: u8s pb] = imRows (l ++ [⟨pi, pb⟩]) by unfold imRows; rw [List.map_append]; rfl] at g'
      have sp : splice (.int .i64 pi :: u8s zbody) 1 (u8s pb) = .int .i64 pi :: u8s pb := by
       rw [splice_long _ _ _ (by rw [u8s_len]; omega), u8s_len, bl]
       show .int .i64 pi :: (u8s pb ++ (u8s zbody).drop 48) = _
       rw [zd, List.append_nil]
      have sp2 : splice (.int .i64 0 :: u8s zbody) 0 (.int .i64 pi :: u8s pb) = .int .i64 pi :: u8s pb := by
       rw [splice_long _ _ _ (by simp [u8s_len, bl]), List.drop_of_length_le (by simp [u8s_len, bl, zl]), List.append_nil]; rfl
      have t48 := u8s_take bl
      simp -implicitDefEqProofs (maxSteps := 5000000) only [go_sem, Nat.reduceShiftRight, Nat.reduceAnd, Nat.reduceBNe, Int.reduceEq, Nat.reduceAdd, Nat.reduceSub, Nat.reduceMul, Nat.reduceLeDiff, reduceIte, reduceCtorEq, Nat.reduceBEq, Nat.reduceEqDiff, wrap64, runC_loop, runC_range, callF_fn, callV_fn, callV_yld, yield_eq, yieldBody, yieldRaw, roundMid, roundEnd, rangeEnd, Bool.not_not, put_cons, put_nil, trim_same, at_zero, at_add, set_zero, set_add, store_one, write_zero, write_add, write_head, write_succ, splice_one, splice_more, List.drop_nil, List.take_nil, cell_int, cell_bool, fillS, splice_one, idxA, Ex.isNormal, List.set_nil, List.length_set, List.all_cons, List.all_nil, Bool.and_self, and_self, true_and, and_true, List.getElem?_nil, Int.reduceLT, Int.reduceLE, Int.reduceToNat, Int.toNat_zero, Int.toNat_one, Int.reduceAdd, Int.reduceSub, Int.reduceMul, Int.reduceNeg, Int.reduceBEq, Int.reduceBNe, Int.reduceGE, Int.reduceGT, Nat.reduceLT, trim_keep, under_fn, under_ptr, under_sl, Nat.lt_irrefl, not_lt_add, trim_tail, keepOk, ABlk.vals, Int.cast_ofNat_Int, decide_true, decide_false, List.all_cons, List.all_nil, Nat.zero_mul, Nat.mul_one, Nat.one_mul, cK, cK', gl, w1, w2, rc, rep_z48, u8s_len, zl, bl, u8s_cell, n0, n1, n2, d2, t51, t48, sp, sp2, zd, ea, seqR_exit', outs_normal]
      have hb2 : ∀ x ∈ l ++ [(⟨pi, pb⟩ : ImS)], x.b.length = 48 := fun x hx => by
       rcases List.mem_append.1 hx with h | h
       ·exact hb x h
       ·rw [List.mem_singleton.1 h]; exact bl
      have hi2 : (l ++ [(⟨pi, pb⟩ : ImS)]).length + (k + 1) = c.toNat := by rw [List.length_append, List.length_singleton]; omega
      rw [List.length_append, List.length_singleton] at g'
      have key := ih k (Nat.lt_succ_self k) v' (l ++ [⟨pi, pb⟩]) K'
      clear ih
      generalize nextS r f c a seq (k + 1) (l ++ [(⟨pi, pb⟩ : ImS)]) = N at key ⊢
      exact key _ _ _ _ _ _ _ _ _ _ _ _ _ _ _ _ _ _ _ _ _ _ _ _ _ _ _ _ _ _ _ _ _ _ _ _ _ _ _ _ _ _ _ _ _ _ _ _ _ _ aK' g' hb2 hi2
    ·rw [if_neg h73]
     have n2 : (pm == 73) = false := by simpa using h73
     by_cases hcm : (⟨pm, ps, pi, pb⟩ : PgS) = commitP seq l.length
     ·rw [if_pos hcm]
      have dq := decide_eq_true hcm
      simp -implicitDefEqProofs (maxSteps := 5000000) only [go_sem, Nat.reduceShiftRight, Nat.reduceAnd, Nat.reduceBNe, Int.reduceEq, Nat.reduceAdd, Nat.reduceSub, Nat.reduceMul, Nat.reduceLeDiff, reduceIte, reduceCtorEq, Nat.reduceBEq, Nat.reduceEqDiff, wrap64, runC_loop, runC_range, callF_fn, callV_fn, callV_yld, yield_eq, yieldBody, yieldRaw, roundMid, roundEnd, rangeEnd, Bool.not_not, put_cons, put_nil, trim_same, at_zero, at_add, set_zero, set_add, store_one, write_zero, write_add, write_head, write_succ, splice_one, splice_more, List.drop_nil, List.take_nil, cell_int, cell_bool, fillS, splice_one, idxA, Ex.isNormal, List.set_nil, List.length_set, List.all_cons, List.all_nil, Bool.and_self, and_self, true_and, and_true, List.getElem?_nil, Int.reduceLT, Int.reduceLE, Int.reduceToNat, Int.toNat_zero, Int.toNat_one, Int.reduceAdd, Int.reduceSub, Int.reduceMul, Int.reduceNeg, Int.reduceBEq, Int.reduceBNe, Int.reduceGE, Int.reduceGT, Nat.reduceLT, trim_keep, under_fn, under_ptr, under_sl, Nat.lt_irrefl, not_lt_add, trim_tail, keepOk, ABlk.vals, Int.cast_ofNat_Int, decide_true, decide_false, List.all_cons, List.all_nil, Nat.zero_mul, Nat.mul_one, Nat.one_mul, cK, cK', gl, w1, w2, rc, rep_z48, u8s_len, zl, bl, u8s_cell, n0, n1, n2, eqp, dq, t51, zd, seqR_ret, outs_normal]
      exact ⟨aN _, exF2 rfl (.inr ⟨rfl, g.mono _, hb⟩)⟩
     ·rw [if_neg hcm]
      have dq := decide_eq_false hcm
      simp -implicitDefEqProofs (maxSteps := 5000000) only [go_sem, Nat.reduceShiftRight, Nat.reduceAnd, Nat.reduceBNe, Int.reduceEq, Nat.reduceAdd, Nat.reduceSub, Nat.reduceMul, Nat.reduceLeDiff, reduceIte, reduceCtorEq, Nat.reduceBEq, Nat.reduceEqDiff, wrap64, runC_loop, runC_range, callF_fn, callV_fn, callV_yld, yield_eq, yieldBody, yieldRaw, roundMid, roundEnd, rangeEnd, Bool.not_not, put_cons, put_nil, trim_same, at_zero, at_add, set_zero, set_add, store_one, write_zero, write_add, write_head, write_succ, splice_one, splice_more, List.drop_nil, List.take_nil, cell_int, cell_bool, fillS, splice_one, idxA, Ex.isNormal, List.set_nil, List.length_set, List.all_cons, List.all_nil, Bool.and_self, and_self, true_and, and_true, List.getElem?_nil, Int.reduceLT, Int.reduceLE, Int.reduceToNat, Int.toNat_zero, Int.toNat_one, Int.reduceAdd, Int.reduceSub, Int.reduceMul, Int.reduceNeg, Int.reduceBEq, Int.reduceBNe, Int.reduceGE, Int.reduceGT, Nat.reduceLT, trim_keep, under_fn, under_ptr, under_sl, Nat.lt_irrefl, not_lt_add, trim_tail, keepOk, ABlk.vals, Int.cast_ofNat_Int, decide_true, decide_false, List.all_cons, List.all_nil, Nat.zero_mul, Nat.mul_one, Nat.one_mul, cK, cK', gl, w1, w2, rc, rep_z48, u8s_len, zl, bl, u8s_cell, n0, n1, n2, eqp, dq, t51, zd, seqR_exit', outs_normal]
      exact ⟨aN _, exF2 rfl (.inl trivial)⟩
   ·have n1 : (ps != seq) = true := by simpa using hq
    rw [if_neg hq]
    simp -implicitDefEqProofs (maxSteps := 5000000) only [go_sem, Nat.reduceShiftRight, Nat.reduceAnd, Nat.reduceBNe, Int.reduceEq, Nat.reduceAdd, Nat.reduceSub, Nat.reduceMul, Nat.reduceLeDiff, reduceIte, reduceCtorEq, Nat.reduceBEq, Nat.reduceEqDiff, wrap64, runC_loop, runC_range, callF_fn, callV_fn, callV_yld, yield_eq, yieldBody, yieldRaw, roundMid, roundEnd, rangeEnd, Bool.not_not, put_cons, put_nil, trim_same, at_zero, at_add, set_zero, set_add, store_one, write_zero, write_add, write_head, write_succ, splice_one, splice_more, List.drop_nil, List.take_nil, cell_int, cell_bool, fillS, splice_one, idxA, Ex.isNormal, List.set_nil, List.length_set, List.all_cons, List.all_nil, Bool.and_self, and_self, true_and, and_true, List.getElem?_nil, Int.reduceLT, Int.reduceLE, Int.reduceToNat, Int.toNat_zero, Int.toNat_one, Int.reduceAdd, Int.reduceSub, Int.reduceMul, Int.reduceNeg, Int.reduceBEq, Int.reduceBNe, Int.reduceGE, Int.reduceGT, Nat.reduceLT, trim_keep, under_fn, under_ptr, under_sl, Nat.lt_irrefl, not_lt_add, trim_tail, keepOk, ABlk.vals, Int.cast_ofNat_Int, decide_true, decide_false, List.all_cons, List.all_nil, Nat.zero_mul, Nat.mul_one, Nat.one_mul, cK, gl, w1, rc, rep_z48, u8s_len, zl, bl, u8s_cell, n0, n1, zd, seqR_exit', outs_normal]
    exact ⟨aN _, exF2 rfl (.inl trivial)⟩
  ·have n0 : (pe != 0) = true := by simpa using he
   rw [if_neg he]
   simp -implicitDefEqProofs (maxSteps := 5000000) only [go_sem, Nat.reduceShiftRight, Nat.reduceAnd, Nat.reduceBNe, Int.reduceEq, Nat.reduceAdd, Nat.reduceSub, Nat.reduceMul, Nat.reduceLeDiff, reduceIte, reduceCtorEq, Nat.reduceBEq, Nat.reduceEqDiff, wrap64, runC_loop, runC_range, callF_fn, callV_fn, callV_yld, yield_eq, yieldBody, yieldRaw, roundMid, roundEnd, rangeEnd, Bool.not_not, put_cons, put_nil, trim_same, at_zero, at_add, set_zero, set_add, store_one, write_zero, write_add, write_head, write_succ, splice_one, splice_more, List.drop_nil, List.take_nil, cell_int, cell_bool, fillS, splice_one, idxA, Ex.isNormal, List.set_nil, List.length_set, List.all_cons, List.all_nil, Bool.and_self, and_self, true_and, and_true, List.getElem?_nil, Int.reduceLT, Int.reduceLE, Int.reduceToNat, Int.toNat_zero, Int.toNat_one, Int.reduceAdd, Int.reduceSub, Int.reduceMul, Int.reduceNeg, Int.reduceBEq, Int.reduceBNe, Int.reduceGE, Int.reduceGT, Nat.reduceLT, trim_keep, under_fn, under_ptr, under_sl, Nat.lt_irrefl, not_lt_add, trim_tail, keepOk, ABlk.vals, Int.cast_ofNat_Int, decide_true, decide_false, List.all_cons, List.all_nil, Nat.zero_mul, Nat.mul_one, Nat.one_mul, cK, gl, w1, rc, rep_z48, u8s_len, zl, bl, u8s_cell, n0, zd, seqR_ret, outs_normal]
   exact ⟨aN _, exF2 rfl (.inr ⟨rfl, gn _, nil48⟩)⟩
end
end Go.Proofs.Ytipedaadjfhdnaa.G06
end
section
namespace Go.Proofs.Ytipedaadjfhdnaa.G06
open Go Go.Proofs.Ytipedaadjfhdnaa.Eng
theorem gr_trim {k : Nat} {H K : AHeap} (a : Adds H K) {l : AV} {rows : List (List AV)} (g : GR k K H.length l rows) (e : Int) : ∃ K', Adds H K' ∧ GR k K' H.length l rows ∧ trim H (some (.tup [l, .int .i64 e], K)) = some (.tup [l, .int .i64 e], K') := by
 rcases g with ⟨rfl, rfl⟩ | ⟨h0, b, hb, rfl, h⟩
 ·obtain ⟨G, rfl⟩ := a
  exact ⟨H, Adds.refl H, .inl ⟨rfl, rfl⟩, trim_app (by simp [AV.under, underAll])⟩
 ·exact ⟨K, a, .inr ⟨h0, b, hb, rfl, h⟩, trim_keep (by simp [AV.under, underAll]; omega)⟩
section
variable {q : RPl} {H : AHeap} {n : Nat} {r : RgS} {F : Nat → Prop} (m : RigAt q H n r F) {f c a seq : Int} (hf : 0 ≤ f) (hc : 2 ≤ c) (hc2 : c ≤ 256) (hs : f + c ≤ 1000000000) (ha : 0 ≤ a) (ha2 : a < c)
include m hf hc hc2 hs ha ha2
set_option maxHeartbeats 8000000 in
theorem nextC : ∃ v K, Adds H K ∧ GR 49 K H.length v (imRows (nextS r f c a seq c.toNat []).1) ∧ (∀ x ∈ (nextS r f c a seq c.toNat []).1, x.b.length = 48) ∧ (envL prog).call 29 [trk q.p f c, .int .i64 a, .int .u32 seq] H = some (.tup [v, .int .i64 (nextS r f c a seq c.toNat []).2], K) := by
 obtain ⟨k, hk⟩ : ∃ k, c.toNat = k + 1 := ⟨c.toNat - 1, by omega⟩
 have l0 := nextL (seq := seq) m hf hc hc2 hs ha ha2 (k := k) (v := .nilSl) (l := []) (K := H ++ [.rw [.ptr q.p 0, .int .i64 f, .int .i64 c]])
 rw [hk]
 have nn : nextS r f c a seq (k + 1) [] = nextS r f c a seq (k + 1) [] := rfl
 generalize nextS r f c a seq (k + 1) [] = N at l0 ⊢
 have o : Outs (runC (envL prog) (b29 (envL prog)) ([trk q.p f c, .int .i64 a, .int .u32 seq] ++ List.replicate (57 - [trk q.p f c, .int .i64 a, .int .u32 seq].length) .undef) H) fun e' t K => Adds H K ∧ ∃ v, GR 49 K H.length v (imRows N.1) ∧ (∀ x ∈ N.1, x.b.length = 48) ∧ fin [.tmp 6, .tmp 7] (some (e', t, K)) = some (.tup [v, .int .i64 N.2], K) := by
  unfold b29
  generalize hQ : (fun (e' : Ex) (t : T) (K : AHeap) => Adds H K ∧ ∃ v, GR 49 K H.length v (imRows N.1) ∧ (∀ x ∈ N.1, x.b.length = 48) ∧ fin [.tmp 6, .tmp 7] (some (e', t, K)) = some (.tup [v, .int .i64 N.2], K)) = Q
  simp -implicitDefEqProofs (maxSteps := 5000000) only [go_sem, Nat.reduceShiftRight, Nat.reduceAnd, Nat.reduceBNe, Int.reduceEq, Nat.reduceAdd, Nat.reduceSub, Nat.reduceMul, Nat.reduceLeDiff, reduceIte, reduceCtorEq, Nat.reduceBEq, Nat.reduceEqDiff, runC_loop]
  unfold LP1 at l0
  generalize (envL prog).loop (runC (envL prog) (l29x0 (envL prog))) = L0 at l0 ⊢
  refine outs_ctx (fun r => seqR (blockR 0 r) _) (l0 _ _ _ _ _ _ _ _ _ _ _ _ _ _ _ _ _ _ _ _ _ _ _ _ _ _ _ _ _ _ _ _ _ _ _ _ _ _ _ _ _ _ _ _ _ _ _ _ _ _ _ _ _ (Adds.refl _) (.inl ⟨rfl, rfl⟩) (fun x hx => by cases hx) (by rw [hk]; simp)) ?_
  rintro e t K' ⟨aK, fv, rfl, ⟨rfl, hN⟩ | ⟨rfl, h7, g, hb⟩⟩
  ·simp -implicitDefEqProofs (maxSteps := 5000000) only [go_sem, Nat.reduceShiftRight, Nat.reduceAnd, Nat.reduceBNe, Int.reduceEq, Nat.reduceAdd, Nat.reduceSub, Nat.reduceMul, Nat.reduceLeDiff, reduceIte, reduceCtorEq, Nat.reduceBEq, Nat.reduceEqDiff, outs_normal]
   subst hQ
   subst hN
   refine ⟨Adds.trans ⟨_, rfl⟩ aK, .nilSl, .inl ⟨rfl, rfl⟩, (fun x hx => by cases hx), ?_⟩
   simp -implicitDefEqProofs (maxSteps := 5000000) only [go_sem, Nat.reduceShiftRight, Nat.reduceAnd, Nat.reduceBNe, Int.reduceEq, Nat.reduceAdd, Nat.reduceSub, Nat.reduceMul, Nat.reduceLeDiff, reduceIte, reduceCtorEq, Nat.reduceBEq, Nat.reduceEqDiff]
  ·simp -implicitDefEqProofs (maxSteps := 5000000) only [go_sem, Nat.reduceShiftRight, Nat.reduceAnd, Nat.reduceBNe, Int.reduceEq, Nat.reduceAdd, Nat.reduceSub, Nat.reduceMul, Nat.reduceLeDiff, reduceIte, reduceCtorEq, Nat.reduceBEq, Nat.reduceEqDiff, outs_normal]
   subst hQ
   refine ⟨Adds.trans ⟨_, rfl⟩ aK, fv 6, GR.low g (by omega), hb, ?_⟩
   simp -implicitDefEqProofs (maxSteps := 5000000) only [go_sem, Nat.reduceShiftRight, Nat.reduceAnd, Nat.reduceBNe, Int.reduceEq, Nat.reduceAdd, Nat.reduceSub, Nat.reduceMul, Nat.reduceLeDiff, reduceIte, reduceCtorEq, Nat.reduceBEq, Nat.reduceEqDiff, h7]
 obtain ⟨e', t, K, hr, aK, v, g, hb, hf⟩ := o
 obtain ⟨K', aK', g', et⟩ := gr_trim aK g N.2
 exact ⟨v, K', aK', g', hb, by rw [c29, hr, hf, et]⟩
end
end Go.Proofs.Ytipedaadjfhdnaa.G06
end
section
namespace Go.Proofs.Ytipedaadjfhdnaa.G06
open Go Go.Proofs.Ytipedaadjfhdnaa.Eng
structure RpY (H : AHeap) (p : Nat) (f c : Int) (K : AHeap) (v : AV) (l : LogS) (vs : List AV) : Prop where
 old : ∀ b, b < H.length → K[b]? = H[b]?
 len : H.length + 3 ≤ K.length
 res : K[H.length]? = some (.rw [.nilSl, .int .i64 0, .int .u32 0])
 trk : K[H.length + 1]? = some (.rw [.ptr p 0, .int .i64 f, .int .i64 c])
 log : K[H.length + 2]? = some (.rw [v, .int .i64 l.at_, .int .u32 l.seq])
 lg : LogH K (H.length + 3) v l.t vs
section
variable {q : RPl} {H : AHeap} {n : Nat} {r : RgS} {F : Nat → Prop} (m : RigAt q H n r F) {f c : Int} (hf : 0 ≤ f) (hc : 2 ≤ c) (hc2 : c ≤ 256) (hs : f + c ≤ 1000000000)
include m hf hc hc2 hs
set_option maxHeartbeats 8000000 in
theorem replayL (x0 x1 x3 x4 x5 x6 x7 x8 x9 x16 x17 x18 x19 x20 x21 x22 x23 x24 x25 x26 x27 x68 : AV) : ∀ (k : Nat) (v : AV) (l : LogS) (vs : List AV) (K : AHeap) (j11 j14 j15 j28 j29 j30 j31 j32 j33 j34 j35 j36 j37 j38 j39 j40 j41 j42 j43 j44 j45 j46 j47 j48 j49 j50 j51 j52 j53 j54 j55 j56 j57 j58 j59 j60 j61 j62 j63 j64 j65 j66 j67 : AV), RpY H q.p f c K v l vs → 0 ≤ l.at_ → l.at_ < c → l.t.length + k = c.toNat →
  Outs (LP1 l8x0 [x0, x1, .int .i64 c, x3, x4, x5, x6, x7, x8, x9, .ptr H.length 0, j11, .ptr (H.length + 1) 0, .ptr (H.length + 2) 0, j14, j15, x16, x17, x18, x19, x20, x21, x22, x23, x24, x25, x26, x27, j28, j29, j30, j31, j32, j33, j34, j35, j36, j37, j38, j39, j40, j41, j42, j43, j44, j45, j46, j47, j48, j49, j50, j51, j52, j53, j54, j55, j56, j57, j58, j59, j60, j61, j62, j63, j64, j65, j66, j67, x68] K) fun e t K' => ∃ v' l' vs', RpY H q.p f c K' v' l' vs' ∧ ∃ fv : Nat → AV, t = [x0, x1, .int .i64 c, x3, x4, x5, x6, x7, x8, x9, .ptr H.length 0, (fv 11), .ptr (H.length + 1) 0, .ptr (H.length + 2) 0, (fv 14), (fv 15), x16, x17, x18, x19, x20, x21, x22, x23, x24, x25, x26, x27, (fv 28), (fv 29), (fv 30), (fv 31), (fv 32), (fv 33), (fv 34), (fv 35), (fv 36), (fv 37), (fv 38), (fv 39), (fv 40), (fv 41), (fv 42), (fv 43), (fv 44), (fv 45), (fv 46), (fv 47), (fv 48), (fv 49), (fv 50), (fv 51), (fv 52), (fv 53), (fv 54), (fv 55), (fv 56), (fv 57), (fv 58), (fv 59), (fv 60), (fv 61), (fv 62), (fv 63), (fv 64), (fv 65), (fv 66), (fv 67), x68] ∧
   ((e = .exit 0 ∧ replS r f c k l = (l', 0)) ∨ (e = .ret ∧ ∃ er, fv 11 = .int .i64 er ∧ replS r f c k l = (⟨[], 0, 0⟩, er))) := by
 intro k
 obtain ⟨L, hL⟩ : ∃ L, L = LP1 l8x0 := ⟨_, rfl⟩
 have lo := loop_open hL
 rw [← hL]
 induction k with
 | zero =>
  intro v l vs K j11 j14 j15 j28 j29 j30 j31 j32 j33 j34 j35 j36 j37 j38 j39 j40 j41 j42 j43 j44 j45 j46 j47 j48 j49 j50 j51 j52 j53 j54 j55 j56 j57 j58 j59 j60 j61 j62 j63 j64 j65 j66 j67 y h0 h1 hi
  have gl := y.lg.g.len
  have ol : (oneR vs).length = l.t.length := by unfold oneR; rw [List.length_map, y.lg.len]
  rw [ol] at gl
  have hd : decide ((l.t.length : Int) < c) = false := decide_eq_false (by omega)
  have cl := cells_rw y.log
  rw [lo]
  unfold l8x0 replS
  simp -implicitDefEqProofs (maxSteps := 5000000) only [go_sem, Nat.reduceShiftRight, Nat.reduceAnd, Nat.reduceBNe, Int.reduceEq, Nat.reduceAdd, Nat.reduceSub, Nat.reduceMul, Nat.reduceLeDiff, reduceIte, reduceCtorEq, Nat.reduceBEq, Nat.reduceEqDiff, cl, gl, hd, seqR_exit', outs_normal]
  exact ⟨v, l, vs, y, exF2 rfl (.inl (by simp))⟩
 | succ k ih =>
  intro v l vs K j11 j14 j15 j28 j29 j30 j31 j32 j33 j34 j35 j36 j37 j38 j39 j40 j41 j42 j43 j44 j45 j46 j47 j48 j49 j50 j51 j52 j53 j54 j55 j56 j57 j58 j59 j60 j61 j62 j63 j64 j65 j66 j67 y h0 h1 hi
  have gl := y.lg.g.len
  have ol : (oneR vs).length = l.t.length := by unfold oneR; rw [List.length_map, y.lg.len]
  rw [ol] at gl
  have hd : decide ((l.t.length : Int) < c) = true := decide_eq_true (by omega)
  have cl := cells_rw y.log
  have ct := cells_rw y.trk
  have mK : RigAt q K n r F := m.fr (F := F) (G := fun _ => False) ⟨by have := y.len; omega, fun b hb _ => y.old b hb⟩ fun _ _ h => h
  obtain ⟨w, K1, a1, gw, w48, ew⟩ := nextC (seq := l.seq) mK hf hc hc2 hs h0 h1
  have y1 : RpY H q.p f c K1 v l vs := ⟨fun b hb => by
   obtain ⟨G, rfl⟩ := a1
   rw [List.getElem?_append_left (by have := y.len; omega)]; exact y.old b hb, by obtain ⟨G, rfl⟩ := a1; have := y.len; rw [List.length_append]; omega, adds_at a1 y.res, adds_at a1 y.trk, adds_at a1 y.log, y.lg.fr (Fr.adds a1 (fun _ => False)) fun _ _ h => h⟩
  have cl1 := cells_rw (adds_at a1 y.log)
  have ct1 := cells_rw (adds_at a1 y.trk)
  have wl := gw.len
  unfold imRows at wl
  rw [List.length_map] at wl
  have lgw : ∀ (x : List ImS) , x = [] ∨ x ≠ [] := fun x => by by_cases e : x = [] <;> simp [e]
  rw [lo]
  unfold l8x0 replS
  have nl := nextS_len r f c l.at_ l.seq c.toNat []
  generalize nextS r f c l.at_ l.seq c.toNat [] = N at *
  obtain ⟨x, er⟩ := N
  simp only at *
  rw [List.length_nil, Nat.add_zero] at nl
  by_cases he : er = 0
  ·have n0 : (er != 0) = false := by rw [he]; rfl
   rw [if_pos he]
   by_cases hx : x = []
   ·rw [if_pos hx]
    have d1 : ((x.length : Int) == 0) = true := by rw [hx]; rfl
    simp -implicitDefEqProofs (maxSteps := 5000000) only [go_sem, Nat.reduceShiftRight, Nat.reduceAnd, Nat.reduceBNe, Int.reduceEq, Nat.reduceAdd, Nat.reduceSub, Nat.reduceMul, Nat.reduceLeDiff, reduceIte, reduceCtorEq, Nat.reduceBEq, Nat.reduceEqDiff, wrap64, runC_loop, runC_range, callF_fn, callV_fn, callV_yld, yield_eq, yieldBody, yieldRaw, roundMid, roundEnd, rangeEnd, Bool.not_not, put_cons, put_nil, trim_same, at_zero, at_add, set_zero, set_add, store_one, write_zero, write_add, write_head, write_succ, splice_one, splice_more, List.drop_nil, List.take_nil, cell_int, cell_bool, fillS, splice_one, idxA, Ex.isNormal, List.set_nil, List.length_set, List.all_cons, List.all_nil, Bool.and_self, and_self, true_and, and_true, List.getElem?_nil, Int.reduceLT, Int.reduceLE, Int.reduceToNat, Int.toNat_zero, Int.toNat_one, Int.reduceAdd, Int.reduceSub, Int.reduceMul, Int.reduceNeg, Int.reduceBEq, Int.reduceBNe, Int.reduceGE, Int.reduceGT, Nat.reduceLT, trim_keep, under_fn, under_ptr, under_sl, Nat.lt_irrefl, not_lt_add, trim_tail, keepOk, ABlk.vals, Int.cast_ofNat_Int, decide_true, decide_false, List.all_cons, List.all_nil, Nat.zero_mul, Nat.mul_one, Nat.one_mul, cl, ct, gl, hd, ew, n0, wl, d1, seqR_exit', outs_normal]
    exact ⟨v, l, vs, y1, exF2 rfl (.inl (by simp))⟩
   ·rw [if_neg hx]
    have d1 : ((x.length : Int) == 0) = false := by simpa using hx
    obtain ⟨v', K2, ea, lg2, f2, len2, cv, iv⟩ := LogH.push (d := ty 1 false 24 [.nilSl]) rfl rfl y.lg a1 gw w48 (by have := y.len; omega) (by omega)
    have wc := gw.cells
    have nB : ∀ b, b < H.length + 3 → ¬ slb v = some b := fun b hb h => by have := (y.lg.g.out b h).1; omega
    have b2 : K2[H.length + 2]? = some (.rw [v, .int .i64 l.at_, .int .u32 l.seq]) := f2.at (adds_at a1 y.log) (nB _ (by omega))
    have w1 : IntKind.i64.wrap (l.at_ + (x.length : Int)) = l.at_ + (x.length : Int) := wrap64 (by omega) (by omega)
    have w2 : IntKind.i64.wrap (l.at_ + (x.length : Int) + 1) = l.at_ + (x.length : Int) + 1 := wrap64 (by omega) (by omega)
    have rm := int_rem .none .i64 (l.at_ + (x.length : Int) + 1) c (by omega)
    have tr := tmod_rng (show 0 ≤ l.at_ + (x.length : Int) + 1 by omega) (show 1 ≤ c by omega)
    have wrA : writeN K2 (H.length + 2) 0 [v'] = some (K2.set (H.length + 2) (.rw [v', .int .i64 l.at_, .int .u32 l.seq])) := by
     rw [write_of b2, if_pos ⟨by simp, by simp [iv]⟩, splice_one]; rfl
    have lt2 := lt_of_at b2
    have wrB : writeN (K2.set (H.length + 2) (.rw [v', .int .i64 l.at_, .int .u32 l.seq])) (H.length + 2) 1 [.int .i64 ((l.at_ + (x.length : Int) + 1).tmod c)] = some (K2.set (H.length + 2) (.rw [v', .int .i64 ((l.at_ + (x.length : Int) + 1).tmod c), .int .u32 l.seq])) := by
     rw [write_of (at_set _ _ _ lt2), if_pos ⟨by simp, rfl⟩, splice_one, List.set_set]; rfl
    have wrC : writeN (K2.set (H.length + 2) (.rw [v', .int .i64 ((l.at_ + (x.length : Int) + 1).tmod c), .int .u32 l.seq])) (H.length + 2) 2 [.int .u32 (IntKind.u32.wrap (l.seq + 1))] = some (K2.set (H.length + 2) (.rw [v', .int .i64 ((l.at_ + (x.length : Int) + 1).tmod c), .int .u32 (IntKind.u32.wrap (l.seq + 1))])) := by
     rw [write_of (at_set _ _ _ lt2), if_pos ⟨by simp, rfl⟩, splice_one, List.set_set]; rfl
    have cA : cellsOf (K2.set (H.length + 2) (.rw [v', .int .i64 l.at_, .int .u32 l.seq])) (H.length + 2) = some [v', .int .i64 l.at_, .int .u32 l.seq] := cells_rw (at_set _ _ _ lt2)
    have cB : cellsOf (K2.set (H.length + 2) (.rw [v', .int .i64 ((l.at_ + (x.length : Int) + 1).tmod c), .int .u32 l.seq])) (H.length + 2) = some [v', .int .i64 ((l.at_ + (x.length : Int) + 1).tmod c), .int .u32 l.seq] := cells_rw (at_set _ _ _ lt2)
    have y2 : RpY H q.p f c (K2.set (H.length + 2) (.rw [v', .int .i64 ((l.at_ + (x.length : Int) + 1).tmod c), .int .u32 (IntKind.u32.wrap (l.seq + 1))])) v' ⟨l.t ++ [x], (l.at_ + (x.length : Int) + 1).tmod c, IntKind.u32.wrap (l.seq + 1)⟩ (vs ++ [w]) := by
     refine ⟨fun b hb => ?_, by rw [List.length_set]; have := y1.len; omega, ?_, ?_, at_set _ _ _ lt2, lg2.fr (Fr.set (F := (· = H.length + 2)) _ _ rfl) fun b hb => by omega⟩
     ·rw [at_set_ne _ _ _ _ (by omega), f2.2 b (by have := y1.len; omega) (nB _ (by omega))]; exact y1.old b hb
     ·rw [at_set_ne _ _ _ _ (by omega)]; exact f2.at y1.res (nB _ (by omega))
     ·rw [at_set_ne _ _ _ _ (by omega)]; exact f2.at y1.trk (nB _ (by omega))
    simp -implicitDefEqProofs (maxSteps := 5000000) only [go_sem, Nat.reduceShiftRight, Nat.reduceAnd, Nat.reduceBNe, Int.reduceEq, Nat.reduceAdd, Nat.reduceSub, Nat.reduceMul, Nat.reduceLeDiff, reduceIte, reduceCtorEq, Nat.reduceBEq, Nat.reduceEqDiff, wrap64, runC_loop, runC_range, callF_fn, callV_fn, callV_yld, yield_eq, yieldBody, yieldRaw, roundMid, roundEnd, rangeEnd, Bool.not_not, put_cons, put_nil, trim_same, at_zero, at_add, set_zero, set_add, store_one, write_zero, write_add, write_head, write_succ, splice_one, splice_more, List.drop_nil, List.take_nil, cell_int, cell_bool, fillS, splice_one, idxA, Ex.isNormal, List.set_nil, List.length_set, List.all_cons, List.all_nil, Bool.and_self, and_self, true_and, and_true, List.getElem?_nil, Int.reduceLT, Int.reduceLE, Int.reduceToNat, Int.toNat_zero, Int.toNat_one, Int.reduceAdd, Int.reduceSub, Int.reduceMul, Int.reduceNeg, Int.reduceBEq, Int.reduceBNe, Int.reduceGE, Int.reduceGT, Nat.reduceLT, trim_keep, under_fn, under_ptr, under_sl, Nat.lt_irrefl, not_lt_add, trim_tail, keepOk, ABlk.vals, Int.cast_ofNat_Int, decide_true, decide_false, List.all_cons, List.all_nil, Nat.zero_mul, Nat.mul_one, Nat.one_mul, cl, ct, cl1, ct1, gl, hd, ew, n0, wl, d1, wc.1, ea, wrA, wrB, wrC, cA, cB, w1, w2, rm, cv, store_one]
    exact ih v' _ (vs ++ [w]) _ _ _ _ _ _ _ _ _ _ _ _ _ _ _ _ _ _ _ _ _ _ _ _ _ _ _ _ _ _ _ _ _ _ _ _ _ _ _ _ _ _ _ _ y2 tr.1 tr.2 (by simp only [List.length_append, List.length_singleton]; omega)
  ·have n0 : (er != 0) = true := by simpa using he
   rw [if_neg he]
   have wr : writeN K1 H.length 0 [.nilSl, .int .i64 0, .int .u32 0] = some K1 := by
    rw [write_of (adds_at a1 y.res), if_pos ⟨by simp, rfl⟩]
    congr 1
    apply List.ext_getElem?
    intro i
    by_cases e : H.length = i
    ·subst e; rw [at_set _ _ _ (lt_of_at (adds_at a1 y.res))]; exact (adds_at a1 y.res).symm
    ·rw [List.getElem?_set_ne e]
   simp -implicitDefEqProofs (maxSteps := 5000000) only [go_sem, Nat.reduceShiftRight, Nat.reduceAnd, Nat.reduceBNe, Int.reduceEq, Nat.reduceAdd, Nat.reduceSub, Nat.reduceMul, Nat.reduceLeDiff, reduceIte, reduceCtorEq, Nat.reduceBEq, Nat.reduceEqDiff, wrap64, runC_loop, runC_range, callF_fn, callV_fn, callV_yld, yield_eq, yieldBody, yieldRaw, roundMid, roundEnd, rangeEnd, Bool.not_not, put_cons, put_nil, trim_same, at_zero, at_add, set_zero, set_add, store_one, write_zero, write_add, write_head, write_succ, splice_one, splice_more, List.drop_nil, List.take_nil, cell_int, cell_bool, fillS, splice_one, idxA, Ex.isNormal, List.set_nil, List.length_set, List.all_cons, List.all_nil, Bool.and_self, and_self, true_and, and_true, List.getElem?_nil, Int.reduceLT, Int.reduceLE, Int.reduceToNat, Int.toNat_zero, Int.toNat_one, Int.reduceAdd, Int.reduceSub, Int.reduceMul, Int.reduceNeg, Int.reduceBEq, Int.reduceBNe, Int.reduceGE, Int.reduceGT, Nat.reduceLT, trim_keep, under_fn, under_ptr, under_sl, Nat.lt_irrefl, not_lt_add, trim_tail, keepOk, ABlk.vals, Int.cast_ofNat_Int, decide_true, decide_false, List.all_cons, List.all_nil, Nat.zero_mul, Nat.mul_one, Nat.one_mul, cl, ct, gl, hd, ew, n0, wl, wr, seqR_ret, outs_normal]
   exact ⟨v, l, vs, y1, exF2 rfl (.inr ⟨er, rfl, rfl⟩)⟩
end
end Go.Proofs.Ytipedaadjfhdnaa.G06
end
section
namespace Go.Proofs.Ytipedaadjfhdnaa.G06
open Go Go.Proofs.Ytipedaadjfhdnaa.Eng
theorem log_trim {H K : AHeap} (a : Adds H K) {v : AV} {T : List (List ImS)} {vs : List AV} (l : LogH K H.length v T vs) (x y : AV) (hx : x.under H.length = true) (hy : y.under H.length = true) (e : Int) : ∃ K' , Adds H K' ∧ LogH K' H.length v T vs ∧ trim H (some (.tup [.agg [v, x, y], .int .i64 e], K)) = some (.tup [.agg [v, x, y], .int .i64 e], K') := by
 rcases l.g with ⟨h0, rfl⟩ | ⟨h0, b, hb, rfl, h⟩
 ·obtain ⟨G, rfl⟩ := a
  have hv : vs = [] := by
   cases vs with
   | nil => rfl
   | cons _ _ => simp [oneR] at h0
  have hT : T = [] := List.eq_nil_of_length_eq_zero (by rw [← l.len, hv]; rfl)
  subst hv; subst hT
  exact ⟨H, Adds.refl H, LogH.nil H _, trim_app (by simp [AV.under, underAll, hx, hy])⟩
 ·exact ⟨K, a, l, trim_keep (by simp [AV.under, underAll]; omega)⟩
section
variable {q : RPl} {H : AHeap} {n : Nat} {r : RgS} {F : Nat → Prop} (m : RigAt q H n r F)
include m
set_option maxHeartbeats 8000000 in
theorem replayC (f c a seq : Int) : ∃ v vs K, Adds H K ∧ LogH K H.length v (replayS r f c a seq).1.t vs ∧ (envL prog).call 8 [.ptr q.p 0, .int .i64 f, .int .i64 c, .int .i64 a, .int .u32 seq] H = some (.tup [.agg [v, .int .i64 (replayS r f c a seq).1.at_, .int .u32 (replayS r f c a seq).1.seq], .int .i64 (replayS r f c a seq).2], K) := by
 have gd := fun X => goodC (m.adds X) f c a
 have hl : r.a.length ≤ 4096 := m.rin.ok.2.2.1
 unfold replayS
 by_cases hg : goodS r f c a
 ·rw [if_pos hg]
  have dg := decide_eq_true hg
  obtain ⟨hf, hc, hc2, hfl, ha, ha2⟩ := hg
  have l0 := replayL m hf hc hc2 (by omega) (k := c.toNat) (v := .nilSl) (l := ⟨[], a, seq⟩) (vs := []) (K := H ++ [.rw [.nilSl, .int .i64 0, .int .u32 0], .rw [.ptr q.p 0, .int .i64 f, .int .i64 c], .rw [.nilSl, .int .i64 a, .int .u32 seq]])
  generalize replS r f c c.toNat ⟨[], a, seq⟩ = N at l0 ⊢
  have o : Outs (runC (envL prog) (b8 (envL prog)) ([.ptr q.p 0, .int .i64 f, .int .i64 c, .int .i64 a, .int .u32 seq] ++ List.replicate (69 - [AV.ptr q.p 0, .int .i64 f, .int .i64 c, .int .i64 a, .int .u32 seq].length) .undef) H) fun e' t K => Adds H K ∧ ∃ v vs, LogH K H.length v N.1.t vs ∧ fin [.cell 10 3 true, .tmp 11] (some (e', t, K)) = some (.tup [.agg [v, .int .i64 N.1.at_, .int .u32 N.1.seq], .int .i64 N.2], K) := by
   unfold b8
   generalize hQ : (fun (e' : Ex) (t : T) (K : AHeap) => Adds H K ∧ ∃ v vs, LogH K H.length v N.1.t vs ∧ fin [.cell 10 3 true, .tmp 11] (some (e', t, K)) = some (.tup [.agg [v, .int .i64 N.1.at_, .int .u32 N.1.seq], .int .i64 N.2], K)) = Q
   simp -implicitDefEqProofs (maxSteps := 5000000) only [go_sem, Nat.reduceShiftRight, Nat.reduceAnd, Nat.reduceBNe, Int.reduceEq, Nat.reduceAdd, Nat.reduceSub, Nat.reduceMul, Nat.reduceLeDiff, reduceIte, reduceCtorEq, Nat.reduceBEq, Nat.reduceEqDiff, wrap64, runC_loop, runC_range, callF_fn, callV_fn, callV_yld, yield_eq, yieldBody, yieldRaw, roundMid, roundEnd, rangeEnd, Bool.not_not, put_cons, put_nil, trim_same, at_zero, at_add, set_zero, set_add, store_one, write_zero, write_add, write_head, write_succ, splice_one, splice_more, List.drop_nil, List.take_nil, cell_int, cell_bool, fillS, splice_one, idxA, Ex.isNormal, List.set_nil, List.length_set, List.all_cons, List.all_nil, Bool.and_self, and_self, true_and, and_true, List.getElem?_nil, Int.reduceLT, Int.reduceLE, Int.reduceToNat, Int.toNat_zero, Int.toNat_one, Int.reduceAdd, Int.reduceSub, Int.reduceMul, Int.reduceNeg, Int.reduceBEq, Int.reduceBNe, Int.reduceGE, Int.reduceGT, Nat.reduceLT, trim_keep, under_fn, under_ptr, under_sl, Nat.lt_irrefl, not_lt_add, trim_tail, keepOk, ABlk.vals, Int.cast_ofNat_Int, decide_true, decide_false, List.all_cons, List.all_nil, Nat.zero_mul, Nat.mul_one, Nat.one_mul, runC_loop, gd, dg]
   unfold LP1 at l0
   generalize (envL prog).loop (runC (envL prog) (l8x0 (envL prog))) = L0 at l0 ⊢
   refine outs_ctx (fun r => seqR (blockR 0 r) _) (l0 _ _ _ _ _ _ _ _ _ _ _ _ _ _ _ _ _ _ _ _ _ _ _ _ _ _ _ _ _ _ _ _ _ _ _ _ _ _ _ _ _ _ _ _ _ _ _ _ _ _ _ _ _ _ _ _ _ _ _ _ _ _ _ _ _ ?_ ha ha2 (by simp)) ?_
   ·exact ⟨fun b hb => List.getElem?_append_left hb, by simp, by simp, by simp, by simp, LogH.nil _ _⟩
   rintro e t K' ⟨v', l', vs', y, fv, rfl, ⟨rfl, hN⟩ | ⟨rfl, er, h11, hN⟩⟩
   ·have cl := cells_rw y.log
    have lt := lt_of_at y.res
    have aH : Adds H K' := Fr.old (h0 := H) (H := H) (F := fun _ => False) ⟨by have := y.len; omega, fun b hb _ => y.old b hb⟩ (Adds.refl H) fun _ _ h => h
    have gv := y.lg.g.cells
    have wr : writeN K' H.length 0 [v', .int .i64 l'.at_, .int .u32 l'.seq] = some (K'.set H.length (.rw [v', .int .i64 l'.at_, .int .u32 l'.seq])) := by
     rw [write_of y.res, if_pos ⟨by simp, by rw [List.all_cons, gv.2]; rfl⟩, splice_long _ _ _ (by simp)]; rfl
    have cr : cellsOf (K'.set H.length (.rw [v', .int .i64 l'.at_, .int .u32 l'.seq])) H.length = some [v', .int .i64 l'.at_, .int .u32 l'.seq] := cells_rw (at_set _ _ _ lt)
    have ll := y.lg.fr (Fr.set (F := (· = H.length)) K' (.rw [v', .int .i64 l'.at_, .int .u32 l'.seq]) rfl) fun b hb => by omega
    simp -implicitDefEqProofs (maxSteps := 5000000) only [go_sem, Nat.reduceShiftRight, Nat.reduceAnd, Nat.reduceBNe, Int.reduceEq, Nat.reduceAdd, Nat.reduceSub, Nat.reduceMul, Nat.reduceLeDiff, reduceIte, reduceCtorEq, Nat.reduceBEq, Nat.reduceEqDiff, wrap64, runC_loop, runC_range, callF_fn, callV_fn, callV_yld, yield_eq, yieldBody, yieldRaw, roundMid, roundEnd, rangeEnd, Bool.not_not, put_cons, put_nil, trim_same, at_zero, at_add, set_zero, set_add, store_one, write_zero, write_add, write_head, write_succ, splice_one, splice_more, List.drop_nil, List.take_nil, cell_int, cell_bool, fillS, splice_one, idxA, Ex.isNormal, List.set_nil, List.length_set, List.all_cons, List.all_nil, Bool.and_self, and_self, true_and, and_true, List.getElem?_nil, Int.reduceLT, Int.reduceLE, Int.reduceToNat, Int.toNat_zero, Int.toNat_one, Int.reduceAdd, Int.reduceSub, Int.reduceMul, Int.reduceNeg, Int.reduceBEq, Int.reduceBNe, Int.reduceGE, Int.reduceGT, Nat.reduceLT, trim_keep, under_fn, under_ptr, under_sl, Nat.lt_irrefl, not_lt_add, trim_tail, keepOk, ABlk.vals, Int.cast_ofNat_Int, decide_true, decide_false, List.all_cons, List.all_nil, Nat.zero_mul, Nat.mul_one, Nat.one_mul, cl, wr, outs_normal]
    subst hQ
    subst hN
    refine ⟨adds_set aH _ (Nat.le_refl _), v', vs', ll.low (by omega), ?_⟩
    simp -implicitDefEqProofs (maxSteps := 5000000) only [go_sem, Nat.reduceShiftRight, Nat.reduceAnd, Nat.reduceBNe, Int.reduceEq, Nat.reduceAdd, Nat.reduceSub, Nat.reduceMul, Nat.reduceLeDiff, reduceIte, reduceCtorEq, Nat.reduceBEq, Nat.reduceEqDiff, cr]
   ·have cr := cells_rw y.res
    have aH : Adds H K' := Fr.old (h0 := H) (H := H) (F := fun _ => False) ⟨by have := y.len; omega, fun b hb _ => y.old b hb⟩ (Adds.refl H) fun _ _ h => h
    simp -implicitDefEqProofs (maxSteps := 5000000) only [go_sem, Nat.reduceShiftRight, Nat.reduceAnd, Nat.reduceBNe, Int.reduceEq, Nat.reduceAdd, Nat.reduceSub, Nat.reduceMul, Nat.reduceLeDiff, reduceIte, reduceCtorEq, Nat.reduceBEq, Nat.reduceEqDiff, outs_normal]
    subst hQ
    subst hN
    refine ⟨aH, .nilSl, [], LogH.nil _ _, ?_⟩
    simp -implicitDefEqProofs (maxSteps := 5000000) only [go_sem, Nat.reduceShiftRight, Nat.reduceAnd, Nat.reduceBNe, Int.reduceEq, Nat.reduceAdd, Nat.reduceSub, Nat.reduceMul, Nat.reduceLeDiff, reduceIte, reduceCtorEq, Nat.reduceBEq, Nat.reduceEqDiff, cr, h11]
  obtain ⟨e', t, K, hr, aK, v, vs, g, hf⟩ := o
  obtain ⟨K', aK', g', et⟩ := log_trim aK g (.int .i64 N.1.at_) (.int .u32 N.1.seq) rfl rfl N.2
  exact ⟨v, vs, K', aK', g', by rw [c8, hr, hf, et]⟩
 ·rw [if_neg hg]
  have dg := decide_eq_false hg
  refine ⟨.nilSl, [], H, Adds.refl H, LogH.nil _ _, ?_⟩
  rw [c8]
  unfold b8
  simp -implicitDefEqProofs (maxSteps := 5000000) only [go_sem, Nat.reduceShiftRight, Nat.reduceAnd, Nat.reduceBNe, Int.reduceEq, Nat.reduceAdd, Nat.reduceSub, Nat.reduceMul, Nat.reduceLeDiff, reduceIte, reduceCtorEq, Nat.reduceBEq, Nat.reduceEqDiff, wrap64, runC_loop, runC_range, callF_fn, callV_fn, callV_yld, yield_eq, yieldBody, yieldRaw, roundMid, roundEnd, rangeEnd, Bool.not_not, put_cons, put_nil, trim_same, at_zero, at_add, set_zero, set_add, store_one, write_zero, write_add, write_head, write_succ, splice_one, splice_more, List.drop_nil, List.take_nil, cell_int, cell_bool, fillS, splice_one, idxA, Ex.isNormal, List.set_nil, List.length_set, List.all_cons, List.all_nil, Bool.and_self, and_self, true_and, and_true, List.getElem?_nil, Int.reduceLT, Int.reduceLE, Int.reduceToNat, Int.toNat_zero, Int.toNat_one, Int.reduceAdd, Int.reduceSub, Int.reduceMul, Int.reduceNeg, Int.reduceBEq, Int.reduceBNe, Int.reduceGE, Int.reduceGT, Nat.reduceLT, trim_keep, under_fn, under_ptr, under_sl, Nat.lt_irrefl, not_lt_add, trim_tail, keepOk, ABlk.vals, Int.cast_ofNat_Int, decide_true, decide_false, List.all_cons, List.all_nil, Nat.zero_mul, Nat.mul_one, Nat.one_mul, gd, dg]
  done
end
end Go.Proofs.Ytipedaadjfhdnaa.G06
end
section
namespace Go.Proofs.Ytipedaadjfhdnaa.G06
open Go Go.Proofs.Ytipedaadjfhdnaa.Eng
section
variable {H : AHeap} {B : Nat} {w : AV} {l : List ImS} (g : GR 49 H B w (imRows l)) (h48 : ∀ x ∈ l, x.b.length = 48) (hl : l.length ≤ 1000)
include g h48 hl
set_option maxHeartbeats 8000000 in
theorem appL0 (x0 x1 x2 x3 x4 x5 x6 x7 x8 x9 x10 x11 x14 x15 x17 x18 x19 x20 x21 x22 x23 x24 x25 x26 x27 x28 x29 x30 x31 x32 x33 x34 x35 x36 x37 x38 x39 x40 x41 x42 x58 x59 x60 x61 x62 x63 x64 x65 x66 x67 x68 x69 x70 x71 x72 x73 x74 x75 x76 x77 x78 x79 x80 x81 x82 x83 x84 x85 x86 x87 x88 x89 x90 x91 x92 x93 x94 x95 x96 x97 x98 x99 x100 x101 x102 x103 x104 x105 x106 x107 x108 x109 : AV) : ∀ (k i : Nat) (K : AHeap) (j12 j13 j16 j46 j47 j48 j49 j50 j51 j52 j53 j54 j55 j56 j57 : AV), Adds H K → i + k = l.length →
  Outs (LP1 l9x0 [x0, x1, x2, x3, x4, x5, x6, x7, x8, x9, x10, x11, j12, j13, x14, x15, j16, x17, x18, x19, x20, x21, x22, x23, x24, x25, x26, x27, x28, x29, x30, x31, x32, x33, x34, x35, x36, x37, x38, x39, x40, x41, x42, w, .int .i64 (l.length : Int), .int .i64 (i : Int), j46, j47, j48, j49, j50, j51, j52, j53, j54, j55, j56, j57, x58, x59, x60, x61, x62, x63, x64, x65, x66, x67, x68, x69, x70, x71, x72, x73, x74, x75, x76, x77, x78, x79, x80, x81, x82, x83, x84, x85, x86, x87, x88, x89, x90, x91, x92, x93, x94, x95, x96, x97, x98, x99, x100, x101, x102, x103, x104, x105, x106, x107, x108, x109] K) fun e t K' => Adds K K' ∧ ∃ fv : Nat → AV, t = [x0, x1, x2, x3, x4, x5, x6, x7, x8, x9, x10, x11, (fv 12), (fv 13), x14, x15, (fv 16), x17, x18, x19, x20, x21, x22, x23, x24, x25, x26, x27, x28, x29, x30, x31, x32, x33, x34, x35, x36, x37, x38, x39, x40, x41, x42, w, .int .i64 (l.length : Int), (fv 45), (fv 46), (fv 47), (fv 48), (fv 49), (fv 50), (fv 51), (fv 52), (fv 53), (fv 54), (fv 55), (fv 56), (fv 57), x58, x59, x60, x61, x62, x63, x64, x65, x66, x67, x68, x69, x70, x71, x72, x73, x74, x75, x76, x77, x78, x79, x80, x81, x82, x83, x84, x85, x86, x87, x88, x89, x90, x91, x92, x93, x94, x95, x96, x97, x98, x99, x100, x101, x102, x103, x104, x105, x106, x107, x108, x109] ∧
   ((e = .exit 1 ∧ (l.drop i).all okIm = true) ∨ (e = .ret ∧ fv 12 = .int .i64 0 ∧ fv 13 = .int .i64 1 ∧ (l.drop i).all okIm = false)) := by
 intro k
 obtain ⟨L, hL⟩ : ∃ L, L = LP1 l9x0 := ⟨_, rfl⟩
 have lo := loop_open hL
 rw [← hL]
 induction k with
 | zero =>
  intro i K j12 j13 j16 j46 j47 j48 j49 j50 j51 j52 j53 j54 j55 j56 j57 aK hi
  obtain rfl : i = l.length := by omega
  have hd : decide ((l.length : Int) < (l.length : Int)) = false := by simp
  rw [lo]
  unfold l9x0
  simp -implicitDefEqProofs (maxSteps := 5000000) only [go_sem, Nat.reduceShiftRight, Nat.reduceAnd, Nat.reduceBNe, Int.reduceEq, Nat.reduceAdd, Nat.reduceSub, Nat.reduceMul, Nat.reduceLeDiff, reduceIte, reduceCtorEq, Nat.reduceBEq, Nat.reduceEqDiff, hd, seqR_exit', outs_normal]
  exact ⟨Adds.refl K, exF2 rfl (.inl (by simp))⟩
 | succ k ih =>
  intro i K j12 j13 j16 j46 j47 j48 j49 j50 j51 j52 j53 j54 j55 j56 j57 aK hi
  have hlt : i < l.length := by omega
  have hd : decide ((i : Int) < (l.length : Int)) = true := decide_eq_true (by omega)
  have e2 : IntKind.i64.wrap ((i : Int) + 1) = ((i + 1 : Nat) : Int) := by rw [wrap64 (by omega) (by omega)]; omega
  have hx := List.getElem?_eq_getElem hlt
  have dr := List.drop_eq_getElem_cons hlt
  have xl := h48 _ (List.getElem_mem hlt)
  generalize l[i] = x at *
  have hr := get_map ImS.cells hx
  obtain ⟨b, cs, _, ix, hc, ht, hle⟩ := GR.read (by omega) g (fun r hr => by
   obtain ⟨y, hy, rfl⟩ := List.mem_map.1 hr
   simp [ImS.cells, u8s_len, h48 y hy]) hr
  have cK := aK.cells hc
  obtain ⟨xi, xb⟩ := x
  unfold ImS.cells at ht
  simp only at ht xl
  have zl : zbody.length = 48 := zbody_b.1
  have sp : splice (.int .i64 0 :: u8s zbody) 0 (.int .i64 xi :: u8s xb) = .int .i64 xi :: u8s xb := by
   rw [splice_long _ _ _ (by simp [u8s_len, xl]), List.drop_of_length_le (by simp [u8s_len, xl, zl]), List.append_nil]; rfl
  rw [lo, dr]
  unfold l9x0
  rw [List.all_cons]
  by_cases h0 : xi < 0
  ·have d0 := decide_eq_true h0
   have ok : okIm ⟨xi, xb⟩ = false := by unfold okIm; rw [decide_eq_false (show ¬ (0 ≤ xi) by omega)]; rfl
   rw [ok, Bool.false_and]
   simp -implicitDefEqProofs (maxSteps := 5000000) only [go_sem, Nat.reduceShiftRight, Nat.reduceAnd, Nat.reduceBNe, Int.reduceEq, Nat.reduceAdd, Nat.reduceSub, Nat.reduceMul, Nat.reduceLeDiff, reduceIte, reduceCtorEq, Nat.reduceBEq, Nat.reduceEqDiff, wrap64, runC_loop, runC_range, callF_fn, callV_fn, callV_yld, yield_eq, yieldBody, yieldRaw, roundMid, roundEnd, rangeEnd, Bool.not_not, put_cons, put_nil, trim_same, at_zero, at_add, set_zero, set_add, store_one, write_zero, write_add, write_head, write_succ, splice_one, splice_more, List.drop_nil, List.take_nil, cell_int, cell_bool, fillS, splice_one, idxA, Ex.isNormal, List.set_nil, List.length_set, List.all_cons, List.all_nil, Bool.and_self, and_self, true_and, and_true, List.getElem?_nil, Int.reduceLT, Int.reduceLE, Int.reduceToNat, Int.toNat_zero, Int.toNat_one, Int.reduceAdd, Int.reduceSub, Int.reduceMul, Int.reduceNeg, Int.reduceBEq, Int.reduceBNe, Int.reduceGE, Int.reduceGT, Nat.reduceLT, trim_keep, under_fn, under_ptr, under_sl, Nat.lt_irrefl, not_lt_add, trim_tail, keepOk, ABlk.vals, Int.cast_ofNat_Int, decide_true, decide_false, List.all_cons, List.all_nil, Nat.zero_mul, Nat.mul_one, Nat.one_mul, hd, ix, cK, ht, hle, rep_z48, u8s_len, xl, zl, u8s_cell, sp, d0, seqR_ret, outs_normal]
   exact ⟨⟨_, rfl⟩, exF2 rfl (.inr ⟨rfl, rfl⟩)⟩
  ·have d0 := decide_eq_false h0
   by_cases h1 : xi > 65535
   ·have d1 := decide_eq_true h1
    have ok : okIm ⟨xi, xb⟩ = false := by unfold okIm; rw [decide_eq_false (show ¬ (xi ≤ 65535) by omega), Bool.and_false]
    rw [ok, Bool.false_and]
    simp -implicitDefEqProofs (maxSteps := 5000000) only [go_sem, Nat.reduceShiftRight, Nat.reduceAnd, Nat.reduceBNe, Int.reduceEq, Nat.reduceAdd, Nat.reduceSub, Nat.reduceMul, Nat.reduceLeDiff, reduceIte, reduceCtorEq, Nat.reduceBEq, Nat.reduceEqDiff, wrap64, runC_loop, runC_range, callF_fn, callV_fn, callV_yld, yield_eq, yieldBody, yieldRaw, roundMid, roundEnd, rangeEnd, Bool.not_not, put_cons, put_nil, trim_same, at_zero, at_add, set_zero, set_add, store_one, write_zero, write_add, write_head, write_succ, splice_one, splice_more, List.drop_nil, List.take_nil, cell_int, cell_bool, fillS, splice_one, idxA, Ex.isNormal, List.set_nil, List.length_set, List.all_cons, List.all_nil, Bool.and_self, and_self, true_and, and_true, List.getElem?_nil, Int.reduceLT, Int.reduceLE, Int.reduceToNat, Int.toNat_zero, Int.toNat_one, Int.reduceAdd, Int.reduceSub, Int.reduceMul, Int.reduceNeg, Int.reduceBEq, Int.reduceBNe, Int.reduceGE, Int.reduceGT, Nat.reduceLT, trim_keep, under_fn, under_ptr, under_sl, Nat.lt_irrefl, not_lt_add, trim_tail, keepOk, ABlk.vals, Int.cast_ofNat_Int, decide_true, decide_false, List.all_cons, List.all_nil, Nat.zero_mul, Nat.mul_one, Nat.one_mul, hd, ix, cK, ht, hle, rep_z48, u8s_len, xl, zl, u8s_cell, sp, d0, d1, seqR_ret, outs_normal]
    exact ⟨⟨_, rfl⟩, exF2 rfl (.inr ⟨rfl, rfl⟩)⟩
   ·have d1 := decide_eq_false h1
    have ok : okIm ⟨xi, xb⟩ = true := by unfold okIm; rw [decide_eq_true (show 0 ≤ xi by omega), decide_eq_true (show xi ≤ 65535 by omega)]; rfl
    rw [ok, Bool.true_and]
    simp -implicitDefEqProofs (maxSteps := 5000000) only [go_sem, Nat.reduceShiftRight, Nat.reduceAnd, Nat.reduceBNe, Int.reduceEq, Nat.reduceAdd, Nat.reduceSub, Nat.reduceMul, Nat.reduceLeDiff, reduceIte, reduceCtorEq, Nat.reduceBEq, Nat.reduceEqDiff, wrap64, runC_loop, runC_range, callF_fn, callV_fn, callV_yld, yield_eq, yieldBody, yieldRaw, roundMid, roundEnd, rangeEnd, Bool.not_not, put_cons, put_nil, trim_same, at_zero, at_add, set_zero, set_add, store_one, write_zero, write_add, write_head, write_succ, splice_one, splice_more, List.drop_nil, List.take_nil, cell_int, cell_bool, fillS, splice_one, idxA, Ex.isNormal, List.set_nil, List.length_set, List.all_cons, List.all_nil, Bool.and_self, and_self, true_and, and_true, List.getElem?_nil, Int.reduceLT, Int.reduceLE, Int.reduceToNat, Int.toNat_zero, Int.toNat_one, Int.reduceAdd, Int.reduceSub, Int.reduceMul, Int.reduceNeg, Int.reduceBEq, Int.reduceBNe, Int.reduceGE, Int.reduceGT, Nat.reduceLT, trim_keep, under_fn, under_ptr, under_sl, Nat.lt_irrefl, not_lt_add, trim_tail, keepOk, ABlk.vals, Int.cast_ofNat_Int, decide_true, decide_false, List.all_cons, List.all_nil, Nat.zero_mul, Nat.mul_one, Nat.one_mul, hd, ix, cK, ht, hle, rep_z48, u8s_len, xl, zl, u8s_cell, sp, d0, d1, e2]
    have key := ih (i + 1) (K ++ [.rw (.int .i64 xi :: u8s xb)])
    refine Outs.mono (key _ _ _ _ _ _ _ _ _ _ _ _ _ _ _ (aK.trans ⟨_, rfl⟩) (by omega)) ?_
    rintro e t K' ⟨a1, a2⟩
    exact ⟨Adds.trans ⟨_, rfl⟩ a1, a2⟩
end
end Go.Proofs.Ytipedaadjfhdnaa.G06
end
section
namespace Go.Proofs.Ytipedaadjfhdnaa.G06
open Go Go.Proofs.Ytipedaadjfhdnaa.Eng
section
variable {q : RPl} {H : AHeap} {n : Nat} {r : RgS} {F : Nat → Prop} (m : RigAt q H n r F) {f c a seq : Int} (hf : 0 ≤ f) (hc : 2 ≤ c) (hc2 : c ≤ 256) (hs : f + c ≤ 1000000000) (ha : 0 ≤ a) (ha2 : a < c) (hq : 0 ≤ seq ∧ seq < 4294967296)
 {B : Nat} {w : AV} {l : List ImS} (g : GR 49 H B w (imRows l)) (gF : ∀ b, slb w = some b → ¬ F b) (h48 : ∀ x ∈ l, B48 x.b) (hl : l.length ≤ 1000) (ho : l.all okIm = true) (hn : n + l.length + 1 ≤ 1000000000)
include m hf hc hc2 hs ha ha2 hq g gF h48 hl ho hn
set_option maxHeartbeats 8000000 in
theorem appL1 (x0 x1 x2 x5 x6 x7 x8 x9 x10 x11 x15 x16 x20 x21 x22 x23 x24 x25 x26 x27 x28 x29 x30 x31 x32 x33 x34 x35 x36 x37 x38 x39 x40 x41 x42 x43 x44 x45 x46 x47 x48 x49 x50 x51 x52 x53 x54 x55 x56 x57 x80 x81 x82 x83 x84 x85 x86 x87 x88 x89 x90 x91 x92 x93 x94 x95 x96 x97 x98 x99 x100 x101 x102 x103 x104 x105 x106 x107 x108 x109 : AV) : ∀ (k i : Nat) (K : AHeap) (r' : RgS) (F' : Nat → Prop) (j12 j13 j17 j18 j19 j61 j62 j63 j64 j65 j66 j67 j68 j69 j70 j71 j72 j73 j74 j75 j76 j77 j78 j79 : AV), RigAt q K (n + i) r' F' → RStep (H ++ [.rw [.ptr q.p 0, .int .i64 f, .int .i64 c]]) F K F' → i + k = l.length →
  Outs (LP1 l9x1 [x0, x1, x2, .int .i64 a, .int .u32 seq, x5, x6, x7, x8, x9, x10, x11, j12, j13, .ptr H.length 0, x15, x16, j17, j18, j19, x20, x21, x22, x23, x24, x25, x26, x27, x28, x29, x30, x31, x32, x33, x34, x35, x36, x37, x38, x39, x40, x41, x42, x43, x44, x45, x46, x47, x48, x49, x50, x51, x52, x53, x54, x55, x56, x57, w, .int .i64 (l.length : Int), .int .i64 (i : Int), j61, j62, j63, j64, j65, j66, j67, j68, j69, j70, j71, j72, j73, j74, j75, j76, j77, j78, j79, x80, x81, x82, x83, x84, x85, x86, x87, x88, x89, x90, x91, x92, x93, x94, x95, x96, x97, x98, x99, x100, x101, x102, x103, x104, x105, x106, x107, x108, x109] K) fun e t K' => ∃ n' F'', RigAt q K' n' (putImS f c a seq r' i (l.drop i)).1 F'' ∧ n' ≤ n + l.length ∧ RStep (H ++ [.rw [.ptr q.p 0, .int .i64 f, .int .i64 c]]) F K' F'' ∧ ∃ fv : Nat → AV, t = [x0, x1, x2, .int .i64 a, .int .u32 seq, x5, x6, x7, x8, x9, x10, x11, (fv 12), (fv 13), .ptr H.length 0, x15, x16, (fv 17), (fv 18), (fv 19), x20, x21, x22, x23, x24, x25, x26, x27, x28, x29, x30, x31, x32, x33, x34, x35, x36, x37, x38, x39, x40, x41, x42, x43, x44, x45, x46, x47, x48, x49, x50, x51, x52, x53, x54, x55, x56, x57, w, .int .i64 (l.length : Int), (fv 60), (fv 61), (fv 62), (fv 63), (fv 64), (fv 65), (fv 66), (fv 67), (fv 68), (fv 69), (fv 70), (fv 71), (fv 72), (fv 73), (fv 74), (fv 75), (fv 76), (fv 77), (fv 78), (fv 79), x80, x81, x82, x83, x84, x85, x86, x87, x88, x89, x90, x91, x92, x93, x94, x95, x96, x97, x98, x99, x100, x101, x102, x103, x104, x105, x106, x107, x108, x109] ∧
   ((e = .exit 3 ∧ (putImS f c a seq r' i (l.drop i)).2 = 0) ∨ (e = .ret ∧ fv 12 = .int .i64 0 ∧ fv 13 = .int .i64 (putImS f c a seq r' i (l.drop i)).2 ∧ (putImS f c a seq r' i (l.drop i)).2 ≠ 0)) := by
 intro k
 obtain ⟨L, hL⟩ : ∃ L, L = LP1 l9x1 := ⟨_, rfl⟩
 have lo := loop_open hL
 rw [← hL]
 induction k with
 | zero =>
  intro i K r' F' j12 j13 j17 j18 j19 j61 j62 j63 j64 j65 j66 j67 j68 j69 j70 j71 j72 j73 j74 j75 j76 j77 j78 j79 mK st hi
  obtain rfl : i = l.length := by omega
  have hd : decide ((l.length : Int) < (l.length : Int)) = false := by simp
  rw [lo, List.drop_length]
  unfold l9x1 putImS
  simp -implicitDefEqProofs (maxSteps := 5000000) only [go_sem, Nat.reduceShiftRight, Nat.reduceAnd, Nat.reduceBNe, Int.reduceEq, Nat.reduceAdd, Nat.reduceSub, Nat.reduceMul, Nat.reduceLeDiff, reduceIte, reduceCtorEq, Nat.reduceBEq, Nat.reduceEqDiff, hd, seqR_exit', outs_normal]
  exact ⟨_, F', mK, Nat.le_refl _, st, exF2 rfl (.inl trivial)⟩
 | succ k ih =>
  intro i K r' F' j12 j13 j17 j18 j19 j61 j62 j63 j64 j65 j66 j67 j68 j69 j70 j71 j72 j73 j74 j75 j76 j77 j78 j79 mK st hi
  have hlt : i < l.length := by omega
  have hd : decide ((i : Int) < (l.length : Int)) = true := decide_eq_true (by omega)
  have e2 : IntKind.i64.wrap ((i : Int) + 1) = ((i + 1 : Nat) : Int) := by rw [wrap64 (by omega) (by omega)]; omega
  have wa : IntKind.i64.wrap (a + (i : Int)) = a + (i : Int) := wrap64 (by omega) (by omega)
  have hx := List.getElem?_eq_getElem hlt
  have dr := List.drop_eq_getElem_cons hlt
  have xb := h48 _ (List.getElem_mem hlt)
  have xo := List.all_eq_true.1 ho _ (List.getElem_mem hlt)
  generalize l[i] = x at *
  have hr := get_map ImS.cells hx
  obtain ⟨b, cs, sb, ix, hcs, ht, hle⟩ := GR.read (by omega) g (fun r hr => by
   obtain ⟨y, hy, rfl⟩ := List.mem_map.1 hr
   simp [ImS.cells, u8s_len, (h48 y hy).1]) hr
  have cK := st.1.cells (cells_old (x := [.rw [.ptr q.p 0, .int .i64 f, .int .i64 c]]) hcs) (gF b sb)
  have tK := fun X : AHeap => cells_old (x := X) (st.1.cells (b := H.length) (cs := [.ptr q.p 0, .int .i64 f, .int .i64 c]) (by unfold cellsOf; simp) fun h => by have := m.lt _ h; omega)
  obtain ⟨xi, xz⟩ := x
  unfold ImS.cells at ht
  simp only at ht xb
  have xl := xb.1
  have oki : 0 ≤ xi ∧ xi ≤ 65535 := by unfold okIm at xo; simpa using xo
  have pok : (⟨73, seq, xi, xz⟩ : PgS).Ok := ⟨by show (0 : Int) ≤ 73 ∧ (73 : Int) ≤ 255; omega, hq, by show _ ≤ xi ∧ xi ≤ _; omega, xb⟩
  have pen : encOk 73 xi = true := by unfold encOk; rw [decide_eq_true oki.1, decide_eq_true oki.2]; rfl
  obtain ⟨K2, F2, m2, st2, ew⟩ := rwriteC (mK.adds [.rw (.int .i64 xi :: u8s xz)]) hf hc hs (show 0 ≤ a + (i : Int) by omega) pok pen (by omega)
  unfold PgS.cells at ew
  simp only at ew
  have zl : zbody.length = 48 := zbody_b.1
  have zd : (u8s zbody).drop 48 = [] := List.drop_of_length_le (by rw [u8s_len, zl]; omega)
  have sp : splice (.int .i64 0 :: u8s zbody) 0 (.int .i64 xi :: u8s xz) = .int .i64 xi :: u8s xz := by
   rw [splice_long _ _ _ (by simp [u8s_len, xl]), List.drop_of_length_le (by simp [u8s_len, xl, zl]), List.append_nil]; rfl
  have sp2 : ∀ y0 y1 y2 : AV, splice (y0 :: y1 :: y2 :: u8s zbody) 3 (u8s xz) = y0 :: y1 :: y2 :: u8s xz := fun y0 y1 y2 => by
   rw [splice_long _ _ _ (by rw [u8s_len]; omega), u8s_len, xl]
   show y0 :: y1 :: y2 :: (u8s xz ++ (u8s zbody).drop 48) = _
   rw [zd, List.append_nil]
  have t48 := u8s_take xl
  have st3 : RStep (H ++ [.rw [.ptr q.p 0, .int .i64 f, .int .i64 c]]) F K2 F2 := (st.trans ⟨Fr.adds ⟨_, rfl⟩ _, fun b h => .inl h⟩).trans st2
  rw [lo, dr]
  unfold l9x1 putImS
  generalize hW : writeP r' f c (a + (i : Int)) ⟨73, seq, xi, xz⟩ = W at *
  obtain ⟨r2, er⟩ := W
  simp only at *
  by_cases he : er = 0
  ·have n0 : (er != 0) = false := by rw [he]; rfl
   rw [if_pos he]
   have key := ih (i + 1) K2 r2 F2
   generalize putImS f c a seq r2 (i + 1) (l.drop (i + 1)) = N at key ⊢
   simp -implicitDefEqProofs (maxSteps := 5000000) only [go_sem, Nat.reduceShiftRight, Nat.reduceAnd, Nat.reduceBNe, Int.reduceEq, Nat.reduceAdd, Nat.reduceSub, Nat.reduceMul, Nat.reduceLeDiff, reduceIte, reduceCtorEq, Nat.reduceBEq, Nat.reduceEqDiff, wrap64, runC_loop, runC_range, callF_fn, callV_fn, callV_yld, yield_eq, yieldBody, yieldRaw, roundMid, roundEnd, rangeEnd, Bool.not_not, put_cons, put_nil, trim_same, at_zero, at_add, set_zero, set_add, store_one, write_zero, write_add, write_head, write_succ, splice_one, splice_more, List.drop_nil, List.take_nil, cell_int, cell_bool, fillS, splice_one, idxA, Ex.isNormal, List.set_nil, List.length_set, List.all_cons, List.all_nil, Bool.and_self, and_self, true_and, and_true, List.getElem?_nil, Int.reduceLT, Int.reduceLE, Int.reduceToNat, Int.toNat_zero, Int.toNat_one, Int.reduceAdd, Int.reduceSub, Int.reduceMul, Int.reduceNeg, Int.reduceBEq, Int.reduceBNe, Int.reduceGE, Int.reduceGT, Nat.reduceLT, trim_keep, under_fn, under_ptr, under_sl, Nat.lt_irrefl, not_lt_add, trim_tail, keepOk, ABlk.vals, Int.cast_ofNat_Int, decide_true, decide_false, List.all_cons, List.all_nil, Nat.zero_mul, Nat.mul_one, Nat.one_mul, hd, ix, cK, tK, ht, hle, rep_z48, u8s_len, xl, zl, u8s_cell, sp, sp2, t48, wa, ew, n0, e2]
   exact key _ _ _ _ _ _ _ _ _ _ _ _ _ _ _ _ _ _ _ _ _ _ _ _ m2 st3 (by omega)
  ·have n0 : (er != 0) = true := by simpa using he
   rw [if_neg he]
   simp -implicitDefEqProofs (maxSteps := 5000000) only [go_sem, Nat.reduceShiftRight, Nat.reduceAnd, Nat.reduceBNe, Int.reduceEq, Nat.reduceAdd, Nat.reduceSub, Nat.reduceMul, Nat.reduceLeDiff, reduceIte, reduceCtorEq, Nat.reduceBEq, Nat.reduceEqDiff, wrap64, runC_loop, runC_range, callF_fn, callV_fn, callV_yld, yield_eq, yieldBody, yieldRaw, roundMid, roundEnd, rangeEnd, Bool.not_not, put_cons, put_nil, trim_same, at_zero, at_add, set_zero, set_add, store_one, write_zero, write_add, write_head, write_succ, splice_one, splice_more, List.drop_nil, List.take_nil, cell_int, cell_bool, fillS, splice_one, idxA, Ex.isNormal, List.set_nil, List.length_set, List.all_cons, List.all_nil, Bool.and_self, and_self, true_and, and_true, List.getElem?_nil, Int.reduceLT, Int.reduceLE, Int.reduceToNat, Int.toNat_zero, Int.toNat_one, Int.reduceAdd, Int.reduceSub, Int.reduceMul, Int.reduceNeg, Int.reduceBEq, Int.reduceBNe, Int.reduceGE, Int.reduceGT, Nat.reduceLT, trim_keep, under_fn, under_ptr, under_sl, Nat.lt_irrefl, not_lt_add, trim_tail, keepOk, ABlk.vals, Int.cast_ofNat_Int, decide_true, decide_false, List.all_cons, List.all_nil, Nat.zero_mul, Nat.mul_one, Nat.one_mul, hd, ix, cK, tK, ht, hle, rep_z48, u8s_len, xl, zl, u8s_cell, sp, sp2, t48, wa, ew, n0, seqR_ret, outs_normal]
   exact ⟨_, F2, m2, by omega, st3, exF2 rfl (.inr ⟨rfl, rfl, he⟩)⟩
end
end Go.Proofs.Ytipedaadjfhdnaa.G06
end
section
namespace Go.Proofs.Ytipedaadjfhdnaa.G06
open Go Go.Proofs.Ytipedaadjfhdnaa.Eng
section
variable {q : RPl} {H : AHeap} {n : Nat} {r : RgS} {F : Nat → Prop} (m : RigAt q H n r F) {f c a seq : Int} (hq : 0 ≤ seq ∧ seq < 4294967296)
 {B : Nat} {w : AV} {l : List ImS} (g : GR 49 H B w (imRows l)) (gF : ∀ b, slb w = some b → ¬ F b) (h48 : ∀ x ∈ l, B48 x.b) (hl : l.length ≤ 1000) (hn : n + l.length + 1 ≤ 1000000000)
include m hq g gF h48 hl hn
set_option maxHeartbeats 16000000 in
theorem appdC : ∃ n' H' F', n' ≤ n + l.length + 1 ∧ RigAt q H' n' (appdS r f c a seq l).1 F' ∧ RStep H F H' F' ∧ (envL prog).call 9 [.ptr q.p 0, .int .i64 f, .int .i64 c, .int .i64 a, .int .u32 seq, w] H = some (.tup [.int .i64 (appdS r f c a seq l).2.1, .int .i64 (appdS r f c a seq l).2.2], H') := by
 have gd := fun X => goodC (m.adds X) f c a
 have wl := g.len
 unfold imRows at wl
 rw [List.length_map] at wl
 have key : Outs (runC (envL prog) (b9 (envL prog)) ([.ptr q.p 0, .int .i64 f, .int .i64 c, .int .i64 a, .int .u32 seq, w] ++ List.replicate (110 - [AV.ptr q.p 0, .int .i64 f, .int .i64 c, .int .i64 a, .int .u32 seq, w].length) .undef) H) fun e' t K => ∃ n' F', n' ≤ n + l.length + 1 ∧ RigAt q K n' (appdS r f c a seq l).1 F' ∧ RStep H F K F' ∧ fin [.tmp 12, .tmp 13] (some (e', t, K)) = some (.tup [.int .i64 (appdS r f c a seq l).2.1, .int .i64 (appdS r f c a seq l).2.2], K) := by
  unfold b9
  have sA : ∀ X : AHeap, RStep H F (H ++ X) F := fun X => ⟨Fr.adds ⟨X, rfl⟩ F, fun b h => .inl h⟩
  by_cases hg : goodS r f c a
  ·have dg := decide_eq_true hg
   obtain ⟨hf, hc, hc2, hfl, ha, ha2⟩ := id hg
   have hal : r.a.length ≤ 4096 := m.rin.ok.2.2.1
   have w1 : IntKind.i64.wrap (c - 1) = c - 1 := wrap64 (by omega) (by omega)
   have eA : appdS r f c a seq l = appdS r f c a seq l := rfl
   by_cases h1 : 1 ≤ l.length ∧ (l.length : Int) ≤ c - 1
   ·have d1 : decide ((l.length : Int) < 1) = false := decide_eq_false (by omega)
    have d2 : decide ((l.length : Int) > c - 1) = false := decide_eq_false (by omega)
    have l0 := appL0 (g.mono [.rw [.ptr q.p 0, .int .i64 f, .int .i64 c]]) (fun x hx => (h48 x hx).1) hl (k := l.length) (i := 0) (K := H ++ [.rw [.ptr q.p 0, .int .i64 f, .int .i64 c]])
    rw [show ((0 : Nat) : Int) = 0 from rfl, List.drop_zero] at l0
    generalize hQ : (fun (e' : Ex) (t : T) (K : AHeap) => ∃ n' F', n' ≤ n + l.length + 1 ∧ RigAt q K n' (appdS r f c a seq l).1 F' ∧ RStep H F K F' ∧ fin [.tmp 12, .tmp 13] (some (e', t, K)) = some (.tup [.int .i64 (appdS r f c a seq l).2.1, .int .i64 (appdS r f c a seq l).2.2], K)) = Q
    simp -implicitDefEqProofs (maxSteps := 5000000) only [go_sem, Nat.reduceShiftRight, Nat.reduceAnd, Nat.reduceBNe, Int.reduceEq, Nat.reduceAdd, Nat.reduceSub, Nat.reduceMul, Nat.reduceLeDiff, reduceIte, reduceCtorEq, Nat.reduceBEq, Nat.reduceEqDiff, wrap64, runC_loop, runC_range, callF_fn, callV_fn, callV_yld, yield_eq, yieldBody, yieldRaw, roundMid, roundEnd, rangeEnd, Bool.not_not, put_cons, put_nil, trim_same, at_zero, at_add, set_zero, set_add, store_one, write_zero, write_add, write_head, write_succ, splice_one, splice_more, List.drop_nil, List.take_nil, cell_int, cell_bool, fillS, splice_one, idxA, Ex.isNormal, List.set_nil, List.length_set, List.all_cons, List.all_nil, Bool.and_self, and_self, true_and, and_true, List.getElem?_nil, Int.reduceLT, Int.reduceLE, Int.reduceToNat, Int.toNat_zero, Int.toNat_one, Int.reduceAdd, Int.reduceSub, Int.reduceMul, Int.reduceNeg, Int.reduceBEq, Int.reduceBNe, Int.reduceGE, Int.reduceGT, Nat.reduceLT, trim_keep, under_fn, under_ptr, under_sl, Nat.lt_irrefl, not_lt_add, trim_tail, keepOk, ABlk.vals, Int.cast_ofNat_Int, decide_true, decide_false, List.all_cons, List.all_nil, Nat.zero_mul, Nat.mul_one, Nat.one_mul, runC_loop, gd, dg, wl, d1, d2, w1]
    unfold LP1 at l0
    generalize (envL prog).loop (runC (envL prog) (l9x0 (envL prog))) = L0 at l0 ⊢
    refine outs_ctx (fun r => seqR (blockR 1 r) _) (l0 _ _ _ _ _ _ _ _ _ _ _ _ _ _ _ _ _ _ _ _ _ _ _ _ _ _ _ _ _ _ _ _ _ _ _ _ _ _ _ _ _ _ _ _ _ _ _ _ _ _ _ _ _ _ _ _ _ _ _ _ _ _ _ _ _ _ _ _ _ _ _ _ _ _ _ _ _ _ _ _ _ _ _ _ _ _ _ _ _ _ _ _ _ _ _ _ _ _ _ _ _ _ _ _ _ _ _ (Adds.refl _) (by omega)) ?_
    rintro e t K0 ⟨a0, fv, rfl, ⟨rfl, ho⟩ | ⟨rfl, f12, f13, ho⟩⟩
    ·have hs : f + c ≤ 1000000000 := by omega
     have l1 := appL1 m hf hc hc2 hs ha ha2 hq g gF h48 hl ho hn (k := l.length) (i := 0) (K := K0) (r' := r) (F' := F)
     rw [show ((0 : Nat) : Int) = 0 from rfl, List.drop_zero] at l1
     have m0 : RigAt q K0 (n + 0) r F := by obtain ⟨G, rfl⟩ := a0; rw [List.append_assoc]; exact m.adds _
     have s0 : RStep (H ++ [.rw [.ptr q.p 0, .int .i64 f, .int .i64 c]]) F K0 F := ⟨Fr.adds a0 F, fun b h => .inl h⟩
     have s00 : RStep H F (H ++ [.rw [.ptr q.p 0, .int .i64 f, .int .i64 c]]) F := sA _
     have eA0 : appdS r f c a seq l = appdS r f c a seq l := rfl
     conv at eA0 => rhs; unfold appdS; rw [if_pos hg, if_pos h1, if_pos ho]
     simp -implicitDefEqProofs (maxSteps := 5000000) only [go_sem, Nat.reduceShiftRight, Nat.reduceAnd, Nat.reduceBNe, Int.reduceEq, Nat.reduceAdd, Nat.reduceSub, Nat.reduceMul, Nat.reduceLeDiff, reduceIte, reduceCtorEq, Nat.reduceBEq, Nat.reduceEqDiff, wrap64, runC_loop, runC_range, callF_fn, callV_fn, callV_yld, yield_eq, yieldBody, yieldRaw, roundMid, roundEnd, rangeEnd, Bool.not_not, put_cons, put_nil, trim_same, at_zero, at_add, set_zero, set_add, store_one, write_zero, write_add, write_head, write_succ, splice_one, splice_more, List.drop_nil, List.take_nil, cell_int, cell_bool, fillS, splice_one, idxA, Ex.isNormal, List.set_nil, List.length_set, List.all_cons, List.all_nil, Bool.and_self, and_self, true_and, and_true, List.getElem?_nil, Int.reduceLT, Int.reduceLE, Int.reduceToNat, Int.toNat_zero, Int.toNat_one, Int.reduceAdd, Int.reduceSub, Int.reduceMul, Int.reduceNeg, Int.reduceBEq, Int.reduceBNe, Int.reduceGE, Int.reduceGT, Nat.reduceLT, trim_keep, under_fn, under_ptr, under_sl, Nat.lt_irrefl, not_lt_add, trim_tail, keepOk, ABlk.vals, Int.cast_ofNat_Int, decide_true, decide_false, List.all_cons, List.all_nil, Nat.zero_mul, Nat.mul_one, Nat.one_mul, runC_loop, wl]
     unfold LP1 at l1
     generalize putImS f c a seq r 0 l = P at l1 eA0
     obtain ⟨r1, e1⟩ := P
     simp only at l1 eA0
     generalize (envL prog).loop (runC (envL prog) (l9x1 (envL prog))) = L1 at l1 ⊢
     refine outs_ctx (fun r => seqR (blockR 3 r) _) (l1 _ _ _ _ _ _ _ _ _ _ _ _ _ _ _ _ _ _ _ _ _ _ _ _ _ _ _ _ _ _ _ _ _ _ _ _ _ _ _ _ _ _ _ _ _ _ _ _ _ _ _ _ _ _ _ _ _ _ _ _ _ _ _ _ _ _ _ _ _ _ _ _ _ _ _ _ _ _ _ _ _ _ _ _ _ _ _ _ _ _ _ _ _ _ _ _ _ _ _ _ _ _ _ _ m0 s0 (by omega)) ?_
     rintro e t K1 ⟨n1, F1, m1, hn1, st1, fv1, rfl, ⟨rfl, hP⟩ | ⟨rfl, f12, f13, hP⟩⟩
     ·obtain ⟨K2, m2, st2, len2, ef⟩ := atFlush m1 0
      rw [if_pos hP] at eA0
      have st12 := st1.trans st2
      have tK := fun X : AHeap => cells_old (x := X) (st12.1.cells (b := H.length) (cs := [.ptr q.p 0, .int .i64 f, .int .i64 c]) (by unfold cellsOf; simp) fun h => by have := m.lt _ h; omega)
      have tK0 := st12.1.cells (b := H.length) (cs := [.ptr q.p 0, .int .i64 f, .int .i64 c]) (by unfold cellsOf; simp) fun h => by have := m.lt _ h; omega
      generalize r1.flush 0 = R2 at *
      obtain ⟨r2, e2⟩ := R2
      simp only at ef m2 eA0
      by_cases h2 : e2 = 0
      ·rw [if_pos h2] at eA0
       have n2 : (e2 != 0) = false := by rw [h2]; rfl
       have pok : (commitP seq l.length).Ok := ⟨by show (0 : Int) ≤ 67 ∧ (67 : Int) ≤ 255; omega, hq, by show _ ≤ (l.length : Int) ∧ (l.length : Int) ≤ _; omega, zbody_b⟩
       have pen : encOk (commitP seq l.length).m (commitP seq l.length).i = true := by
        show encOk 67 (l.length : Int) = true
        unfold encOk; rw [decide_eq_true (show 0 ≤ (l.length : Int) by omega), decide_eq_true (show (l.length : Int) ≤ 65535 by omega)]; rfl
       obtain ⟨K3, F3, m3, st3, ew⟩ := rwriteC m2 hf hc hs (show 0 ≤ a + (l.length : Int) by omega) pok pen (by omega)
       have ec : (commitP seq l.length).cells = .int .u8 67 :: .int .u32 seq :: .int .i64 (l.length : Int) :: u8s zbody := rfl
       rw [ec] at ew
       have wa : IntKind.i64.wrap (a + (l.length : Int)) = a + (l.length : Int) := wrap64 (by omega) (by omega)
       have wb : IntKind.i64.wrap (a + (l.length : Int) + 1) = a + (l.length : Int) + 1 := wrap64 (by omega) (by omega)
       have rm := int_rem .none .i64 (a + (l.length : Int) + 1) c (by omega)
       have zl : zbody.length = 48 := zbody_b.1
       have st13 := st12.trans st3
       generalize writeP r2 f c (a + (l.length : Int)) (commitP seq l.length) = R3 at *
       obtain ⟨r3, e3⟩ := R3
       simp only at ew m3 eA0
       by_cases h3 : e3 = 0
       ·rw [if_pos h3] at eA0
        have n3 : (e3 != 0) = false := by rw [h3]; rfl
        obtain ⟨K4, m4, st4, len4, eg⟩ := atFlush m3 0
        have st14 := st13.trans st4
        generalize r3.flush 0 = R4 at *
        obtain ⟨r4, e4⟩ := R4
        simp only at eg m4 eA0
        by_cases h4 : e4 = 0
        ·rw [if_pos h4] at eA0
         have n4 : (e4 != 0) = false := by rw [h4]; rfl
         simp -implicitDefEqProofs (maxSteps := 5000000) only [go_sem, Nat.reduceShiftRight, Nat.reduceAnd, Nat.reduceBNe, Int.reduceEq, Nat.reduceAdd, Nat.reduceSub, Nat.reduceMul, Nat.reduceLeDiff, reduceIte, reduceCtorEq, Nat.reduceBEq, Nat.reduceEqDiff, wrap64, runC_loop, runC_range, callF_fn, callV_fn, callV_yld, yield_eq, yieldBody, yieldRaw, roundMid, roundEnd, rangeEnd, Bool.not_not, put_cons, put_nil, trim_same, at_zero, at_add, set_zero, set_add, store_one, write_zero, write_add, write_head, write_succ, splice_one, splice_more, List.drop_nil, List.take_nil, cell_int, cell_bool, fillS, splice_one, idxA, Ex.isNormal, List.set_nil, List.length_set, List.all_cons, List.all_nil, Bool.and_self, and_self, true_and, and_true, List.getElem?_nil, Int.reduceLT, Int.reduceLE, Int.reduceToNat, Int.toNat_zero, Int.toNat_one, Int.reduceAdd, Int.reduceSub, Int.reduceMul, Int.reduceNeg, Int.reduceBEq, Int.reduceBNe, Int.reduceGE, Int.reduceGT, Nat.reduceLT, trim_keep, under_fn, under_ptr, under_sl, Nat.lt_irrefl, not_lt_add, trim_tail, keepOk, ABlk.vals, Int.cast_ofNat_Int, decide_true, decide_false, List.all_cons, List.all_nil, Nat.zero_mul, Nat.mul_one, Nat.one_mul, ef, n2, tK, tK0, wl, wa, wb, rep_z48, u8s_len, zl, ew, n3, eg, n4, rm, outs_normal]
         subst hQ
         rw [eA0]
         refine ⟨_, F3, by omega, m4, s00.trans st14, ?_⟩
         simp -implicitDefEqProofs (maxSteps := 5000000) only [go_sem, Nat.reduceShiftRight, Nat.reduceAnd, Nat.reduceBNe, Int.reduceEq, Nat.reduceAdd, Nat.reduceSub, Nat.reduceMul, Nat.reduceLeDiff, reduceIte, reduceCtorEq, Nat.reduceBEq, Nat.reduceEqDiff]
        ·rw [if_neg h4] at eA0
         have n4 : (e4 != 0) = true := by simpa using h4
         simp -implicitDefEqProofs (maxSteps := 5000000) only [go_sem, Nat.reduceShiftRight, Nat.reduceAnd, Nat.reduceBNe, Int.reduceEq, Nat.reduceAdd, Nat.reduceSub, Nat.reduceMul, Nat.reduceLeDiff, reduceIte, reduceCtorEq, Nat.reduceBEq, Nat.reduceEqDiff, wrap64, runC_loop, runC_range, callF_fn, callV_fn, callV_yld, yield_eq, yieldBody, yieldRaw, roundMid, roundEnd, rangeEnd, Bool.not_not, put_cons, put_nil, trim_same, at_zero, at_add, set_zero, set_add, store_one, write_zero, write_add, write_head, write_succ, splice_one, splice_more, List.drop_nil, List.take_nil, cell_int, cell_bool, fillS, splice_one, idxA, Ex.isNormal, List.set_nil, List.length_set, List.all_cons, List.all_nil, Bool.and_self, and_self, true_and, and_true, List.getElem?_nil, Int.reduceLT, Int.reduceLE, Int.reduceToNat, Int.toNat_zero, Int.toNat_one, Int.reduceAdd, Int.reduceSub, Int.reduceMul, Int.reduceNeg, Int.reduceBEq, Int.reduceBNe, Int.reduceGE, Int.reduceGT, Nat.reduceLT, trim_keep, under_fn, under_ptr, under_sl, Nat.lt_irrefl, not_lt_add, trim_tail, keepOk, ABlk.vals, Int.cast_ofNat_Int, decide_true, decide_false, List.all_cons, List.all_nil, Nat.zero_mul, Nat.mul_one, Nat.one_mul, ef, n2, tK, tK0, wl, wa, wb, rep_z48, u8s_len, zl, ew, n3, eg, n4, rm, outs_normal]
         subst hQ
         rw [eA0]
         refine ⟨_, F3, by omega, m4, s00.trans st14, ?_⟩
         simp -implicitDefEqProofs (maxSteps := 5000000) only [go_sem, Nat.reduceShiftRight, Nat.reduceAnd, Nat.reduceBNe, Int.reduceEq, Nat.reduceAdd, Nat.reduceSub, Nat.reduceMul, Nat.reduceLeDiff, reduceIte, reduceCtorEq, Nat.reduceBEq, Nat.reduceEqDiff]
       ·rw [if_neg h3] at eA0
        have n3 : (e3 != 0) = true := by simpa using h3
        simp -implicitDefEqProofs (maxSteps := 5000000) only [go_sem, Nat.reduceShiftRight, Nat.reduceAnd, Nat.reduceBNe, Int.reduceEq, Nat.reduceAdd, Nat.reduceSub, Nat.reduceMul, Nat.reduceLeDiff, reduceIte, reduceCtorEq, Nat.reduceBEq, Nat.reduceEqDiff, wrap64, runC_loop, runC_range, callF_fn, callV_fn, callV_yld, yield_eq, yieldBody, yieldRaw, roundMid, roundEnd, rangeEnd, Bool.not_not, put_cons, put_nil, trim_same, at_zero, at_add, set_zero, set_add, store_one, write_zero, write_add, write_head, write_succ, splice_one, splice_more, List.drop_nil, List.take_nil, cell_int, cell_bool, fillS, splice_one, idxA, Ex.isNormal, List.set_nil, List.length_set, List.all_cons, List.all_nil, Bool.and_self, and_self, true_and, and_true, List.getElem?_nil, Int.reduceLT, Int.reduceLE, Int.reduceToNat, Int.toNat_zero, Int.toNat_one, Int.reduceAdd, Int.reduceSub, Int.reduceMul, Int.reduceNeg, Int.reduceBEq, Int.reduceBNe, Int.reduceGE, Int.reduceGT, Nat.reduceLT, trim_keep, under_fn, under_ptr, under_sl, Nat.lt_irrefl, not_lt_add, trim_tail, keepOk, ABlk.vals, Int.cast_ofNat_Int, decide_true, decide_false, List.all_cons, List.all_nil, Nat.zero_mul, Nat.mul_one, Nat.one_mul, ef, n2, tK, tK0, wl, wa, wb, rep_z48, u8s_len, zl, ew, n3, outs_normal]
        subst hQ
        rw [eA0]
        refine ⟨_, F3, by omega, m3, s00.trans st13, ?_⟩
        simp -implicitDefEqProofs (maxSteps := 5000000) only [go_sem, Nat.reduceShiftRight, Nat.reduceAnd, Nat.reduceBNe, Int.reduceEq, Nat.reduceAdd, Nat.reduceSub, Nat.reduceMul, Nat.reduceLeDiff, reduceIte, reduceCtorEq, Nat.reduceBEq, Nat.reduceEqDiff]
      ·rw [if_neg h2] at eA0
       have n2 : (e2 != 0) = true := by simpa using h2
       simp -implicitDefEqProofs (maxSteps := 5000000) only [go_sem, Nat.reduceShiftRight, Nat.reduceAnd, Nat.reduceBNe, Int.reduceEq, Nat.reduceAdd, Nat.reduceSub, Nat.reduceMul, Nat.reduceLeDiff, reduceIte, reduceCtorEq, Nat.reduceBEq, Nat.reduceEqDiff, wrap64, runC_loop, runC_range, callF_fn, callV_fn, callV_yld, yield_eq, yieldBody, yieldRaw, roundMid, roundEnd, rangeEnd, Bool.not_not, put_cons, put_nil, trim_same, at_zero, at_add, set_zero, set_add, store_one, write_zero, write_add, write_head, write_succ, splice_one, splice_more, List.drop_nil, List.take_nil, cell_int, cell_bool, fillS, splice_one, idxA, Ex.isNormal, List.set_nil, List.length_set, List.all_cons, List.all_nil, Bool.and_self, and_self, true_and, and_true, List.getElem?_nil, Int.reduceLT, Int.reduceLE, Int.reduceToNat, Int.toNat_zero, Int.toNat_one, Int.reduceAdd, Int.reduceSub, Int.reduceMul, Int.reduceNeg, Int.reduceBEq, Int.reduceBNe, Int.reduceGE, Int.reduceGT, Nat.reduceLT, trim_keep, under_fn, under_ptr, under_sl, Nat.lt_irrefl, not_lt_add, trim_tail, keepOk, ABlk.vals, Int.cast_ofNat_Int, decide_true, decide_false, List.all_cons, List.all_nil, Nat.zero_mul, Nat.mul_one, Nat.one_mul, ef, n2, outs_normal]
       subst hQ
       rw [eA0]
       refine ⟨_, F1, by omega, m2, s00.trans st12, ?_⟩
       simp -implicitDefEqProofs (maxSteps := 5000000) only [go_sem, Nat.reduceShiftRight, Nat.reduceAnd, Nat.reduceBNe, Int.reduceEq, Nat.reduceAdd, Nat.reduceSub, Nat.reduceMul, Nat.reduceLeDiff, reduceIte, reduceCtorEq, Nat.reduceBEq, Nat.reduceEqDiff]
     ·rw [if_neg hP] at eA0
      simp -implicitDefEqProofs (maxSteps := 5000000) only [go_sem, Nat.reduceShiftRight, Nat.reduceAnd, Nat.reduceBNe, Int.reduceEq, Nat.reduceAdd, Nat.reduceSub, Nat.reduceMul, Nat.reduceLeDiff, reduceIte, reduceCtorEq, Nat.reduceBEq, Nat.reduceEqDiff, outs_normal]
      subst hQ
      rw [eA0]
      refine ⟨_, F1, by omega, m1, s00.trans st1, ?_⟩
      simp -implicitDefEqProofs (maxSteps := 5000000) only [go_sem, Nat.reduceShiftRight, Nat.reduceAnd, Nat.reduceBNe, Int.reduceEq, Nat.reduceAdd, Nat.reduceSub, Nat.reduceMul, Nat.reduceLeDiff, reduceIte, reduceCtorEq, Nat.reduceBEq, Nat.reduceEqDiff, f12, f13]
    ·simp -implicitDefEqProofs (maxSteps := 5000000) only [go_sem, Nat.reduceShiftRight, Nat.reduceAnd, Nat.reduceBNe, Int.reduceEq, Nat.reduceAdd, Nat.reduceSub, Nat.reduceMul, Nat.reduceLeDiff, reduceIte, reduceCtorEq, Nat.reduceBEq, Nat.reduceEqDiff, outs_normal]
     subst hQ
     have eA : appdS r f c a seq l = (r, (0, 1)) := by
      unfold appdS
      rw [if_pos hg, if_pos h1, if_neg (by rw [ho]; simp)]
     rw [eA]
     obtain ⟨G, rfl⟩ := a0
     rw [List.append_assoc]
     refine ⟨n, F, by omega, m.adds _, sA _, ?_⟩
     simp -implicitDefEqProofs (maxSteps := 5000000) only [go_sem, Nat.reduceShiftRight, Nat.reduceAnd, Nat.reduceBNe, Int.reduceEq, Nat.reduceAdd, Nat.reduceSub, Nat.reduceMul, Nat.reduceLeDiff, reduceIte, reduceCtorEq, Nat.reduceBEq, Nat.reduceEqDiff, f12, f13]
   ·have eA : appdS r f c a seq l = (r, (0, 2)) := by
     unfold appdS
     rw [if_pos hg, if_neg h1]
    rw [eA]
    generalize hQ : (fun (e' : Ex) (t : T) (K : AHeap) => ∃ n' F', n' ≤ n + l.length + 1 ∧ RigAt q K n' r F' ∧ RStep H F K F' ∧ fin [.tmp 12, .tmp 13] (some (e', t, K)) = some (.tup [.int .i64 0, .int .i64 2], K)) = Q
    by_cases h2 : l.length < 1
    ·have d1 : decide ((l.length : Int) < 1) = true := decide_eq_true (by omega)
     simp -implicitDefEqProofs (maxSteps := 5000000) only [go_sem, Nat.reduceShiftRight, Nat.reduceAnd, Nat.reduceBNe, Int.reduceEq, Nat.reduceAdd, Nat.reduceSub, Nat.reduceMul, Nat.reduceLeDiff, reduceIte, reduceCtorEq, Nat.reduceBEq, Nat.reduceEqDiff, wrap64, runC_loop, runC_range, callF_fn, callV_fn, callV_yld, yield_eq, yieldBody, yieldRaw, roundMid, roundEnd, rangeEnd, Bool.not_not, put_cons, put_nil, trim_same, at_zero, at_add, set_zero, set_add, store_one, write_zero, write_add, write_head, write_succ, splice_one, splice_more, List.drop_nil, List.take_nil, cell_int, cell_bool, fillS, splice_one, idxA, Ex.isNormal, List.set_nil, List.length_set, List.all_cons, List.all_nil, Bool.and_self, and_self, true_and, and_true, List.getElem?_nil, Int.reduceLT, Int.reduceLE, Int.reduceToNat, Int.toNat_zero, Int.toNat_one, Int.reduceAdd, Int.reduceSub, Int.reduceMul, Int.reduceNeg, Int.reduceBEq, Int.reduceBNe, Int.reduceGE, Int.reduceGT, Nat.reduceLT, trim_keep, under_fn, under_ptr, under_sl, Nat.lt_irrefl, not_lt_add, trim_tail, keepOk, ABlk.vals, Int.cast_ofNat_Int, decide_true, decide_false, List.all_cons, List.all_nil, Nat.zero_mul, Nat.mul_one, Nat.one_mul, gd, dg, wl, d1, outs_normal]
     subst hQ
     refine ⟨n, F, by omega, m.adds _, sA _, ?_⟩
     simp -implicitDefEqProofs (maxSteps := 5000000) only [go_sem, Nat.reduceShiftRight, Nat.reduceAnd, Nat.reduceBNe, Int.reduceEq, Nat.reduceAdd, Nat.reduceSub, Nat.reduceMul, Nat.reduceLeDiff, reduceIte, reduceCtorEq, Nat.reduceBEq, Nat.reduceEqDiff]
    ·have d1 : decide ((l.length : Int) < 1) = false := decide_eq_false (by omega)
     have d2 : decide ((l.length : Int) > c - 1) = true := decide_eq_true (by omega)
     simp -implicitDefEqProofs (maxSteps := 5000000) only [go_sem, Nat.reduceShiftRight, Nat.reduceAnd, Nat.reduceBNe, Int.reduceEq, Nat.reduceAdd, Nat.reduceSub, Nat.reduceMul, Nat.reduceLeDiff, reduceIte, reduceCtorEq, Nat.reduceBEq, Nat.reduceEqDiff, wrap64, runC_loop, runC_range, callF_fn, callV_fn, callV_yld, yield_eq, yieldBody, yieldRaw, roundMid, roundEnd, rangeEnd, Bool.not_not, put_cons, put_nil, trim_same, at_zero, at_add, set_zero, set_add, store_one, write_zero, write_add, write_head, write_succ, splice_one, splice_more, List.drop_nil, List.take_nil, cell_int, cell_bool, fillS, splice_one, idxA, Ex.isNormal, List.set_nil, List.length_set, List.all_cons, List.all_nil, Bool.and_self, and_self, true_and, and_true, List.getElem?_nil, Int.reduceLT, Int.reduceLE, Int.reduceToNat, Int.toNat_zero, Int.toNat_one, Int.reduceAdd, Int.reduceSub, Int.reduceMul, Int.reduceNeg, Int.reduceBEq, Int.reduceBNe, Int.reduceGE, Int.reduceGT, Nat.reduceLT, trim_keep, under_fn, under_ptr, under_sl, Nat.lt_irrefl, not_lt_add, trim_tail, keepOk, ABlk.vals, Int.cast_ofNat_Int, decide_true, decide_false, List.all_cons, List.all_nil, Nat.zero_mul, Nat.mul_one, Nat.one_mul, gd, dg, wl, d1, d2, w1, outs_normal]
     subst hQ
     refine ⟨n, F, by omega, m.adds _, sA _, ?_⟩
     simp -implicitDefEqProofs (maxSteps := 5000000) only [go_sem, Nat.reduceShiftRight, Nat.reduceAnd, Nat.reduceBNe, Int.reduceEq, Nat.reduceAdd, Nat.reduceSub, Nat.reduceMul, Nat.reduceLeDiff, reduceIte, reduceCtorEq, Nat.reduceBEq, Nat.reduceEqDiff]
  ·have dg := decide_eq_false hg
   have eA : appdS r f c a seq l = (r, (0, 1)) := by
    unfold appdS
    rw [if_neg hg]
   rw [eA]
   generalize hQ : (fun (e' : Ex) (t : T) (K : AHeap) => ∃ n' F', n' ≤ n + l.length + 1 ∧ RigAt q K n' r F' ∧ RStep H F K F' ∧ fin [.tmp 12, .tmp 13] (some (e', t, K)) = some (.tup [.int .i64 0, .int .i64 1], K)) = Q
   simp -implicitDefEqProofs (maxSteps := 5000000) only [go_sem, Nat.reduceShiftRight, Nat.reduceAnd, Nat.reduceBNe, Int.reduceEq, Nat.reduceAdd, Nat.reduceSub, Nat.reduceMul, Nat.reduceLeDiff, reduceIte, reduceCtorEq, Nat.reduceBEq, Nat.reduceEqDiff, wrap64, runC_loop, runC_range, callF_fn, callV_fn, callV_yld, yield_eq, yieldBody, yieldRaw, roundMid, roundEnd, rangeEnd, Bool.not_not, put_cons, put_nil, trim_same, at_zero, at_add, set_zero, set_add, store_one, write_zero, write_add, write_head, write_succ, splice_one, splice_more, List.drop_nil, List.take_nil, cell_int, cell_bool, fillS, splice_one, idxA, Ex.isNormal, List.set_nil, List.length_set, List.all_cons, List.all_nil, Bool.and_self, and_self, true_and, and_true, List.getElem?_nil, Int.reduceLT, Int.reduceLE, Int.reduceToNat, Int.toNat_zero, Int.toNat_one, Int.reduceAdd, Int.reduceSub, Int.reduceMul, Int.reduceNeg, Int.reduceBEq, Int.reduceBNe, Int.reduceGE, Int.reduceGT, Nat.reduceLT, trim_keep, under_fn, under_ptr, under_sl, Nat.lt_irrefl, not_lt_add, trim_tail, keepOk, ABlk.vals, Int.cast_ofNat_Int, decide_true, decide_false, List.all_cons, List.all_nil, Nat.zero_mul, Nat.mul_one, Nat.one_mul, gd, dg, outs_normal]
   subst hQ
   refine ⟨n, F, by omega, m.adds _, sA _, ?_⟩
   simp -implicitDefEqProofs (maxSteps := 5000000) only [go_sem, Nat.reduceShiftRight, Nat.reduceAnd, Nat.reduceBNe, Int.reduceEq, Nat.reduceAdd, Nat.reduceSub, Nat.reduceMul, Nat.reduceLeDiff, reduceIte, reduceCtorEq, Nat.reduceBEq, Nat.reduceEqDiff]
 obtain ⟨e', t, K, hr, n', F', hn', mK, st, hf⟩ := key
 obtain ⟨H', F'', et, mt, stt, _⟩ := m.trim mK st (.tup [.int .i64 (appdS r f c a seq l).2.1, .int .i64 (appdS r f c a seq l).2.2])
 exact ⟨n', H', F'', hn', mt, stt, by rw [c9, hr, hf, et]⟩
end
end Go.Proofs.Ytipedaadjfhdnaa.G06
end
