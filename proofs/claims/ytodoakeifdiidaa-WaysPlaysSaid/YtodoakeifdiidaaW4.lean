/- What the functions that WaysPlays reaches answer, for every argument. No condition but those in each statement. -/
import Derived.Test.YtodoakeifdiidaaW3
set_option linter.unusedSimpArgs false
set_option linter.unusedVariables false
set_option maxRecDepth 10000
namespace Go.Proofs.Ytodoakeifdiidaa.G13
open Go Go.Proofs.Ytodoakeifdiidaa.Eng
theorem ex_outs {h : AHeap} {rs : List RV} {r : Res} {v : AV} {A B : AHeap → Prop} (o : Outs r fun e t h1 => A h1 ∧ B h1 ∧ h1.length = h.length ∧ fin rs (some (e, t, h1)) = some (v, h1)) : ∃ H', A H' ∧ B H' ∧ trim h (fin rs r) = some (v, H') := by
  obtain ⟨e, t, h1, rfl, q1, q2, q3, q4⟩ := o
  exact ⟨h1, q1, q2, by rw [q4]; exact trim_same q3⟩
/-- The clock, k steps. -/
def clockW (ways base : Nat) : Nat → List Slot → Nat → List Slot × Nat × Option Nat
  | 0, S, h => (S, h, none)
  | k + 1, S, h =>
    if (sl S (base + h)).d then clockW ways base k S ((h + 1) % ways)
    else if (sl S (base + h)).m then clockW ways base k (S.set (base + h) { sl S (base + h) with m := false }) ((h + 1) % ways)
    else (S.set (base + h) none', (h + 1) % ways, some (base + h))

section
variable {p bs bh : Nat} {e : Bool} {sets ways : Nat}
set_option maxHeartbeats 4000000 in
theorem clockL (s : Nat) (hs' : s < sets) (x1 x2 x3 x7 x8 x9 x12 x13 x14 x15 x16 x17 x18 x19 x20 x21 x22 x23 x24 x25 x26 x27 x28 x29 x30 x31 x32 x33 x34 x35 x36 x37 x38 x39 x40 x41 x42 x43 x44 x45 x46 x47 x48 x49 : AV) : ∀ (k w : Nat) (H : AHeap) (S : List Slot) (hs : List Nat) (h : Nat) (j10 j11 j52 j53 j54 j55 j56 j57 j58 j59 j60 j61 j62 j63 j64 j65 j66 j67 j68 j69 j70 j71 j72 j73 j74 j75 j76 j77 j78 j79 : AV), PM H p bs bh e sets ways S hs → hs[s]? = some h → w + k = 2 * ways →
    Outs (LQ l14x1 [.ptr p 0, x1, x2, x3, .int .i64 0, .bool false, .int .i64 (s : Int), x7, x8, x9, j10, j11, x12, x13, x14, x15, x16, x17, x18, x19, x20, x21, x22, x23, x24, x25, x26, x27, x28, x29, x30, x31, x32, x33, x34, x35, x36, x37, x38, x39, x40, x41, x42, x43, x44, x45, x46, x47, x48, x49, .int .i64 ((2 * ways : Nat) : Int), .int .i64 (w : Int), j52, j53, j54, j55, j56, j57, j58, j59, j60, j61, j62, j63, j64, j65, j66, j67, j68, j69, j70, j71, j72, j73, j74, j75, j76, j77, j78, j79] H) fun e' t H' => PM H' p bs bh e sets ways (clockW ways (s * ways) k S h).1 (hs.set s (clockW ways (s * ways) k S h).2.1) ∧ KeepB H H' [bs, bh] ∧ match (clockW ways (s * ways) k S h).2.2 with
      | none => e' = .exit 2 ∧ ∃ k10 k11 k51 k52 k53 k54 k55 k56 k57 k58 k59 k60 k61 k62 k63 k64 k65 k66 k67 k68 k69 k70 k71 k72 k73 k74 k75 k76 k77 k78 k79 : AV, t = [.ptr p 0, x1, x2, x3, .int .i64 0, .bool false, .int .i64 (s : Int), x7, x8, x9, k10, k11, x12, x13, x14, x15, x16, x17, x18, x19, x20, x21, x22, x23, x24, x25, x26, x27, x28, x29, x30, x31, x32, x33, x34, x35, x36, x37, x38, x39, x40, x41, x42, x43, x44, x45, x46, x47, x48, x49, .int .i64 ((2 * ways : Nat) : Int), k51, k52, k53, k54, k55, k56, k57, k58, k59, k60, k61, k62, k63, k64, k65, k66, k67, k68, k69, k70, k71, k72, k73, k74, k75, k76, k77, k78, k79]
      | some i => e' = .ret ∧ ∃ k10 k11 k51 k52 k53 k54 k55 k56 k57 k58 k59 k60 k61 k62 k63 k64 k65 k66 k67 k68 k69 k70 k71 k72 k73 k74 k75 k76 k77 k78 k79 : AV, t = [.ptr p 0, x1, x2, x3, .int .i64 (i : Int), .bool true, .int .i64 (s : Int), x7, x8, x9, k10, k11, x12, x13, x14, x15, x16, x17, x18, x19, x20, x21, x22, x23, x24, x25, x26, x27, x28, x29, x30, x31, x32, x33, x34, x35, x36, x37, x38, x39, x40, x41, x42, x43, x44, x45, x46, x47, x48, x49, .int .i64 ((2 * ways : Nat) : Int), k51, k52, k53, k54, k55, k56, k57, k58, k59, k60, k61, k62, k63, k64, k65, k66, k67, k68, k69, k70, k71, k72, k73, k74, k75, k76, k77, k78, k79] := by
  intro k
  obtain ⟨L, hL⟩ : ∃ L, L = LQ l14x1 := ⟨_, rfl⟩
  have lo := loop_open hL
  rw [← hL]
  induction k with
  | zero =>
    intro w H S hs h j10 j11 j52 j53 j54 j55 j56 j57 j58 j59 j60 j61 j62 j63 j64 j65 j66 j67 j68 j69 j70 j71 j72 j73 j74 j75 j76 j77 j78 j79 m hh hi
    obtain rfl : w = 2 * ways := by omega
    have hd : decide (((2 * ways : Nat) : Int) < ((2 * ways : Nat) : Int)) = false := by simp
    have hset : hs.set s h = hs := by
      obtain ⟨q1, q2⟩ := List.getElem?_eq_some_iff.1 hh
      rw [← q2]; exact List.set_getElem_self _
    rw [lo]
    unfold l14x1
    simp -implicitDefEqProofs (maxSteps := 5000000) only [go_sem, Nat.reduceShiftRight, Nat.reduceAnd, Nat.reduceBNe, Int.reduceEq, Nat.reduceAdd, Nat.reduceSub, Nat.reduceMul, Nat.reduceLeDiff, reduceIte, reduceCtorEq, Nat.reduceBEq, Nat.reduceEqDiff, go_sem, hd, seqR_exit', outs_normal, clockW]
    rw [hset]
    exact ⟨m, KeepB.refl _ _, _, _, _, _, _, _, _, _, _, _, _, _, _, _, _, _, _, _, _, _, _, _, _, _, _, _, _, _, _, _, _, rfl⟩
  | succ k ih =>
    intro w H S hs h j10 j11 j52 j53 j54 j55 j56 j57 j58 j59 j60 j61 j62 j63 j64 j65 j66 j67 j68 j69 j70 j71 j72 j73 j74 j75 j76 j77 j78 j79 m hh hi
    obtain ⟨h', hh', hlt, i1, c⟩ := stepC m s hs'
    obtain rfl : h = h' := by rw [hh] at hh'; exact Option.some.inj hh'
    have w4 := m.w4
    have w1 := m.w1
    obtain ⟨_, i2, i3⟩ := m.in hs' hlt
    have hd : decide ((w : Int) < ((2 * ways : Nat) : Int)) = true := decide_eq_true (by omega)
    have e2 : IntKind.i64.wrap ((w : Int) + 1) = ((w + 1 : Nat) : Int) := by rw [wrap64 (by omega) (by omega)]; omega
    have hl : s < hs.length := (List.getElem?_eq_some_iff.1 hh).1
    have m1 := m.upH (hs' := hs.set s ((h + 1) % ways)) (by simp) (fun x hx => by
      rcases List.mem_or_eq_of_mem_set hx with hx | rfl
      · exact m.hw x hx
      · exact Nat.mod_lt _ (by omega))
    have k1 := keepH H bs bh (hs.set s ((h + 1) % ways))
    have hm := m1.map
    have ix := idx_nat bs 3 S.length S.length (s * ways + h) e .i64 (by omega) i1
    have hc := cells_rw m1.sl
    have hg1 := slot_d i1
    have hg2 := slot_m i1
    have hh1 : (hs.set s ((h + 1) % ways))[s]? = some ((h + 1) % ways) := List.getElem?_set_self hl
    rw [lo]
    unfold l14x1
    cases hdd : (sl S (s * ways + h)).d with
    | true =>
      rw [hdd] at hg1
      have f : clockW ways (s * ways) (k + 1) S h = clockW ways (s * ways) k S ((h + 1) % ways) := by simp [clockW, hdd]
      rw [f]
      have ih := fun j10 j11 j52 j53 j54 j55 j56 j57 j58 j59 j60 j61 j62 j63 j64 j65 j66 j67 j68 j69 j70 j71 j72 j73 j74 j75 j76 j77 j78 j79 => ih (w + 1) _ S _ _ j10 j11 j52 j53 j54 j55 j56 j57 j58 j59 j60 j61 j62 j63 j64 j65 j66 j67 j68 j69 j70 j71 j72 j73 j74 j75 j76 j77 j78 j79 m1 hh1 (by omega)
      simp -implicitDefEqProofs (maxSteps := 5000000) only [go_sem, Nat.reduceShiftRight, Nat.reduceAnd, Nat.reduceBNe, Int.reduceEq, Nat.reduceAdd, Nat.reduceSub, Nat.reduceMul, Nat.reduceLeDiff, reduceIte, reduceCtorEq, Nat.reduceBEq, Nat.reduceEqDiff, go_sem, hm, hd, e2, c, ix, hc, hg1, blockR_exit, seqR_exit']
      refine (ih _ _ _ _ _ _ _ _ _ _ _ _ _ _ _ _ _ _ _ _ _ _ _ _ _ _ _ _ _ _).mono ?_
      rintro e' t H' ⟨q1, q2, q3⟩
      rw [List.set_set] at q1
      exact ⟨q1, k1.trans q2, q3⟩
    | false =>
      rw [hdd] at hg1
      cases hmm : (sl S (s * ways + h)).m with
      | true =>
        rw [hmm] at hg2
        have f : clockW ways (s * ways) (k + 1) S h = clockW ways (s * ways) k (S.set (s * ways + h) { sl S (s * ways + h) with m := false }) ((h + 1) % ways) := by simp [clockW, hdd, hmm]
        rw [f]
        have m2 := m1.upS (S' := S.set (s * ways + h) { sl S (s * ways + h) with m := false }) (by simp) (set_ok m.ok _ _ (show -1 ≤ (sl S (s * ways + h)).b from m.ok _ (sl_mem i1)))
        have k2 := k1.trans (keepS _ bs bh (S.set (s * ways + h) { sl S (s * ways + h) with m := false }))
        have ih := fun j10 j11 j52 j53 j54 j55 j56 j57 j58 j59 j60 j61 j62 j63 j64 j65 j66 j67 j68 j69 j70 j71 j72 j73 j74 j75 j76 j77 j78 j79 => ih (w + 1) _ _ _ _ j10 j11 j52 j53 j54 j55 j56 j57 j58 j59 j60 j61 j62 j63 j64 j65 j66 j67 j68 j69 j70 j71 j72 j73 j74 j75 j76 j77 j78 j79 m2 hh1 (by omega)
        have wr := put_m m1.sl i1 false
        simp -implicitDefEqProofs (maxSteps := 5000000) only [go_sem, Nat.reduceShiftRight, Nat.reduceAnd, Nat.reduceBNe, Int.reduceEq, Nat.reduceAdd, Nat.reduceSub, Nat.reduceMul, Nat.reduceLeDiff, reduceIte, reduceCtorEq, Nat.reduceBEq, Nat.reduceEqDiff, go_sem, store_one, hm, hd, e2, c, ix, hc, hg1, hg2, wr, blockR_exit, seqR_exit']
        refine (ih _ _ _ _ _ _ _ _ _ _ _ _ _ _ _ _ _ _ _ _ _ _ _ _ _ _ _ _ _ _).mono ?_
        rintro e' t H' ⟨q1, q2, q3⟩
        rw [List.set_set] at q1
        exact ⟨q1, k2.trans q2, q3⟩
      | false =>
        rw [hmm] at hg2
        have f : clockW ways (s * ways) (k + 1) S h = (S.set (s * ways + h) none', (h + 1) % ways, some (s * ways + h)) := by simp [clockW, hdd, hmm]
        rw [f]
        have m2 := m1.upS (S' := S.set (s * ways + h) none') (by simp) (set_ok m.ok _ _ (by decide))
        have k2 := k1.trans (keepS _ bs bh (S.set (s * ways + h) none'))
        have wr : writeN (updH H bh (hs.set s ((h + 1) % ways))) bs ((s * ways + h) * 3) [.int .i64 (-1), .bool false, .bool false] = some (updS (updH H bh (hs.set s ((h + 1) % ways))) bs (S.set (s * ways + h) none')) := put_row m1.sl i1 none'
        simp -implicitDefEqProofs (maxSteps := 5000000) only [go_sem, Nat.reduceShiftRight, Nat.reduceAnd, Nat.reduceBNe, Int.reduceEq, Nat.reduceAdd, Nat.reduceSub, Nat.reduceMul, Nat.reduceLeDiff, reduceIte, reduceCtorEq, Nat.reduceBEq, Nat.reduceEqDiff, go_sem, wrap64, runC_loop, runC_range, callF_fn, callV_fn, callV_yld, yield_eq, yieldBody, yieldRaw, roundMid, roundEnd, rangeEnd, Bool.not_not, put_cons, put_nil, trim_same, at_zero, at_add, set_zero, set_add, store_one, write_zero, write_add, write_head, write_succ, splice_one, splice_more, List.drop_nil, List.take_nil, cell_int, cell_bool, fillS, splice_one, idxA, Ex.isNormal, List.set_nil, List.length_set, List.all_cons, List.all_nil, Bool.and_self, and_self, true_and, and_true, List.getElem?_nil, Int.reduceLT, Int.reduceLE, Int.reduceToNat, Int.toNat_zero, Int.toNat_one, Int.reduceAdd, Int.reduceSub, Int.reduceMul, Int.reduceNeg, Int.reduceBEq, Int.reduceBNe, Int.reduceGE, Int.reduceGT, Nat.reduceLT, trim_keep, under_fn, under_ptr, under_sl, Nat.lt_irrefl, not_lt_add, trim_tail, keepOk, ABlk.vals, Int.cast_ofNat_Int, decide_true, decide_false, List.all_cons, List.all_nil, Nat.zero_mul, Nat.mul_one, Nat.one_mul, hm, hd, e2, c, ix, hc, hg1, hg2, wr, blockR_exit, seqR_exit', outs_normal]
        exact ⟨m2, k2, _, _, _, _, _, _, _, _, _, _, _, _, _, _, _, _, _, _, _, _, _, _, _, _, _, _, _, _, _, _, _, rfl⟩

set_option maxHeartbeats 4000000 in
theorem freeL {H : AHeap} {S : List Slot} {hs : List Nat} (m : PM H p bs bh e sets ways S hs) (s : Nat) (hs' : s < sets) (x1 x2 x3 x7 x10 x11 x12 x13 x14 x15 x16 x17 x18 x19 x20 x21 x22 x46 x47 x48 x49 x50 x51 x52 x53 x54 x55 x56 x57 x58 x59 x60 x61 x62 x63 x64 x65 x66 x67 x68 x69 x70 x71 x72 x73 x74 x75 x76 x77 x78 x79 : AV) : ∀ (k w : Nat) (j8 j9 j25 j26 j27 j28 j29 j30 j31 j32 j33 j34 j35 j36 j37 j38 j39 j40 j41 j42 j43 j44 j45 : AV), w + k = ways →
    Outs (LQ l14x0 [.ptr p 0, x1, x2, x3, .int .i64 0, .bool false, .int .i64 (s : Int), x7, j8, j9, x10, x11, x12, x13, x14, x15, x16, x17, x18, x19, x20, x21, x22, .int .i64 (ways : Int), .int .i64 (w : Int), j25, j26, j27, j28, j29, j30, j31, j32, j33, j34, j35, j36, j37, j38, j39, j40, j41, j42, j43, j44, j45, x46, x47, x48, x49, x50, x51, x52, x53, x54, x55, x56, x57, x58, x59, x60, x61, x62, x63, x64, x65, x66, x67, x68, x69, x70, x71, x72, x73, x74, x75, x76, x77, x78, x79] H) fun e t H' => H' = H ∧ match findW S (s * ways) (-1) k w with
      | none => e = .exit 0 ∧ ∃ k8 k9 k24 k25 k26 k27 k28 k29 k30 k31 k32 k33 k34 k35 k36 k37 k38 k39 k40 k41 k42 k43 k44 k45 : AV, t = [.ptr p 0, x1, x2, x3, .int .i64 0, .bool false, .int .i64 (s : Int), x7, k8, k9, x10, x11, x12, x13, x14, x15, x16, x17, x18, x19, x20, x21, x22, .int .i64 (ways : Int), k24, k25, k26, k27, k28, k29, k30, k31, k32, k33, k34, k35, k36, k37, k38, k39, k40, k41, k42, k43, k44, k45, x46, x47, x48, x49, x50, x51, x52, x53, x54, x55, x56, x57, x58, x59, x60, x61, x62, x63, x64, x65, x66, x67, x68, x69, x70, x71, x72, x73, x74, x75, x76, x77, x78, x79]
      | some i => e = .ret ∧ ∃ k8 k9 k24 k25 k26 k27 k28 k29 k30 k31 k32 k33 k34 k35 k36 k37 k38 k39 k40 k41 k42 k43 k44 k45 : AV, t = [.ptr p 0, x1, x2, x3, .int .i64 (i : Int), .bool true, .int .i64 (s : Int), x7, k8, k9, x10, x11, x12, x13, x14, x15, x16, x17, x18, x19, x20, x21, x22, .int .i64 (ways : Int), k24, k25, k26, k27, k28, k29, k30, k31, k32, k33, k34, k35, k36, k37, k38, k39, k40, k41, k42, k43, k44, k45, x46, x47, x48, x49, x50, x51, x52, x53, x54, x55, x56, x57, x58, x59, x60, x61, x62, x63, x64, x65, x66, x67, x68, x69, x70, x71, x72, x73, x74, x75, x76, x77, x78, x79] := by
  intro k
  obtain ⟨L, hL⟩ : ∃ L, L = LQ l14x0 := ⟨_, rfl⟩
  have lo := loop_open hL
  have hm := m.map
  rw [← hL]
  induction k with
  | zero =>
    intro w j8 j9 j25 j26 j27 j28 j29 j30 j31 j32 j33 j34 j35 j36 j37 j38 j39 j40 j41 j42 j43 j44 j45 hi
    obtain rfl : w = ways := by omega
    have hd : decide ((w : Int) < (w : Int)) = false := by simp
    rw [lo]
    unfold l14x0
    simp -implicitDefEqProofs (maxSteps := 5000000) only [go_sem, Nat.reduceShiftRight, Nat.reduceAnd, Nat.reduceBNe, Int.reduceEq, Nat.reduceAdd, Nat.reduceSub, Nat.reduceMul, Nat.reduceLeDiff, reduceIte, reduceCtorEq, Nat.reduceBEq, Nat.reduceEqDiff, go_sem, hd, seqR_exit', outs_normal, findW]
    exact ⟨_, _, _, _, _, _, _, _, _, _, _, _, _, _, _, _, _, _, _, _, _, _, _, _, rfl⟩
  | succ k ih =>
    intro w j8 j9 j25 j26 j27 j28 j29 j30 j31 j32 j33 j34 j35 j36 j37 j38 j39 j40 j41 j42 j43 j44 j45 hi
    obtain ⟨i1, i2, i3⟩ := m.in hs' (show w < ways by omega)
    have w4 := m.w4
    have hd : decide ((w : Int) < (ways : Int)) = true := decide_eq_true (by omega)
    have e2 : IntKind.i64.wrap ((w : Int) + 1) = ((w + 1 : Nat) : Int) := by rw [wrap64 (by omega) (by omega)]; omega
    have em : IntKind.i64.wrap ((s : Int) * (ways : Int)) = ((s * ways : Nat) : Int) := by rw [← Int.natCast_mul, wrap64 (by omega) (by omega)]
    have ea : IntKind.i64.wrap (((s * ways : Nat) : Int) + (w : Int)) = ((s * ways + w : Nat) : Int) := by rw [wrap64 (by omega) (by omega)]; omega
    have ix := idx_nat bs 3 S.length S.length (s * ways + w) e .i64 (by omega) i1
    have hc := cells_rw m.sl
    have hg := slot_b i1
    have ih := fun j8 j9 j25 j26 j27 j28 j29 j30 j31 j32 j33 j34 j35 j36 j37 j38 j39 j40 j41 j42 j43 j44 j45 => ih (w + 1) j8 j9 j25 j26 j27 j28 j29 j30 j31 j32 j33 j34 j35 j36 j37 j38 j39 j40 j41 j42 j43 j44 j45 (by omega)
    rw [lo]
    unfold l14x0
    by_cases hb : (sl S (s * ways + w)).b = -1
    · have q : ((sl S (s * ways + w)).b == -1) = true := by simp [hb]
      simp -implicitDefEqProofs (maxSteps := 5000000) only [go_sem, Nat.reduceShiftRight, Nat.reduceAnd, Nat.reduceBNe, Int.reduceEq, Nat.reduceAdd, Nat.reduceSub, Nat.reduceMul, Nat.reduceLeDiff, reduceIte, reduceCtorEq, Nat.reduceBEq, Nat.reduceEqDiff, go_sem, hm, hd, e2, em, ea, ix, hc, hg, q, outs_normal, findW, hb]
      exact ⟨_, _, _, _, _, _, _, _, _, _, _, _, _, _, _, _, _, _, _, _, _, _, _, _, rfl⟩
    · have q : ((sl S (s * ways + w)).b == -1) = false := by simp [hb]
      have f : findW S (s * ways) (-1) (k + 1) w = findW S (s * ways) (-1) k (w + 1) := by simp [findW, hb]
      rw [f]
      simp -implicitDefEqProofs (maxSteps := 5000000) only [go_sem, Nat.reduceShiftRight, Nat.reduceAnd, Nat.reduceBNe, Int.reduceEq, Nat.reduceAdd, Nat.reduceSub, Nat.reduceMul, Nat.reduceLeDiff, reduceIte, reduceCtorEq, Nat.reduceBEq, Nat.reduceEqDiff, go_sem, hm, hd, e2, em, ea, ix, hc, hg, q]
      exact ih ..
end
/-- Room for a block: the slots, the hands, the slot. -/
def roomS (sets ways : Nat) (S : List Slot) (hs : List Nat) (blk : Int) : List Slot × List Nat × Option Nat :=
  if blk < 0 then (S, hs, none) else
    match findW S ((blk % sets).toNat * ways) (-1) ways 0 with
    | some i => (S, hs, some i)
    | none =>
      ((clockW ways ((blk % sets).toNat * ways) (2 * ways) S ((hs[(blk % sets).toNat]?).getD 0)).1,
        hs.set (blk % sets).toNat (clockW ways ((blk % sets).toNat * ways) (2 * ways) S ((hs[(blk % sets).toNat]?).getD 0)).2.1,
        (clockW ways ((blk % sets).toNat * ways) (2 * ways) S ((hs[(blk % sets).toNat]?).getD 0)).2.2)
section
variable {H : AHeap} {p bs bh : Nat} {e : Bool} {sets ways : Nat} {S : List Slot} {hs : List Nat} (m : PM H p bs bh e sets ways S hs)
include m
set_option maxHeartbeats 4000000 in
theorem roomC (blk : Int) : ∃ H', PM H' p bs bh e sets ways (roomS sets ways S hs blk).1 (roomS sets ways S hs blk).2.1 ∧ KeepB H H' [bs, bh] ∧ (envL prog).call 14 [.ptr p 0, .int .i64 blk] H = some (optA (roomS sets ways S hs blk).2.2, H') := by
  have hm := m.map
  have c := setC m blk
  have w4 := m.w4
  rw [c14]
  unfold b14
  by_cases h : blk < 0
  · rw [if_pos h, decide_eq_true h] at c
    refine ⟨H, ?_, KeepB.refl _ _, ?_⟩
    · unfold roomS; rw [if_pos h]; exact m
    unfold roomS; rw [if_pos h]
    simp -implicitDefEqProofs (maxSteps := 5000000) only [go_sem, Nat.reduceShiftRight, Nat.reduceAnd, Nat.reduceBNe, Int.reduceEq, Nat.reduceAdd, Nat.reduceSub, Nat.reduceMul, Nat.reduceLeDiff, reduceIte, reduceCtorEq, Nat.reduceBEq, Nat.reduceEqDiff, go_sem, c, optA]
  rw [if_neg h, decide_eq_false h] at c
  obtain ⟨e1, h1⟩ := m.setOf blk h
  rw [e1] at c
  generalize hs1 : (blk % (sets : Int)).toNat = s at *
  have fl := freeL m _ h1 (k := ways) (w := 0)
  have hl : s < hs.length := by have := m.hlen; omega
  have hhs : hs[s]? = some ((hs[s]?).getD 0) := by rw [List.getElem?_eq_getElem hl]; rfl
  have cl := clockL (p := p) (bs := bs) (bh := bh) (e := e) (sets := sets) (ways := ways) s h1 (k := 2 * ways) (w := 0) (H := H) (S := S) (hs := hs) (h := (hs[s]?).getD 0)
  have e2 : IntKind.i64.wrap (2 * (ways : Int)) = ((2 * ways : Nat) : Int) := by rw [wrap64 (by omega) (by omega)]; omega
  rw [show ((0 : Nat) : Int) = 0 from rfl] at fl cl
  generalize hR : roomS sets ways S hs blk = R
  refine ex_outs ?_
  generalize hQ : (fun (e' : Ex) (t : T) (h1 : AHeap) => PM h1 p bs bh e sets ways R.1 R.2.1 ∧ KeepB H h1 [bs, bh] ∧ h1.length = H.length ∧ fin [.tmp 4, .tmp 5] (some (e', t, h1)) = some (optA R.2.2, h1)) = Q
  simp -implicitDefEqProofs (maxSteps := 5000000) only [go_sem, Nat.reduceShiftRight, Nat.reduceAnd, Nat.reduceBNe, Int.reduceEq, Nat.reduceAdd, Nat.reduceSub, Nat.reduceMul, Nat.reduceLeDiff, reduceIte, reduceCtorEq, Nat.reduceBEq, Nat.reduceEqDiff, go_sem, runC_loop, hm, c]
  refine outs_ctx (fun r => seqR (blockR 0 r) _) (fl _ _ _ _ _ _ _ _ _ _ _ _ _ _ _ _ _ _ _ _ _ _ _ _ _ _ _ _ _ _ _ _ _ _ _ _ _ _ _ _ _ _ _ _ _ _ _ _ _ _ _ _ _ _ _ _ _ _ _ _ _ _ _ _ _ _ _ _ _ _ _ _ _ _ (by omega)) ?_
  rintro e' t H' ⟨rfl, hq⟩
  split at hq
  · obtain ⟨rfl, k8, k9, k24, k25, k26, k27, k28, k29, k30, k31, k32, k33, k34, k35, k36, k37, k38, k39, k40, k41, k42, k43, k44, k45, rfl⟩ := hq
    rename_i hf
    simp -implicitDefEqProofs (maxSteps := 5000000) only [go_sem, Nat.reduceShiftRight, Nat.reduceAnd, Nat.reduceBNe, Int.reduceEq, Nat.reduceAdd, Nat.reduceSub, Nat.reduceMul, Nat.reduceLeDiff, reduceIte, reduceCtorEq, Nat.reduceBEq, Nat.reduceEqDiff, go_sem, runC_loop, hm, e2]
    refine outs_ctx (fun r => seqR (blockR 2 r) _) (cl _ _ _ _ _ _ _ _ _ _ _ _ _ _ _ _ _ _ _ _ _ _ _ _ _ _ _ _ _ _ _ _ _ _ _ _ _ _ _ _ _ _ _ _ _ _ _ _ _ _ _ _ _ _ _ _ _ _ _ _ _ _ _ _ _ _ _ _ _ _ _ _ _ _ m hhs (by omega)) ?_
    rintro e' t H'' ⟨q1, q2, hq⟩
    have hR' : R = ((clockW ways (s * ways) (2 * ways) S ((hs[s]?).getD 0)).1, hs.set s (clockW ways (s * ways) (2 * ways) S ((hs[s]?).getD 0)).2.1, (clockW ways (s * ways) (2 * ways) S ((hs[s]?).getD 0)).2.2) := by
      rw [← hR]; unfold roomS; rw [if_neg h, hs1, hf]
    split at hq
    · obtain ⟨rfl, k10, k11, k51, k52, k53, k54, k55, k56, k57, k58, k59, k60, k61, k62, k63, k64, k65, k66, k67, k68, k69, k70, k71, k72, k73, k74, k75, k76, k77, k78, k79, rfl⟩ := hq
      rename_i hf2
      subst hQ
      rw [hR']
      simp -implicitDefEqProofs (maxSteps := 5000000) only [go_sem, Nat.reduceShiftRight, Nat.reduceAnd, Nat.reduceBNe, Int.reduceEq, Nat.reduceAdd, Nat.reduceSub, Nat.reduceMul, Nat.reduceLeDiff, reduceIte, reduceCtorEq, Nat.reduceBEq, Nat.reduceEqDiff, go_sem, outs_normal, hf2, optA]
      exact ⟨q1, q2, q2.1, trivial⟩
    · obtain ⟨rfl, k10, k11, k51, k52, k53, k54, k55, k56, k57, k58, k59, k60, k61, k62, k63, k64, k65, k66, k67, k68, k69, k70, k71, k72, k73, k74, k75, k76, k77, k78, k79, rfl⟩ := hq
      rename_i hf2
      subst hQ
      rw [hR']
      simp -implicitDefEqProofs (maxSteps := 5000000) only [go_sem, Nat.reduceShiftRight, Nat.reduceAnd, Nat.reduceBNe, Int.reduceEq, Nat.reduceAdd, Nat.reduceSub, Nat.reduceMul, Nat.reduceLeDiff, reduceIte, reduceCtorEq, Nat.reduceBEq, Nat.reduceEqDiff, go_sem, outs_normal, hf2, optA]
      exact ⟨q1, q2, q2.1, trivial⟩
  · obtain ⟨rfl, k8, k9, k24, k25, k26, k27, k28, k29, k30, k31, k32, k33, k34, k35, k36, k37, k38, k39, k40, k41, k42, k43, k44, k45, rfl⟩ := hq
    rename_i i hf
    have hR' : R = (S, hs, some i) := by rw [← hR]; unfold roomS; rw [if_neg h, hs1, hf]
    subst hQ
    rw [hR']
    simp -implicitDefEqProofs (maxSteps := 5000000) only [go_sem, Nat.reduceShiftRight, Nat.reduceAnd, Nat.reduceBNe, Int.reduceEq, Nat.reduceAdd, Nat.reduceSub, Nat.reduceMul, Nat.reduceLeDiff, reduceIte, reduceCtorEq, Nat.reduceBEq, Nat.reduceEqDiff, go_sem, outs_normal, optA]
    exact ⟨m, KeepB.refl _ _, trivial⟩
end
end Go.Proofs.Ytodoakeifdiidaa.G13

