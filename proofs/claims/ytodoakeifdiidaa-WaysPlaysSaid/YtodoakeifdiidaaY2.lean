/- What the functions that WaysPlays reaches answer, for every argument. No condition but those in each statement. -/
import Derived.Test.YtodoakeifdiidaaY1
set_option linter.unusedSimpArgs false
set_option linter.unusedVariables false
set_option maxRecDepth 10000
namespace Go.Proofs.Ytodoakeifdiidaa.G13
open Go Go.Proofs.Ytodoakeifdiidaa.Eng
section
variable {p bs bh : Nat} {e : Bool} {sets ways : Nat}
set_option maxHeartbeats 4000000 in
theorem clockRL (s : Nat) (hs' : s < sets) (x1 x2 x3 x6 x7 x10 x11 x12 x13 x14 x15 x16 x17 x18 x19 x20 x21 x22 x23 x24 x25 x26 x27 x28 x29 x30 x31 x32 x33 x34 x35 x36 x37 x38 x39 x40 x41 x42 x43 : AV) (x4 : AV) : ∀ (k w : Nat) (H : AHeap) (S : List Slot) (hs : List Nat) (h : Nat) (j9 j44 j45 j46 j47 j48 j49 j50 j51 j52 j53 j54 j55 j56 j57 j58 j59 j60 j61 j62 j63 j64 j65 j66 j67 j68 j69 j70 j71 j72 j73 j74 j75 j76 j77 j78 j79 j80 j81 j82 j83 j84 j85 j86 j87 j88 j89 j90 j91 j92 j93 j94 j95 j96 j97 j98 j99 j100 j101 j102 j103 j104 j105 j106 j107 j108 j109 j110 j111 j112 j113 j114 j115 j116 j117 j118 : AV), PM H p bs bh e sets ways S hs → hs[s]? = some h → w + k = 2 * ways →
    Outs (LQ l20x1 [.ptr p 0, x1, x2, x3, x4, .int .i64 (s : Int), x6, x7, .int .i64 (w : Int), j9, x10, x11, x12, x13, x14, x15, x16, x17, x18, x19, x20, x21, x22, x23, x24, x25, x26, x27, x28, x29, x30, x31, x32, x33, x34, x35, x36, x37, x38, x39, x40, x41, x42, x43, j44, j45, j46, j47, j48, j49, j50, j51, j52, j53, j54, j55, j56, j57, j58, j59, j60, j61, j62, j63, j64, j65, j66, j67, j68, j69, j70, j71, j72, j73, j74, j75, j76, j77, j78, j79, j80, j81, j82, j83, j84, j85, j86, j87, j88, j89, j90, j91, j92, j93, j94, j95, j96, j97, j98, j99, j100, j101, j102, j103, j104, j105, j106, j107, j108, j109, j110, j111, j112, j113, j114, j115, j116, j117, j118] H) fun e' t H' => PM H' p bs bh e sets ways (clockW ways (s * ways) k S h).1 (hs.set s (clockW ways (s * ways) k S h).2.1) ∧ KeepB H H' [bs, bh] ∧ match (clockW ways (s * ways) k S h).2.2 with
      | none => e' = .exit 2 ∧ ∃ k : Nat → AV, t = [.ptr p 0, x1, x2, x3, x4, .int .i64 (s : Int), x6, x7, (k 8), (k 9), x10, x11, x12, x13, x14, x15, x16, x17, x18, x19, x20, x21, x22, x23, x24, x25, x26, x27, x28, x29, x30, x31, x32, x33, x34, x35, x36, x37, x38, x39, x40, x41, x42, x43, (k 44), (k 45), (k 46), (k 47), (k 48), (k 49), (k 50), (k 51), (k 52), (k 53), (k 54), (k 55), (k 56), (k 57), (k 58), (k 59), (k 60), (k 61), (k 62), (k 63), (k 64), (k 65), (k 66), (k 67), (k 68), (k 69), (k 70), (k 71), (k 72), (k 73), (k 74), (k 75), (k 76), (k 77), (k 78), (k 79), (k 80), (k 81), (k 82), (k 83), (k 84), (k 85), (k 86), (k 87), (k 88), (k 89), (k 90), (k 91), (k 92), (k 93), (k 94), (k 95), (k 96), (k 97), (k 98), (k 99), (k 100), (k 101), (k 102), (k 103), (k 104), (k 105), (k 106), (k 107), (k 108), (k 109), (k 110), (k 111), (k 112), (k 113), (k 114), (k 115), (k 116), (k 117), (k 118)]
      | some i => e' = .ret ∧ ∃ k : Nat → AV, t = [.ptr p 0, x1, x2, x3, .int .i64 (i : Int), .int .i64 (s : Int), x6, x7, (k 8), (k 9), x10, x11, x12, x13, x14, x15, x16, x17, x18, x19, x20, x21, x22, x23, x24, x25, x26, x27, x28, x29, x30, x31, x32, x33, x34, x35, x36, x37, x38, x39, x40, x41, x42, x43, (k 44), (k 45), (k 46), (k 47), (k 48), (k 49), (k 50), (k 51), (k 52), (k 53), (k 54), (k 55), (k 56), (k 57), (k 58), (k 59), (k 60), (k 61), (k 62), (k 63), (k 64), (k 65), (k 66), (k 67), (k 68), (k 69), (k 70), (k 71), (k 72), (k 73), (k 74), (k 75), (k 76), (k 77), (k 78), (k 79), (k 80), (k 81), (k 82), (k 83), (k 84), (k 85), (k 86), (k 87), (k 88), (k 89), (k 90), (k 91), (k 92), (k 93), (k 94), (k 95), (k 96), (k 97), (k 98), (k 99), (k 100), (k 101), (k 102), (k 103), (k 104), (k 105), (k 106), (k 107), (k 108), (k 109), (k 110), (k 111), (k 112), (k 113), (k 114), (k 115), (k 116), (k 117), (k 118)] := by
  intro k
  obtain ⟨L, hL⟩ : ∃ L, L = LQ l20x1 := ⟨_, rfl⟩
  have lo := loop_open hL
  rw [← hL]
  induction k with
  | zero =>
    intro w H S hs h j9 j44 j45 j46 j47 j48 j49 j50 j51 j52 j53 j54 j55 j56 j57 j58 j59 j60 j61 j62 j63 j64 j65 j66 j67 j68 j69 j70 j71 j72 j73 j74 j75 j76 j77 j78 j79 j80 j81 j82 j83 j84 j85 j86 j87 j88 j89 j90 j91 j92 j93 j94 j95 j96 j97 j98 j99 j100 j101 j102 j103 j104 j105 j106 j107 j108 j109 j110 j111 j112 j113 j114 j115 j116 j117 j118 m hh hi
    obtain rfl : w = 2 * ways := by omega
    have hm := m.map
    have w4 := m.w4
    have e8 : IntKind.i64.wrap (2 * (ways : Int)) = ((2 * ways : Nat) : Int) := by rw [wrap64 (by omega) (by omega)]; omega
    have hd : decide (((2 * ways : Nat) : Int) < ((2 * ways : Nat) : Int)) = false := by simp
    rw [lo]
    unfold l20x1
    simp -implicitDefEqProofs (maxSteps := 5000000) only [go_sem, Nat.reduceShiftRight, Nat.reduceAnd, Nat.reduceBNe, Int.reduceEq, Nat.reduceAdd, Nat.reduceSub, Nat.reduceMul, Nat.reduceLeDiff, reduceIte, reduceCtorEq, Nat.reduceBEq, Nat.reduceEqDiff, go_sem, hm, e8, hd, seqR_exit', outs_normal, clockW]
    rw [set_back hh]
    exact ⟨m, KeepB.refl _ _, exF rfl⟩
  | succ k ih =>
    intro w H S hs h j9 j44 j45 j46 j47 j48 j49 j50 j51 j52 j53 j54 j55 j56 j57 j58 j59 j60 j61 j62 j63 j64 j65 j66 j67 j68 j69 j70 j71 j72 j73 j74 j75 j76 j77 j78 j79 j80 j81 j82 j83 j84 j85 j86 j87 j88 j89 j90 j91 j92 j93 j94 j95 j96 j97 j98 j99 j100 j101 j102 j103 j104 j105 j106 j107 j108 j109 j110 j111 j112 j113 j114 j115 j116 j117 j118 m hh hi
    have hm0 := m.map
    have w4 := m.w4
    have w1 := m.w1
    have hl : s < hs.length := (List.getElem?_eq_some_iff.1 hh).1
    have hlt : h < ways := m.hw _ (List.mem_of_getElem? hh)
    obtain ⟨i1, i2, i3⟩ := m.in hs' hlt
    have hd : decide ((w : Int) < ((2 * ways : Nat) : Int)) = true := decide_eq_true (by omega)
    have e8 : IntKind.i64.wrap (2 * (ways : Int)) = ((2 * ways : Nat) : Int) := by rw [wrap64 (by omega) (by omega)]; omega
    have e2 : IntKind.i64.wrap ((w : Int) + 1) = ((w + 1 : Nat) : Int) := by rw [wrap64 (by omega) (by omega)]; omega
    have em : IntKind.i64.wrap ((s : Int) * (ways : Int)) = ((s * ways : Nat) : Int) := by rw [← Int.natCast_mul, wrap64 (by omega) (by omega)]
    have ea : IntKind.i64.wrap (((s * ways : Nat) : Int) + (h : Int)) = ((s * ways + h : Nat) : Int) := by rw [wrap64 (by omega) (by omega)]; omega
    have ew : IntKind.i64.wrap ((h : Int) + 1) = ((h + 1 : Nat) : Int) := by rw [wrap64 (by omega) (by omega)]; omega
    have ixh := idx_nat bh 1 sets sets s true .i64 (by omega) hs'
    rw [Nat.mul_one] at ixh
    have hch := cells_rw m.hd
    have hgh : (hcells hs)[s]? = some (.int .i64 (h : Int)) := by
      obtain ⟨q1, q2⟩ := List.getElem?_eq_some_iff.1 hh
      rw [get_h hl, q2]
    have hr := int_rem .none .i64 ((h + 1 : Nat) : Int) ways (by omega)
    rw [show ((h + 1 : Nat) : Int).tmod (ways : Int) = (((h + 1) % ways : Nat) : Int) from (Int.ofNat_tmod _ _).symm] at hr
    have wh := put_h m.hd hl ((h + 1) % ways)
    have m1 := m.upH (hs' := hs.set s ((h + 1) % ways)) (by simp) (mod_ok m.hw w1 s h)
    have k1 := keepH H bs bh (hs.set s ((h + 1) % ways))
    have hm := m1.map
    have ix := idx_nat bs 3 S.length S.length (s * ways + h) e .i64 (by omega) i1
    have hc := cells_rw m1.sl
    have hg1 := slot_d i1
    have hg2 := slot_m i1
    have hh1 : (hs.set s ((h + 1) % ways))[s]? = some ((h + 1) % ways) := List.getElem?_set_self hl
    rw [lo]
    unfold l20x1
    cases hdd : (sl S (s * ways + h)).d with
    | true =>
      rw [hdd] at hg1
      have f : clockW ways (s * ways) (k + 1) S h = clockW ways (s * ways) k S ((h + 1) % ways) := by simp [clockW, hdd]
      rw [f]
      have ih := fun j9 j44 j45 j46 j47 j48 j49 j50 j51 j52 j53 j54 j55 j56 j57 j58 j59 j60 j61 j62 j63 j64 j65 j66 j67 j68 j69 j70 j71 j72 j73 j74 j75 j76 j77 j78 j79 j80 j81 j82 j83 j84 j85 j86 j87 j88 j89 j90 j91 j92 j93 j94 j95 j96 j97 j98 j99 j100 j101 j102 j103 j104 j105 j106 j107 j108 j109 j110 j111 j112 j113 j114 j115 j116 j117 j118 => ih (w + 1) _ S _ _ j9 j44 j45 j46 j47 j48 j49 j50 j51 j52 j53 j54 j55 j56 j57 j58 j59 j60 j61 j62 j63 j64 j65 j66 j67 j68 j69 j70 j71 j72 j73 j74 j75 j76 j77 j78 j79 j80 j81 j82 j83 j84 j85 j86 j87 j88 j89 j90 j91 j92 j93 j94 j95 j96 j97 j98 j99 j100 j101 j102 j103 j104 j105 j106 j107 j108 j109 j110 j111 j112 j113 j114 j115 j116 j117 j118 m1 hh1 (by omega)
      simp -implicitDefEqProofs (maxSteps := 5000000) only [go_sem, Nat.reduceShiftRight, Nat.reduceAnd, Nat.reduceBNe, Int.reduceEq, Nat.reduceAdd, Nat.reduceSub, Nat.reduceMul, Nat.reduceLeDiff, reduceIte, reduceCtorEq, Nat.reduceBEq, Nat.reduceEqDiff, go_sem, store_one, hm0, hm, hd, e8, e2, em, ea, ew, ixh, hch, hgh, hr, wh, ix, hc, hg1, blockR_exit, seqR_exit']
      refine (ih _ _ _ _ _ _ _ _ _ _ _ _ _ _ _ _ _ _ _ _ _ _ _ _ _ _ _ _ _ _ _ _ _ _ _ _ _ _ _ _ _ _ _ _ _ _ _ _ _ _ _ _ _ _ _ _ _ _ _ _ _ _ _ _ _ _ _ _ _ _ _ _ _ _ _ _).mono ?_
      rintro e' t H' ⟨q1, q2, q3⟩
      rw [List.set_set] at q1
      exact ⟨q1, k1.trans q2, q3⟩
    | false =>
      rw [hdd] at hg1
      cases hmm : (sl S (s * ways + h)).m with
      | true =>
        rw [hmm] at hg2
        have f : clockW ways (s * ways) (k + 1) S h = clockW ways (s * ways) k (S.set (s * ways + h) { sl S (s * ways + h) with m := false }) ((h + 1) % ways) := by simp [clockW, hdd, hmm]
        rw [f]
        have m2 := m1.upS (S' := S.set (s * ways + h) { sl S (s * ways + h) with m := false }) (by simp) (set_ok m.ok _ _ (show -1 ≤ (sl S (s * ways + h)).b from m.ok _ (sl_mem i1)))
        have k2 := k1.trans (keepS _ bs bh (S.set (s * ways + h) { sl S (s * ways + h) with m := false }))
        have ih := fun j9 j44 j45 j46 j47 j48 j49 j50 j51 j52 j53 j54 j55 j56 j57 j58 j59 j60 j61 j62 j63 j64 j65 j66 j67 j68 j69 j70 j71 j72 j73 j74 j75 j76 j77 j78 j79 j80 j81 j82 j83 j84 j85 j86 j87 j88 j89 j90 j91 j92 j93 j94 j95 j96 j97 j98 j99 j100 j101 j102 j103 j104 j105 j106 j107 j108 j109 j110 j111 j112 j113 j114 j115 j116 j117 j118 => ih (w + 1) _ _ _ _ j9 j44 j45 j46 j47 j48 j49 j50 j51 j52 j53 j54 j55 j56 j57 j58 j59 j60 j61 j62 j63 j64 j65 j66 j67 j68 j69 j70 j71 j72 j73 j74 j75 j76 j77 j78 j79 j80 j81 j82 j83 j84 j85 j86 j87 j88 j89 j90 j91 j92 j93 j94 j95 j96 j97 j98 j99 j100 j101 j102 j103 j104 j105 j106 j107 j108 j109 j110 j111 j112 j113 j114 j115 j116 j117 j118 m2 hh1 (by omega)
        have wr := put_m m1.sl i1 false
        simp -implicitDefEqProofs (maxSteps := 5000000) only [go_sem, Nat.reduceShiftRight, Nat.reduceAnd, Nat.reduceBNe, Int.reduceEq, Nat.reduceAdd, Nat.reduceSub, Nat.reduceMul, Nat.reduceLeDiff, reduceIte, reduceCtorEq, Nat.reduceBEq, Nat.reduceEqDiff, go_sem, store_one, hm0, hm, hd, e8, e2, em, ea, ew, ixh, hch, hgh, hr, wh, ix, hc, hg1, hg2, wr, blockR_exit, seqR_exit']
        refine (ih _ _ _ _ _ _ _ _ _ _ _ _ _ _ _ _ _ _ _ _ _ _ _ _ _ _ _ _ _ _ _ _ _ _ _ _ _ _ _ _ _ _ _ _ _ _ _ _ _ _ _ _ _ _ _ _ _ _ _ _ _ _ _ _ _ _ _ _ _ _ _ _ _ _ _ _).mono ?_
        rintro e' t H' ⟨q1, q2, q3⟩
        rw [List.set_set] at q1
        exact ⟨q1, k2.trans q2, q3⟩
      | false =>
        rw [hmm] at hg2
        have f : clockW ways (s * ways) (k + 1) S h = (S.set (s * ways + h) none', (h + 1) % ways, some (s * ways + h)) := by simp [clockW, hdd, hmm]
        rw [f]
        have m2 := m1.upS (S' := S.set (s * ways + h) none') (by simp) (set_ok m.ok _ _ (by decide))
        have k2 := k1.trans (keepS _ bs bh (S.set (s * ways + h) none'))
        have wr : writeN (updH H bh (hs.set s ((h + 1) % ways))) bs ((s * ways + h) * 3) [.int .i64 (-1), .bool false, .bool false] = some (updS (updH H bh (hs.set s ((h + 1) % ways))) bs (S.set (s * ways + h) none')) := put_row m1.sl i1 none'
        simp -implicitDefEqProofs (maxSteps := 5000000) only [go_sem, Nat.reduceShiftRight, Nat.reduceAnd, Nat.reduceBNe, Int.reduceEq, Nat.reduceAdd, Nat.reduceSub, Nat.reduceMul, Nat.reduceLeDiff, reduceIte, reduceCtorEq, Nat.reduceBEq, Nat.reduceEqDiff, go_sem, wrap64, runC_loop, runC_range, callF_fn, callV_fn, callV_yld, yield_eq, yieldBody, yieldRaw, roundMid, roundEnd, rangeEnd, Bool.not_not, put_cons, put_nil, trim_same, at_zero, at_add, set_zero, set_add, store_one, write_zero, write_add, write_head, write_succ, splice_one, splice_more, List.drop_nil, List.take_nil, cell_int, cell_bool, fillS, splice_one, idxA, Ex.isNormal, List.set_nil, List.length_set, List.all_cons, List.all_nil, Bool.and_self, and_self, true_and, and_true, List.getElem?_nil, Int.reduceLT, Int.reduceLE, Int.reduceToNat, Int.toNat_zero, Int.toNat_one, Int.reduceAdd, Int.reduceSub, Int.reduceMul, Int.reduceNeg, Int.reduceBEq, Int.reduceBNe, Int.reduceGE, Int.reduceGT, Nat.reduceLT, trim_keep, under_fn, under_ptr, under_sl, Nat.lt_irrefl, not_lt_add, trim_tail, keepOk, ABlk.vals, Int.cast_ofNat_Int, decide_true, decide_false, List.all_cons, List.all_nil, Nat.zero_mul, Nat.mul_one, Nat.one_mul, hm0, hm, hd, e8, e2, em, ea, ew, ixh, hch, hgh, hr, wh, ix, hc, hg1, hg2, wr, blockR_exit, seqR_exit', outs_normal]
        exact ⟨m2, k2, exF rfl⟩
end
section
variable {H : AHeap} {p bs bh : Nat} {e : Bool} {sets ways : Nat} {S : List Slot} {hs : List Nat} (m : PM H p bs bh e sets ways S hs)
include m
set_option maxHeartbeats 4000000 in
theorem freeRL (s : Nat) (hs' : s < sets) (x1 x2 x3 x8 x9 x10 x11 x12 x13 x14 x15 x16 x17 x44 x45 x46 x47 x48 x49 x50 x51 x52 x53 x54 x55 x56 x57 x58 x59 x60 x61 x62 x63 x64 x65 x66 x67 x68 x69 x70 x71 x72 x73 x74 x75 x76 x77 x78 x79 x80 x81 x82 x83 x84 x85 x86 x87 x88 x89 x90 x91 x92 x93 x94 x95 x96 x97 x98 x99 x100 x101 x102 x103 x104 x105 x106 x107 x108 x109 x110 x111 x112 x113 x114 x115 x116 x117 x118 : AV) (x4 : AV) : ∀ (k w : Nat) (j7 j18 j19 j20 j21 j22 j23 j24 j25 j26 j27 j28 j29 j30 j31 j32 j33 j34 j35 j36 j37 j38 j39 j40 j41 j42 j43 : AV), w + k = ways →
    Outs (LQ l20x0 [.ptr p 0, x1, x2, x3, x4, .int .i64 (s : Int), .int .i64 (w : Int), j7, x8, x9, x10, x11, x12, x13, x14, x15, x16, x17, j18, j19, j20, j21, j22, j23, j24, j25, j26, j27, j28, j29, j30, j31, j32, j33, j34, j35, j36, j37, j38, j39, j40, j41, j42, j43, x44, x45, x46, x47, x48, x49, x50, x51, x52, x53, x54, x55, x56, x57, x58, x59, x60, x61, x62, x63, x64, x65, x66, x67, x68, x69, x70, x71, x72, x73, x74, x75, x76, x77, x78, x79, x80, x81, x82, x83, x84, x85, x86, x87, x88, x89, x90, x91, x92, x93, x94, x95, x96, x97, x98, x99, x100, x101, x102, x103, x104, x105, x106, x107, x108, x109, x110, x111, x112, x113, x114, x115, x116, x117, x118] H) fun e t H' => H' = H ∧ match findW S (s * ways) (-1) k w with
      | none => e = .exit 0 ∧ ∃ k : Nat → AV, t = [.ptr p 0, x1, x2, x3, x4, .int .i64 (s : Int), (k 6), (k 7), x8, x9, x10, x11, x12, x13, x14, x15, x16, x17, (k 18), (k 19), (k 20), (k 21), (k 22), (k 23), (k 24), (k 25), (k 26), (k 27), (k 28), (k 29), (k 30), (k 31), (k 32), (k 33), (k 34), (k 35), (k 36), (k 37), (k 38), (k 39), (k 40), (k 41), (k 42), (k 43), x44, x45, x46, x47, x48, x49, x50, x51, x52, x53, x54, x55, x56, x57, x58, x59, x60, x61, x62, x63, x64, x65, x66, x67, x68, x69, x70, x71, x72, x73, x74, x75, x76, x77, x78, x79, x80, x81, x82, x83, x84, x85, x86, x87, x88, x89, x90, x91, x92, x93, x94, x95, x96, x97, x98, x99, x100, x101, x102, x103, x104, x105, x106, x107, x108, x109, x110, x111, x112, x113, x114, x115, x116, x117, x118]
      | some i => e = .ret ∧ ∃ k : Nat → AV, t = [.ptr p 0, x1, x2, x3, .int .i64 (i : Int), .int .i64 (s : Int), (k 6), (k 7), x8, x9, x10, x11, x12, x13, x14, x15, x16, x17, (k 18), (k 19), (k 20), (k 21), (k 22), (k 23), (k 24), (k 25), (k 26), (k 27), (k 28), (k 29), (k 30), (k 31), (k 32), (k 33), (k 34), (k 35), (k 36), (k 37), (k 38), (k 39), (k 40), (k 41), (k 42), (k 43), x44, x45, x46, x47, x48, x49, x50, x51, x52, x53, x54, x55, x56, x57, x58, x59, x60, x61, x62, x63, x64, x65, x66, x67, x68, x69, x70, x71, x72, x73, x74, x75, x76, x77, x78, x79, x80, x81, x82, x83, x84, x85, x86, x87, x88, x89, x90, x91, x92, x93, x94, x95, x96, x97, x98, x99, x100, x101, x102, x103, x104, x105, x106, x107, x108, x109, x110, x111, x112, x113, x114, x115, x116, x117, x118] := by
  intro k
  obtain ⟨L, hL⟩ : ∃ L, L = LQ l20x0 := ⟨_, rfl⟩
  have lo := loop_open hL
  have hm := m.map
  rw [← hL]
  induction k with
  | zero =>
    intro w j7 j18 j19 j20 j21 j22 j23 j24 j25 j26 j27 j28 j29 j30 j31 j32 j33 j34 j35 j36 j37 j38 j39 j40 j41 j42 j43 hi
    obtain rfl : w = ways := by omega
    have hd : decide ((w : Int) < (w : Int)) = false := by simp
    rw [lo]
    unfold l20x0
    simp -implicitDefEqProofs (maxSteps := 5000000) only [go_sem, Nat.reduceShiftRight, Nat.reduceAnd, Nat.reduceBNe, Int.reduceEq, Nat.reduceAdd, Nat.reduceSub, Nat.reduceMul, Nat.reduceLeDiff, reduceIte, reduceCtorEq, Nat.reduceBEq, Nat.reduceEqDiff, go_sem, hm, hd, seqR_exit', outs_normal, findW]
    exact exF rfl
  | succ k ih =>
    intro w j7 j18 j19 j20 j21 j22 j23 j24 j25 j26 j27 j28 j29 j30 j31 j32 j33 j34 j35 j36 j37 j38 j39 j40 j41 j42 j43 hi
    obtain ⟨i1, i2, i3⟩ := m.in hs' (show w < ways by omega)
    have w4 := m.w4
    have hd : decide ((w : Int) < (ways : Int)) = true := decide_eq_true (by omega)
    have e2 : IntKind.i64.wrap ((w : Int) + 1) = ((w + 1 : Nat) : Int) := by rw [wrap64 (by omega) (by omega)]; omega
    have em : IntKind.i64.wrap ((s : Int) * (ways : Int)) = ((s * ways : Nat) : Int) := by rw [← Int.natCast_mul, wrap64 (by omega) (by omega)]
    have ea : IntKind.i64.wrap (((s * ways : Nat) : Int) + (w : Int)) = ((s * ways + w : Nat) : Int) := by rw [wrap64 (by omega) (by omega)]; omega
    have ix := idx_nat bs 3 S.length S.length (s * ways + w) e .i64 (by omega) i1
    have hc := cells_rw m.sl
    have hg := slot_b i1
    have hok := m.ok _ (sl_mem i1)
    have ih := fun j7 j18 j19 j20 j21 j22 j23 j24 j25 j26 j27 j28 j29 j30 j31 j32 j33 j34 j35 j36 j37 j38 j39 j40 j41 j42 j43 => ih (w + 1) j7 j18 j19 j20 j21 j22 j23 j24 j25 j26 j27 j28 j29 j30 j31 j32 j33 j34 j35 j36 j37 j38 j39 j40 j41 j42 j43 (by omega)
    rw [lo]
    unfold l20x0
    by_cases hb : (sl S (s * ways + w)).b = -1
    · have q : decide ((-1 : Int) < 0) = true := rfl
      rw [hb] at hg
      simp -implicitDefEqProofs (maxSteps := 5000000) only [go_sem, Nat.reduceShiftRight, Nat.reduceAnd, Nat.reduceBNe, Int.reduceEq, Nat.reduceAdd, Nat.reduceSub, Nat.reduceMul, Nat.reduceLeDiff, reduceIte, reduceCtorEq, Nat.reduceBEq, Nat.reduceEqDiff, go_sem, hm, hd, e2, em, ea, ix, hc, hg, q, outs_normal, findW, hb]
      exact exF rfl
    · have q : decide ((sl S (s * ways + w)).b < 0) = false := decide_eq_false (by omega)
      have f : findW S (s * ways) (-1) (k + 1) w = findW S (s * ways) (-1) k (w + 1) := by simp [findW, hb]
      rw [f]
      simp -implicitDefEqProofs (maxSteps := 5000000) only [go_sem, Nat.reduceShiftRight, Nat.reduceAnd, Nat.reduceBNe, Int.reduceEq, Nat.reduceAdd, Nat.reduceSub, Nat.reduceMul, Nat.reduceLeDiff, reduceIte, reduceCtorEq, Nat.reduceBEq, Nat.reduceEqDiff, go_sem, hm, hd, e2, em, ea, ix, hc, hg, q]
      exact ih ..
set_option maxHeartbeats 4000000 in
theorem roomRC (blk : Int) : ∃ H', PM H' p bs bh e sets ways (roomS sets ways S hs blk).1 (roomS sets ways S hs blk).2.1 ∧ KeepB H H' [bs, bh] ∧ (envL prog).call 20 [.ptr p 0, .int .i64 blk] H = some (.int .i64 (optI (roomS sets ways S hs blk).2.2), H') := by
  have hm := m.map
  have w4 := m.w4
  have s1 := m.s1
  rw [c20]
  unfold b20
  by_cases h : blk < 0
  · have d := decide_eq_true h
    refine ⟨H, ?_, KeepB.refl _ _, ?_⟩
    · unfold roomS; rw [if_pos h]; exact m
    unfold roomS; rw [if_pos h]
    simp -implicitDefEqProofs (maxSteps := 5000000) only [go_sem, Nat.reduceShiftRight, Nat.reduceAnd, Nat.reduceBNe, Int.reduceEq, Nat.reduceAdd, Nat.reduceSub, Nat.reduceMul, Nat.reduceLeDiff, reduceIte, reduceCtorEq, Nat.reduceBEq, Nat.reduceEqDiff, go_sem, d, optI]
  have d := decide_eq_false h
  obtain ⟨e1, h1⟩ := m.setOf blk h
  have hrm := int_rem .none .i64 blk sets (by omega)
  rw [e1] at hrm
  generalize hs1 : (blk % (sets : Int)).toNat = s at *
  have fl := freeRL m _ h1 (k := ways) (w := 0)
  have hl : s < hs.length := by have := m.hlen; omega
  have hhs : hs[s]? = some ((hs[s]?).getD 0) := by rw [List.getElem?_eq_getElem hl]; rfl
  have cl := clockRL (p := p) (bs := bs) (bh := bh) (e := e) (sets := sets) (ways := ways) s h1 (k := 2 * ways) (w := 0) (H := H) (S := S) (hs := hs) (h := (hs[s]?).getD 0)
  rw [show ((0 : Nat) : Int) = 0 from rfl] at fl cl
  generalize hR : roomS sets ways S hs blk = R
  refine ex_outs ?_
  generalize hQ : (fun (e' : Ex) (t : T) (h1 : AHeap) => PM h1 p bs bh e sets ways R.1 R.2.1 ∧ KeepB H h1 [bs, bh] ∧ h1.length = H.length ∧ fin [.tmp 4] (some (e', t, h1)) = some (AV.int .i64 (optI R.2.2), h1)) = Q
  simp -implicitDefEqProofs (maxSteps := 5000000) only [go_sem, Nat.reduceShiftRight, Nat.reduceAnd, Nat.reduceBNe, Int.reduceEq, Nat.reduceAdd, Nat.reduceSub, Nat.reduceMul, Nat.reduceLeDiff, reduceIte, reduceCtorEq, Nat.reduceBEq, Nat.reduceEqDiff, go_sem, runC_loop, hm, d, hrm]
  unfold LQ at fl cl
  generalize (envL prog).loop (runC (envL prog) (l20x0 (envL prog))) = L0 at fl ⊢
  refine outs_ctx (fun r => seqR (blockR 0 r) _) (fl _ _ _ _ _ _ _ _ _ _ _ _ _ _ _ _ _ _ _ _ _ _ _ _ _ _ _ _ _ _ _ _ _ _ _ _ _ _ _ _ _ _ _ _ _ _ _ _ _ _ _ _ _ _ _ _ _ _ _ _ _ _ _ _ _ _ _ _ _ _ _ _ _ _ _ _ _ _ _ _ _ _ _ _ _ _ _ _ _ _ _ _ _ _ _ _ _ _ _ _ _ _ _ _ _ _ _ _ _ _ _ _ _ _ _ _ (by omega)) ?_
  rintro e' t H' ⟨rfl, hq⟩
  split at hq
  · obtain ⟨rfl, k, rfl⟩ := hq
    rename_i hf
    simp -implicitDefEqProofs (maxSteps := 5000000) only [go_sem, Nat.reduceShiftRight, Nat.reduceAnd, Nat.reduceBNe, Int.reduceEq, Nat.reduceAdd, Nat.reduceSub, Nat.reduceMul, Nat.reduceLeDiff, reduceIte, reduceCtorEq, Nat.reduceBEq, Nat.reduceEqDiff, go_sem, runC_loop, hm]
    generalize (envL prog).loop (runC (envL prog) (l20x1 (envL prog))) = L1 at cl ⊢
    refine outs_ctx (fun r => seqR (blockR 2 r) _) (cl _ _ _ _ _ _ _ _ _ _ _ _ _ _ _ _ _ _ _ _ _ _ _ _ _ _ _ _ _ _ _ _ _ _ _ _ _ _ _ _ _ _ _ _ _ _ _ _ _ _ _ _ _ _ _ _ _ _ _ _ _ _ _ _ _ _ _ _ _ _ _ _ _ _ _ _ _ _ _ _ _ _ _ _ _ _ _ _ _ _ _ _ _ _ _ _ _ _ _ _ _ _ _ _ _ _ _ _ _ _ _ _ _ _ _ _ m hhs (by omega)) ?_
    rintro e' t H'' ⟨q1, q2, hq⟩
    have hR' : R = ((clockW ways (s * ways) (2 * ways) S ((hs[s]?).getD 0)).1, hs.set s (clockW ways (s * ways) (2 * ways) S ((hs[s]?).getD 0)).2.1, (clockW ways (s * ways) (2 * ways) S ((hs[s]?).getD 0)).2.2) := by
      rw [← hR]; unfold roomS; rw [if_neg h, hs1, hf]
    split at hq
    · obtain ⟨rfl, k, rfl⟩ := hq
      rename_i hf2
      subst hQ
      rw [hR']
      simp -implicitDefEqProofs (maxSteps := 5000000) only [go_sem, Nat.reduceShiftRight, Nat.reduceAnd, Nat.reduceBNe, Int.reduceEq, Nat.reduceAdd, Nat.reduceSub, Nat.reduceMul, Nat.reduceLeDiff, reduceIte, reduceCtorEq, Nat.reduceBEq, Nat.reduceEqDiff, go_sem, outs_normal, hf2, optI]
      exact ⟨q1, q2, q2.1, trivial⟩
    · obtain ⟨rfl, k, rfl⟩ := hq
      rename_i hf2
      subst hQ
      rw [hR']
      simp -implicitDefEqProofs (maxSteps := 5000000) only [go_sem, Nat.reduceShiftRight, Nat.reduceAnd, Nat.reduceBNe, Int.reduceEq, Nat.reduceAdd, Nat.reduceSub, Nat.reduceMul, Nat.reduceLeDiff, reduceIte, reduceCtorEq, Nat.reduceBEq, Nat.reduceEqDiff, go_sem, outs_normal, hf2, optI]
      exact ⟨q1, q2, q2.1, trivial⟩
  · obtain ⟨rfl, k, rfl⟩ := hq
    rename_i i hf
    have hR' : R = (S, hs, some i) := by rw [← hR]; unfold roomS; rw [if_neg h, hs1, hf]
    subst hQ
    rw [hR']
    simp -implicitDefEqProofs (maxSteps := 5000000) only [go_sem, Nat.reduceShiftRight, Nat.reduceAnd, Nat.reduceBNe, Int.reduceEq, Nat.reduceAdd, Nat.reduceSub, Nat.reduceMul, Nat.reduceLeDiff, reduceIte, reduceCtorEq, Nat.reduceBEq, Nat.reduceEqDiff, go_sem, outs_normal, optI]
    exact ⟨m, KeepB.refl _ _, trivial⟩
end
end Go.Proofs.Ytodoakeifdiidaa.G13

