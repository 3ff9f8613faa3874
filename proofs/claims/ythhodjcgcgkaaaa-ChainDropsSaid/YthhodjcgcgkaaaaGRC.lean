/- What the functions that ChainDrops reaches answer, for every argument. No condition but those in each statement. -/
import Derived.Test.YthhodjcgcgkaaaaGRB
set_option linter.unusedSimpArgs false
set_option linter.unusedVariables false
set_option linter.unusedSectionVars false
set_option maxRecDepth 10000
section
namespace Go.Proofs.Ythhodjcgcgkaaaa.G11
open Go Go.Proofs.Ythhodjcgcgkaaaa.Eng
section
variable {K : AHeap} {B : Nat} {w : AV} {ats : List Int} (fs : FS K B w ats) (al : ats.length ≤ 100000) {s : SnS} {q : Nat} {vc vt : AV} (hq : cellsOf K q = some [.int .i64 s.id, vc, vt]) (bc : BS K vc s.ch) (pt : IsP K vt s.tb) (ft : s.Fit)
include fs al hq pt ft
set_option maxHeartbeats 4000000 in
theorem rgooL0 {k0 : Nat} {p : PrS} (hp : s.tb[k0]? = some p) (x0 x1 x2 x3 x4 x5 x8 x12 x13 x14 x15 x16 x17 x18 x19 x20 x21 x22 x23 x24 x25 x26 x27 x28 x29 x30 x31 x32 x33 x34 x35 x36 x37 x38 x39 x40 x41 x42 x43 x44 x45 x46 x47 x48 x49 x50 x51 x52 x53 x54 x55 x56 x57 x58 x59 x60 x61 x62 x63 x64 x65 x66 x67 x68 x69 x70 x71 x72 x73 x74 x75 x76 x77 x78 x79 x80 x81 x82 x100 x101 x102 x103 x104 x105 x106 x107 x108 x109 x110 x111 x112 x113 x114 x115 x116 x117 x118 x119 x120 x121 x122 x123 x124 x125 x126 x127 x128 x129 x130 x131 x132 x133 x134 x135 x136 x137 x138 x139 : AV) : ∀ (k j : Nat) (j83 j84 j85 j86 j87 j88 j89 j90 j91 j92 j93 j94 j95 j96 j97 j98 j99 : AV), j + k = ats.length →
  Outs (LP1 l15x0 [x0, x1, x2, x3, x4, x5, .bool false, w, x8, .ptr q 0, .int .i64 (k0 : Int), .int .i64 (j : Int), x12, x13, x14, x15, x16, x17, x18, x19, x20, x21, x22, x23, x24, x25, x26, x27, x28, x29, x30, x31, x32, x33, x34, x35, x36, x37, x38, x39, x40, x41, x42, x43, x44, x45, x46, x47, x48, x49, x50, x51, x52, x53, x54, x55, x56, x57, x58, x59, x60, x61, x62, x63, x64, x65, x66, x67, x68, x69, x70, x71, x72, x73, x74, x75, x76, x77, x78, x79, x80, x81, x82, j83, j84, j85, j86, j87, j88, j89, j90, j91, j92, j93, j94, j95, j96, j97, j98, j99, x100, x101, x102, x103, x104, x105, x106, x107, x108, x109, x110, x111, x112, x113, x114, x115, x116, x117, x118, x119, x120, x121, x122, x123, x124, x125, x126, x127, x128, x129, x130, x131, x132, x133, x134, x135, x136, x137, x138, x139] K) fun e t K' => K' = K ∧ ∃ fv : Nat → AV, t = [x0, x1, x2, x3, x4, x5, (fv 6), w, x8, .ptr q 0, .int .i64 (k0 : Int), (fv 11), x12, x13, x14, x15, x16, x17, x18, x19, x20, x21, x22, x23, x24, x25, x26, x27, x28, x29, x30, x31, x32, x33, x34, x35, x36, x37, x38, x39, x40, x41, x42, x43, x44, x45, x46, x47, x48, x49, x50, x51, x52, x53, x54, x55, x56, x57, x58, x59, x60, x61, x62, x63, x64, x65, x66, x67, x68, x69, x70, x71, x72, x73, x74, x75, x76, x77, x78, x79, x80, x81, x82, (fv 83), (fv 84), (fv 85), (fv 86), (fv 87), (fv 88), (fv 89), (fv 90), (fv 91), (fv 92), (fv 93), (fv 94), (fv 95), (fv 96), (fv 97), (fv 98), (fv 99), x100, x101, x102, x103, x104, x105, x106, x107, x108, x109, x110, x111, x112, x113, x114, x115, x116, x117, x118, x119, x120, x121, x122, x123, x124, x125, x126, x127, x128, x129, x130, x131, x132, x133, x134, x135, x136, x137, x138, x139] ∧ fv 6 = .bool false ∧ ((e = .exit 4 ∧ (ats.drop j).contains p.2 = false) ∨ (e = .ret ∧ (ats.drop j).contains p.2 = true)) := by
 intro k
 obtain ⟨L0, hL0⟩ : ∃ L, L = LP1 l15x0 := ⟨_, rfl⟩
 have lo := loop_open hL0
 have wl := fs.len
 rw [← hL0]
 induction k with
 | zero =>
  intro j j83 j84 j85 j86 j87 j88 j89 j90 j91 j92 j93 j94 j95 j96 j97 j98 j99 hj
  obtain rfl : j = ats.length := by omega
  have hd : decide ((ats.length : Int) < (ats.length : Int)) = false := by simp
  rw [List.drop_length, lo]
  unfold l15x0
  simp -implicitDefEqProofs (maxSteps := 5000000) only [go_sem, Nat.reduceShiftRight, Nat.reduceAnd, Nat.reduceBNe, Int.reduceEq, Nat.reduceAdd, Nat.reduceSub, Nat.reduceMul, Nat.reduceLeDiff, reduceIte, reduceCtorEq, Nat.reduceBEq, Nat.reduceEqDiff, wl, hd, seqR_exit', outs_normal]
  exact exF2 rfl ⟨rfl, .inl (by first | rfl | trivial)⟩
 | succ k ih =>
  intro j j83 j84 j85 j86 j87 j88 j89 j90 j91 j92 j93 j94 j95 j96 j97 j98 j99 hj
  have hlt : j < ats.length := by omega
  have hd : decide ((j : Int) < (ats.length : Int)) = true := decide_eq_true (by omega)
  have e2 : IntKind.i64.wrap ((j : Int) + 1) = ((j + 1 : Nat) : Int) := by rw [wrap64 (by omega) (by omega)]; omega
  have hx := List.getElem?_eq_getElem hlt
  rw [List.drop_eq_getElem_cons hlt, List.contains_cons]
  generalize ats[j] = a at *
  obtain ⟨b1, c1, _, ix, hc, h1, _⟩ := fs.read hx
  obtain ⟨b2, c2, _, ix2, hc2, _, r2, _, _⟩ := pt.idx hp
  rw [lo]
  unfold l15x0
  by_cases h : a = p.2
  ·have hb : (a == p.2) = true := by simp [h]
   have hb' : (p.2 == a) = true := by simp [h]
   simp -implicitDefEqProofs (maxSteps := 5000000) only [go_sem, Nat.reduceShiftRight, Nat.reduceAnd, Nat.reduceBNe, Int.reduceEq, Nat.reduceAdd, Nat.reduceSub, Nat.reduceMul, Nat.reduceLeDiff, reduceIte, reduceCtorEq, Nat.reduceBEq, Nat.reduceEqDiff, wrap64, runC_loop, runC_range, callF_fn, callV_fn, callV_yld, yield_eq, yieldBody, yieldRaw, roundMid, roundEnd, rangeEnd, Bool.not_not, put_cons, put_nil, trim_same, at_zero, at_add, set_zero, set_add, store_one, write_zero, write_add, write_head, write_succ, splice_one, splice_more, List.drop_nil, List.take_nil, cell_int, cell_bool, fillS, splice_one, idxA, Ex.isNormal, List.set_nil, List.length_set, List.all_cons, List.all_nil, Bool.and_self, and_self, true_and, and_true, List.getElem?_nil, Int.reduceLT, Int.reduceLE, Int.reduceToNat, Int.toNat_zero, Int.toNat_one, Int.reduceAdd, Int.reduceSub, Int.reduceMul, Int.reduceNeg, Int.reduceBEq, Int.reduceBNe, Int.reduceGE, Int.reduceGT, Nat.reduceLT, trim_keep, under_fn, under_ptr, under_sl, Nat.lt_irrefl, not_lt_add, trim_tail, keepOk, ABlk.vals, Int.cast_ofNat_Int, decide_true, decide_false, List.all_cons, List.all_nil, Nat.zero_mul, Nat.mul_one, Nat.one_mul, wl, hd, ix, hc, h1, hq, ix2, hc2, r2, hb, hb', seqR_ret, outs_normal]
   exact exF2 rfl ⟨rfl, .inr (by first | rfl | trivial)⟩
  ·have hb : (a == p.2) = false := by simp [h]
   have hb' : (p.2 == a) = false := by simp [Ne.symm h]
   simp -implicitDefEqProofs (maxSteps := 5000000) only [go_sem, Nat.reduceShiftRight, Nat.reduceAnd, Nat.reduceBNe, Int.reduceEq, Nat.reduceAdd, Nat.reduceSub, Nat.reduceMul, Nat.reduceLeDiff, reduceIte, reduceCtorEq, Nat.reduceBEq, Nat.reduceEqDiff, wrap64, runC_loop, runC_range, callF_fn, callV_fn, callV_yld, yield_eq, yieldBody, yieldRaw, roundMid, roundEnd, rangeEnd, Bool.not_not, put_cons, put_nil, trim_same, at_zero, at_add, set_zero, set_add, store_one, write_zero, write_add, write_head, write_succ, splice_one, splice_more, List.drop_nil, List.take_nil, cell_int, cell_bool, fillS, splice_one, idxA, Ex.isNormal, List.set_nil, List.length_set, List.all_cons, List.all_nil, Bool.and_self, and_self, true_and, and_true, List.getElem?_nil, Int.reduceLT, Int.reduceLE, Int.reduceToNat, Int.toNat_zero, Int.toNat_one, Int.reduceAdd, Int.reduceSub, Int.reduceMul, Int.reduceNeg, Int.reduceBEq, Int.reduceBNe, Int.reduceGE, Int.reduceGT, Nat.reduceLT, trim_keep, under_fn, under_ptr, under_sl, Nat.lt_irrefl, not_lt_add, trim_tail, keepOk, ABlk.vals, Int.cast_ofNat_Int, decide_true, decide_false, List.all_cons, List.all_nil, Nat.zero_mul, Nat.mul_one, Nat.one_mul, wl, hd, ix, hc, h1, hq, ix2, hc2, r2, hb, hb', e2]
   exact ih (j + 1) _ _ _ _ _ _ _ _ _ _ _ _ _ _ _ _ _ (by omega)
include bc
set_option maxHeartbeats 4000000 in
theorem rgooL1 (hb : ∀ p ∈ s.tb, p.1 ≤ 9223372036854775807) (x0 x1 x2 x3 x4 x5 x8 x12 x13 x14 x15 x16 x17 x18 x19 x20 x21 x22 x23 x24 x25 x26 x27 x28 x29 x30 x31 x32 x33 x34 x35 x36 x37 x38 x39 x40 x41 x42 x43 x44 x45 x46 x47 x48 x49 x50 x51 x52 x53 x54 x55 x56 x57 x58 x59 x60 x61 x62 x63 x64 x65 x100 x101 x102 x103 x104 x105 x106 x107 x108 x109 x110 x111 x112 x113 x114 x115 x116 x117 x118 x119 x120 x121 x122 x123 x124 x125 x126 x127 x128 x129 x130 x131 x132 x133 x134 x135 x136 x137 x138 x139 : AV) : ∀ (k i : Nat) (j11 j66 j67 j68 j69 j70 j71 j72 j73 j74 j75 j76 j77 j78 j79 j80 j81 j82 j83 j84 j85 j86 j87 j88 j89 j90 j91 j92 j93 j94 j95 j96 j97 j98 j99 : AV), i + k = s.tb.length →
  Outs (LP1 l15x1 [x0, x1, x2, x3, x4, x5, .bool false, w, x8, .ptr q 0, .int .i64 (i : Int), j11, x12, x13, x14, x15, x16, x17, x18, x19, x20, x21, x22, x23, x24, x25, x26, x27, x28, x29, x30, x31, x32, x33, x34, x35, x36, x37, x38, x39, x40, x41, x42, x43, x44, x45, x46, x47, x48, x49, x50, x51, x52, x53, x54, x55, x56, x57, x58, x59, x60, x61, x62, x63, x64, x65, j66, j67, j68, j69, j70, j71, j72, j73, j74, j75, j76, j77, j78, j79, j80, j81, j82, j83, j84, j85, j86, j87, j88, j89, j90, j91, j92, j93, j94, j95, j96, j97, j98, j99, x100, x101, x102, x103, x104, x105, x106, x107, x108, x109, x110, x111, x112, x113, x114, x115, x116, x117, x118, x119, x120, x121, x122, x123, x124, x125, x126, x127, x128, x129, x130, x131, x132, x133, x134, x135, x136, x137, x138, x139] K) fun e t K' => K' = K ∧ ∃ fv : Nat → AV, t = [x0, x1, x2, x3, x4, x5, (fv 6), w, x8, .ptr q 0, (fv 10), (fv 11), x12, x13, x14, x15, x16, x17, x18, x19, x20, x21, x22, x23, x24, x25, x26, x27, x28, x29, x30, x31, x32, x33, x34, x35, x36, x37, x38, x39, x40, x41, x42, x43, x44, x45, x46, x47, x48, x49, x50, x51, x52, x53, x54, x55, x56, x57, x58, x59, x60, x61, x62, x63, x64, x65, (fv 66), (fv 67), (fv 68), (fv 69), (fv 70), (fv 71), (fv 72), (fv 73), (fv 74), (fv 75), (fv 76), (fv 77), (fv 78), (fv 79), (fv 80), (fv 81), (fv 82), (fv 83), (fv 84), (fv 85), (fv 86), (fv 87), (fv 88), (fv 89), (fv 90), (fv 91), (fv 92), (fv 93), (fv 94), (fv 95), (fv 96), (fv 97), (fv 98), (fv 99), x100, x101, x102, x103, x104, x105, x106, x107, x108, x109, x110, x111, x112, x113, x114, x115, x116, x117, x118, x119, x120, x121, x122, x123, x124, x125, x126, x127, x128, x129, x130, x131, x132, x133, x134, x135, x136, x137, x138, x139] ∧ fv 6 = .bool false ∧ ((e = .exit 2 ∧ (s.tb.drop i).all (fun p => Bt.hasS s.ch p.1 && !ats.contains p.2) = true) ∨ (e = .ret ∧ (s.tb.drop i).all (fun p => Bt.hasS s.ch p.1 && !ats.contains p.2) = false)) := by
 intro k
 obtain ⟨L0, hL0⟩ : ∃ L, L = LP1 l15x1 := ⟨_, rfl⟩
 have lo := loop_open hL0
 have wl := pt.len
 have lt1 := ft.lt
 rw [← hL0]
 induction k with
 | zero =>
  intro i j11 j66 j67 j68 j69 j70 j71 j72 j73 j74 j75 j76 j77 j78 j79 j80 j81 j82 j83 j84 j85 j86 j87 j88 j89 j90 j91 j92 j93 j94 j95 j96 j97 j98 j99 hi
  obtain rfl : i = s.tb.length := by omega
  have hd : decide ((s.tb.length : Int) < (s.tb.length : Int)) = false := by simp
  rw [List.drop_length, lo]
  unfold l15x1
  simp -implicitDefEqProofs (maxSteps := 5000000) only [go_sem, Nat.reduceShiftRight, Nat.reduceAnd, Nat.reduceBNe, Int.reduceEq, Nat.reduceAdd, Nat.reduceSub, Nat.reduceMul, Nat.reduceLeDiff, reduceIte, reduceCtorEq, Nat.reduceBEq, Nat.reduceEqDiff, wrap64, runC_loop, runC_range, callF_fn, callV_fn, callV_yld, yield_eq, yieldBody, yieldRaw, roundMid, roundEnd, rangeEnd, Bool.not_not, put_cons, put_nil, trim_same, at_zero, at_add, set_zero, set_add, store_one, write_zero, write_add, write_head, write_succ, splice_one, splice_more, List.drop_nil, List.take_nil, cell_int, cell_bool, fillS, splice_one, idxA, Ex.isNormal, List.set_nil, List.length_set, List.all_cons, List.all_nil, Bool.and_self, and_self, true_and, and_true, List.getElem?_nil, Int.reduceLT, Int.reduceLE, Int.reduceToNat, Int.toNat_zero, Int.toNat_one, Int.reduceAdd, Int.reduceSub, Int.reduceMul, Int.reduceNeg, Int.reduceBEq, Int.reduceBNe, Int.reduceGE, Int.reduceGT, Nat.reduceLT, trim_keep, under_fn, under_ptr, under_sl, Nat.lt_irrefl, not_lt_add, trim_tail, keepOk, ABlk.vals, Int.cast_ofNat_Int, decide_true, decide_false, List.all_cons, List.all_nil, Nat.zero_mul, Nat.mul_one, Nat.one_mul, hq, wl, hd, seqR_exit', outs_normal]
  exact exF2 rfl ⟨rfl, .inl (by first | rfl | trivial)⟩
 | succ k ih =>
  intro i j11 j66 j67 j68 j69 j70 j71 j72 j73 j74 j75 j76 j77 j78 j79 j80 j81 j82 j83 j84 j85 j86 j87 j88 j89 j90 j91 j92 j93 j94 j95 j96 j97 j98 j99 hi
  have hlt : i < s.tb.length := by omega
  have hd : decide ((i : Int) < (s.tb.length : Int)) = true := decide_eq_true (by omega)
  have e2 : IntKind.i64.wrap ((i : Int) + 1) = ((i + 1 : Nat) : Int) := by rw [wrap64 (by omega) (by omega)]; omega
  have hx := List.getElem?_eq_getElem hlt
  have hpb := hb _ (List.getElem_mem hlt)
  rw [List.drop_eq_getElem_cons hlt, List.all_cons]
  generalize s.tb[i] = p at *
  obtain ⟨b2, c2, _, ix2, hc2, r1, r2, _, _⟩ := pt.idx hx
  have eh := Bt.hasR bc p.1 hpb
  have l0 := rgooL0 fs al hq pt ft hx (k := ats.length) (j := 0)
  rw [show ((0 : Nat) : Int) = 0 from rfl, List.drop_zero] at l0
  rw [lo]
  unfold l15x1
  rcases hh : Bt.hasS s.ch p.1 with _ | _ <;> rw [hh] at eh
  ·simp -implicitDefEqProofs (maxSteps := 5000000) only [go_sem, Nat.reduceShiftRight, Nat.reduceAnd, Nat.reduceBNe, Int.reduceEq, Nat.reduceAdd, Nat.reduceSub, Nat.reduceMul, Nat.reduceLeDiff, reduceIte, reduceCtorEq, Nat.reduceBEq, Nat.reduceEqDiff, wrap64, runC_loop, runC_range, callF_fn, callV_fn, callV_yld, yield_eq, yieldBody, yieldRaw, roundMid, roundEnd, rangeEnd, Bool.not_not, put_cons, put_nil, trim_same, at_zero, at_add, set_zero, set_add, store_one, write_zero, write_add, write_head, write_succ, splice_one, splice_more, List.drop_nil, List.take_nil, cell_int, cell_bool, fillS, splice_one, idxA, Ex.isNormal, List.set_nil, List.length_set, List.all_cons, List.all_nil, Bool.and_self, and_self, true_and, and_true, List.getElem?_nil, Int.reduceLT, Int.reduceLE, Int.reduceToNat, Int.toNat_zero, Int.toNat_one, Int.reduceAdd, Int.reduceSub, Int.reduceMul, Int.reduceNeg, Int.reduceBEq, Int.reduceBNe, Int.reduceGE, Int.reduceGT, Nat.reduceLT, trim_keep, under_fn, under_ptr, under_sl, Nat.lt_irrefl, not_lt_add, trim_tail, keepOk, ABlk.vals, Int.cast_ofNat_Int, decide_true, decide_false, List.all_cons, List.all_nil, Nat.zero_mul, Nat.mul_one, Nat.one_mul, hq, wl, hd, ix2, hc2, r1, eh, seqR_ret, outs_normal]
   exact exF2 rfl ⟨rfl, .inr (by first | rfl | trivial)⟩
  ·simp -implicitDefEqProofs (maxSteps := 5000000) only [go_sem, Nat.reduceShiftRight, Nat.reduceAnd, Nat.reduceBNe, Int.reduceEq, Nat.reduceAdd, Nat.reduceSub, Nat.reduceMul, Nat.reduceLeDiff, reduceIte, reduceCtorEq, Nat.reduceBEq, Nat.reduceEqDiff, wrap64, runC_loop, runC_range, callF_fn, callV_fn, callV_yld, yield_eq, yieldBody, yieldRaw, roundMid, roundEnd, rangeEnd, Bool.not_not, put_cons, put_nil, trim_same, at_zero, at_add, set_zero, set_add, store_one, write_zero, write_add, write_head, write_succ, splice_one, splice_more, List.drop_nil, List.take_nil, cell_int, cell_bool, fillS, splice_one, idxA, Ex.isNormal, List.set_nil, List.length_set, List.all_cons, List.all_nil, Bool.and_self, and_self, true_and, and_true, List.getElem?_nil, Int.reduceLT, Int.reduceLE, Int.reduceToNat, Int.toNat_zero, Int.toNat_one, Int.reduceAdd, Int.reduceSub, Int.reduceMul, Int.reduceNeg, Int.reduceBEq, Int.reduceBNe, Int.reduceGE, Int.reduceGT, Nat.reduceLT, trim_keep, under_fn, under_ptr, under_sl, Nat.lt_irrefl, not_lt_add, trim_tail, keepOk, ABlk.vals, Int.cast_ofNat_Int, decide_true, decide_false, List.all_cons, List.all_nil, Nat.zero_mul, Nat.mul_one, Nat.one_mul, runC_loop, hq, wl, hd, ix2, hc2, r1, eh]
   unfold LP1 at l0
   generalize (envL prog).loop (runC (envL prog) (l15x0 (envL prog))) = LL at l0 ⊢
   refine outs_ctx (fun r => seqR (seqR (blockR 3 (blockR 4 r)) _) _) (l0 _ _ _ _ _ _ _ _ _ _ _ _ _ _ _ _ _ _ _ _ _ _ _ _ _ _ _ _ _ _ _ _ _ _ _ _ _ _ _ _ _ _ _ _ _ _ _ _ _ _ _ _ _ _ _ _ _ _ _ _ _ _ _ _ _ _ _ _ _ _ _ _ _ _ _ _ _ _ _ _ _ _ _ _ _ _ _ _ _ _ _ _ _ _ _ _ _ _ _ _ _ _ _ _ _ _ _ _ _ _ _ _ _ _ _ _ _ _ _ _ _ _ _ _ _ _ _ _ _ _ _ _ _ _ _ (by omega)) ?_
   rintro e t K' ⟨rfl, fv, rfl, f6, ⟨rfl, ho⟩ | ⟨rfl, ho⟩⟩
   ·rw [ho]
    simp -implicitDefEqProofs (maxSteps := 5000000) only [go_sem, Nat.reduceShiftRight, Nat.reduceAnd, Nat.reduceBNe, Int.reduceEq, Nat.reduceAdd, Nat.reduceSub, Nat.reduceMul, Nat.reduceLeDiff, reduceIte, reduceCtorEq, Nat.reduceBEq, Nat.reduceEqDiff, wrap64, runC_loop, runC_range, callF_fn, callV_fn, callV_yld, yield_eq, yieldBody, yieldRaw, roundMid, roundEnd, rangeEnd, Bool.not_not, put_cons, put_nil, trim_same, at_zero, at_add, set_zero, set_add, store_one, write_zero, write_add, write_head, write_succ, splice_one, splice_more, List.drop_nil, List.take_nil, cell_int, cell_bool, fillS, splice_one, idxA, Ex.isNormal, List.set_nil, List.length_set, List.all_cons, List.all_nil, Bool.and_self, and_self, true_and, and_true, List.getElem?_nil, Int.reduceLT, Int.reduceLE, Int.reduceToNat, Int.toNat_zero, Int.toNat_one, Int.reduceAdd, Int.reduceSub, Int.reduceMul, Int.reduceNeg, Int.reduceBEq, Int.reduceBNe, Int.reduceGE, Int.reduceGT, Nat.reduceLT, trim_keep, under_fn, under_ptr, under_sl, Nat.lt_irrefl, not_lt_add, trim_tail, keepOk, ABlk.vals, Int.cast_ofNat_Int, decide_true, decide_false, List.all_cons, List.all_nil, Nat.zero_mul, Nat.mul_one, Nat.one_mul, f6, e2]
    exact ih (i + 1) _ _ _ _ _ _ _ _ _ _ _ _ _ _ _ _ _ _ _ _ _ _ _ _ _ _ _ _ _ _ _ _ _ _ _ (by omega)
   ·rw [ho]
    simp -implicitDefEqProofs (maxSteps := 5000000) only [go_sem, Nat.reduceShiftRight, Nat.reduceAnd, Nat.reduceBNe, Int.reduceEq, Nat.reduceAdd, Nat.reduceSub, Nat.reduceMul, Nat.reduceLeDiff, reduceIte, reduceCtorEq, Nat.reduceBEq, Nat.reduceEqDiff, wrap64, runC_loop, runC_range, callF_fn, callV_fn, callV_yld, yield_eq, yieldBody, yieldRaw, roundMid, roundEnd, rangeEnd, Bool.not_not, put_cons, put_nil, trim_same, at_zero, at_add, set_zero, set_add, store_one, write_zero, write_add, write_head, write_succ, splice_one, splice_more, List.drop_nil, List.take_nil, cell_int, cell_bool, fillS, splice_one, idxA, Ex.isNormal, List.set_nil, List.length_set, List.all_cons, List.all_nil, Bool.and_self, and_self, true_and, and_true, List.getElem?_nil, Int.reduceLT, Int.reduceLE, Int.reduceToNat, Int.toNat_zero, Int.toNat_one, Int.reduceAdd, Int.reduceSub, Int.reduceMul, Int.reduceNeg, Int.reduceBEq, Int.reduceBNe, Int.reduceGE, Int.reduceGT, Nat.reduceLT, trim_keep, under_fn, under_ptr, under_sl, Nat.lt_irrefl, not_lt_add, trim_tail, keepOk, ABlk.vals, Int.cast_ofNat_Int, decide_true, decide_false, List.all_cons, List.all_nil, Nat.zero_mul, Nat.mul_one, Nat.one_mul, seqR_ret, outs_normal]
    exact exF2 rfl ⟨f6, .inr (by first | rfl | trivial)⟩
end
section
variable {H : AHeap} {s : SnS} {q : Nat} {vc vt : AV} (pt : IsP H vt s.tb) (ft : s.Fit)
include pt ft
set_option maxHeartbeats 4000000 in
theorem rgooL2 (x0 x1 x2 x3 x4 x5 x6 x8 x10 x11 x13 x14 x15 x16 x17 x18 x19 x20 x21 x22 x23 x24 x25 x26 x27 x28 x29 x30 x31 x32 x33 x34 x35 x36 x37 x38 x39 x40 x41 x42 x43 x44 x45 x46 x47 x48 x49 x50 x51 x52 x53 x54 x55 x56 x57 x58 x59 x60 x61 x62 x63 x64 x65 x66 x67 x68 x69 x70 x71 x72 x73 x74 x75 x76 x77 x78 x79 x80 x81 x82 x83 x84 x85 x86 x87 x88 x89 x90 x91 x92 x93 x94 x95 x96 x97 x98 x99 x116 x117 x118 x119 x120 x121 x122 x123 x124 x125 x126 x127 x128 x129 x130 x131 x132 x133 x134 x135 x136 x137 x138 x139 : AV) : ∀ (k i : Nat) (K : AHeap) (w : AV) (ats : List Int) (j100 j101 j102 j103 j104 j105 j106 j107 j108 j109 j110 j111 j112 j113 j114 j115 : AV), Adds H K → FS K H.length w ats → cellsOf K q = some [.int .i64 s.id, vc, vt] → (∀ b, slb w = some b → b ≠ q) → ats.length ≤ 100000 + i → i + k = s.tb.length →
  Outs (LP1 l15x2 [x0, x1, x2, x3, x4, x5, x6, w, x8, .ptr q 0, x10, x11, .int .i64 (i : Int), x13, x14, x15, x16, x17, x18, x19, x20, x21, x22, x23, x24, x25, x26, x27, x28, x29, x30, x31, x32, x33, x34, x35, x36, x37, x38, x39, x40, x41, x42, x43, x44, x45, x46, x47, x48, x49, x50, x51, x52, x53, x54, x55, x56, x57, x58, x59, x60, x61, x62, x63, x64, x65, x66, x67, x68, x69, x70, x71, x72, x73, x74, x75, x76, x77, x78, x79, x80, x81, x82, x83, x84, x85, x86, x87, x88, x89, x90, x91, x92, x93, x94, x95, x96, x97, x98, x99, j100, j101, j102, j103, j104, j105, j106, j107, j108, j109, j110, j111, j112, j113, j114, j115, x116, x117, x118, x119, x120, x121, x122, x123, x124, x125, x126, x127, x128, x129, x130, x131, x132, x133, x134, x135, x136, x137, x138, x139] K) fun e t K' => e = .exit 6 ∧ Adds H K' ∧ cellsOf K' q = some [.int .i64 s.id, vc, vt] ∧ ∃ fv : Nat → AV, t = [x0, x1, x2, x3, x4, x5, x6, (fv 7), x8, .ptr q 0, x10, x11, (fv 12), x13, x14, x15, x16, x17, x18, x19, x20, x21, x22, x23, x24, x25, x26, x27, x28, x29, x30, x31, x32, x33, x34, x35, x36, x37, x38, x39, x40, x41, x42, x43, x44, x45, x46, x47, x48, x49, x50, x51, x52, x53, x54, x55, x56, x57, x58, x59, x60, x61, x62, x63, x64, x65, x66, x67, x68, x69, x70, x71, x72, x73, x74, x75, x76, x77, x78, x79, x80, x81, x82, x83, x84, x85, x86, x87, x88, x89, x90, x91, x92, x93, x94, x95, x96, x97, x98, x99, (fv 100), (fv 101), (fv 102), (fv 103), (fv 104), (fv 105), (fv 106), (fv 107), (fv 108), (fv 109), (fv 110), (fv 111), (fv 112), (fv 113), (fv 114), (fv 115), x116, x117, x118, x119, x120, x121, x122, x123, x124, x125, x126, x127, x128, x129, x130, x131, x132, x133, x134, x135, x136, x137, x138, x139] ∧ FS K' H.length (fv 7) (ats ++ (s.tb.drop i).map (·.2)) := by
 intro k
 obtain ⟨L0, hL0⟩ : ∃ L, L = LP1 l15x2 := ⟨_, rfl⟩
 have lo := loop_open hL0
 have wl := pt.len
 have lt1 := ft.lt
 rw [← hL0]
 induction k with
 | zero =>
  intro i K w ats j100 j101 j102 j103 j104 j105 j106 j107 j108 j109 j110 j111 j112 j113 j114 j115 aK fs hq hne al hi
  obtain rfl : i = s.tb.length := by omega
  have hd : decide ((s.tb.length : Int) < (s.tb.length : Int)) = false := by simp
  rw [List.drop_length, lo]
  unfold l15x2
  simp -implicitDefEqProofs (maxSteps := 5000000) only [go_sem, Nat.reduceShiftRight, Nat.reduceAnd, Nat.reduceBNe, Int.reduceEq, Nat.reduceAdd, Nat.reduceSub, Nat.reduceMul, Nat.reduceLeDiff, reduceIte, reduceCtorEq, Nat.reduceBEq, Nat.reduceEqDiff, wrap64, runC_loop, runC_range, callF_fn, callV_fn, callV_yld, yield_eq, yieldBody, yieldRaw, roundMid, roundEnd, rangeEnd, Bool.not_not, put_cons, put_nil, trim_same, at_zero, at_add, set_zero, set_add, store_one, write_zero, write_add, write_head, write_succ, splice_one, splice_more, List.drop_nil, List.take_nil, cell_int, cell_bool, fillS, splice_one, idxA, Ex.isNormal, List.set_nil, List.length_set, List.all_cons, List.all_nil, Bool.and_self, and_self, true_and, and_true, List.getElem?_nil, Int.reduceLT, Int.reduceLE, Int.reduceToNat, Int.toNat_zero, Int.toNat_one, Int.reduceAdd, Int.reduceSub, Int.reduceMul, Int.reduceNeg, Int.reduceBEq, Int.reduceBNe, Int.reduceGE, Int.reduceGT, Nat.reduceLT, trim_keep, under_fn, under_ptr, under_sl, Nat.lt_irrefl, not_lt_add, trim_tail, keepOk, ABlk.vals, Int.cast_ofNat_Int, decide_true, decide_false, List.all_cons, List.all_nil, Nat.zero_mul, Nat.mul_one, Nat.one_mul, hq, wl, hd, seqR_exit', outs_normal]
  exact ⟨aK, exF2 rfl fs⟩
 | succ k ih =>
  intro i K w ats j100 j101 j102 j103 j104 j105 j106 j107 j108 j109 j110 j111 j112 j113 j114 j115 aK fs hq hne al hi
  have hlt : i < s.tb.length := by omega
  have hd : decide ((i : Int) < (s.tb.length : Int)) = true := decide_eq_true (by omega)
  have e2 : IntKind.i64.wrap ((i : Int) + 1) = ((i + 1 : Nat) : Int) := by rw [wrap64 (by omega) (by omega)]; omega
  have hx := List.getElem?_eq_getElem hlt
  rw [List.drop_eq_getElem_cons hlt, List.map_cons]
  generalize s.tb[i] = p at *
  obtain ⟨b2, c2, _, ix2, hc0, r1, r2, _, _⟩ := pt.idx hx
  have hc2 := aK.cells hc0
  obtain ⟨K2, hK2⟩ : ∃ K2, K2 = K ++ [ABlk.rw [.int .i64 p.2]] := ⟨_, rfl⟩
  have A2 : Adds K K2 := ⟨_, hK2⟩
  have cs2 : cellsOf K2 K.length = some [.int .i64 p.2] := by rw [hK2]; unfold cellsOf; simp
  obtain ⟨w', K3, ep, f3, fr3, sb3, l3⟩ := FS.push (fs.frT (Fr.adds A2 (fun _ => False)) fun _ _ h => h) cs2 (by omega) (by have := aK.len; have := A2.len; omega)
  have a3 : Adds H K3 := fr3.old (aK.trans A2) fun b hb h => by have := (FS.out fs b h).1; omega
  have q3 : cellsOf K3 q = some [.int .i64 s.id, vc, vt] := fr3.cells (A2.cells hq) fun h => hne q h rfl
  have hK2 := hK2.symm
  have key := ih (i + 1) K3 w' (ats ++ [p.2])
  rw [List.append_assoc, List.singleton_append] at key
  have lq : q < K.length := lt_of_cells hq
  rw [lo]
  unfold l15x2
  simp -implicitDefEqProofs (maxSteps := 5000000) only [go_sem, Nat.reduceShiftRight, Nat.reduceAnd, Nat.reduceBNe, Int.reduceEq, Nat.reduceAdd, Nat.reduceSub, Nat.reduceMul, Nat.reduceLeDiff, reduceIte, reduceCtorEq, Nat.reduceBEq, Nat.reduceEqDiff, wrap64, runC_loop, runC_range, callF_fn, callV_fn, callV_yld, yield_eq, yieldBody, yieldRaw, roundMid, roundEnd, rangeEnd, Bool.not_not, put_cons, put_nil, trim_same, at_zero, at_add, set_zero, set_add, store_one, write_zero, write_add, write_head, write_succ, splice_one, splice_more, List.drop_nil, List.take_nil, cell_int, cell_bool, fillS, splice_one, idxA, Ex.isNormal, List.set_nil, List.length_set, List.all_cons, List.all_nil, Bool.and_self, and_self, true_and, and_true, List.getElem?_nil, Int.reduceLT, Int.reduceLE, Int.reduceToNat, Int.toNat_zero, Int.toNat_one, Int.reduceAdd, Int.reduceSub, Int.reduceMul, Int.reduceNeg, Int.reduceBEq, Int.reduceBNe, Int.reduceGE, Int.reduceGT, Nat.reduceLT, trim_keep, under_fn, under_ptr, under_sl, Nat.lt_irrefl, not_lt_add, trim_tail, keepOk, ABlk.vals, Int.cast_ofNat_Int, decide_true, decide_false, List.all_cons, List.all_nil, Nat.zero_mul, Nat.mul_one, Nat.one_mul, hq, wl, hd, ix2, hc2, r2, hK2, ep, e2]
  exact key _ _ _ _ _ _ _ _ _ _ _ _ _ _ _ _ a3 f3 q3 (fun b h => by rw [sb3] at h; injection h with h; have := A2.len; omega) (by rw [List.length_append, List.length_singleton]; omega) (by omega)
end
section
variable {K : AHeap} {v : AV} {n i0 : Nat} (wv : lenSl v = some (.int .i64 (n : Int))) (hn : n ≤ 1000) (hi0 : i0 < n) {cl : AV} {cs : List Int} (hcl : IS K cl cs) (cn : cs.length ≤ 100000) {s : SnS} {q : Nat} {vc vt : AV} (hq : cellsOf K q = some [.int .i64 s.id, vc, vt]) (pt : IsP K vt s.tb) (ft : s.Fit)
include wv hn hi0 hcl cn hq pt ft
set_option maxHeartbeats 4000000 in
theorem rgooL3 (x1 x2 x3 x4 x5 x7 x10 x11 x12 x15 x16 x17 x18 x19 x20 x21 x22 x23 x24 x25 x26 x27 x28 x29 x30 x31 x32 x33 x34 x35 x36 x37 x38 x39 x40 x41 x42 x43 x44 x45 x46 x47 x48 x49 x50 x51 x52 x53 x54 x55 x56 x57 x58 x59 x60 x61 x62 x63 x64 x65 x66 x67 x68 x69 x70 x71 x72 x73 x74 x75 x76 x77 x78 x79 x80 x81 x82 x83 x84 x85 x86 x87 x88 x89 x90 x91 x92 x93 x94 x95 x96 x97 x98 x99 x100 x101 x102 x103 x104 x105 x106 x107 x108 x109 x110 x111 x112 x113 x114 x115 x116 x117 x118 : AV) : ∀ (k j : Nat) (j119 j120 j121 j122 j123 j124 j125 j126 j127 j128 j129 j130 j131 j132 j133 j134 j135 j136 j137 j138 j139 : AV), j + k = cs.length →
  Outs (LP1 l15x3 [v, x1, x2, x3, x4, x5, .bool false, x7, .int .i64 (i0 : Int), .ptr q 0, x10, x11, x12, cl, .int .i64 (j : Int), x15, x16, x17, x18, x19, x20, x21, x22, x23, x24, x25, x26, x27, x28, x29, x30, x31, x32, x33, x34, x35, x36, x37, x38, x39, x40, x41, x42, x43, x44, x45, x46, x47, x48, x49, x50, x51, x52, x53, x54, x55, x56, x57, x58, x59, x60, x61, x62, x63, x64, x65, x66, x67, x68, x69, x70, x71, x72, x73, x74, x75, x76, x77, x78, x79, x80, x81, x82, x83, x84, x85, x86, x87, x88, x89, x90, x91, x92, x93, x94, x95, x96, x97, x98, x99, x100, x101, x102, x103, x104, x105, x106, x107, x108, x109, x110, x111, x112, x113, x114, x115, x116, x117, x118, j119, j120, j121, j122, j123, j124, j125, j126, j127, j128, j129, j130, j131, j132, j133, j134, j135, j136, j137, j138, j139] K) fun e t K' => K' = K ∧ ∃ fv : Nat → AV, t = [v, x1, x2, x3, x4, x5, (fv 6), x7, .int .i64 (i0 : Int), .ptr q 0, x10, x11, x12, cl, (fv 14), x15, x16, x17, x18, x19, x20, x21, x22, x23, x24, x25, x26, x27, x28, x29, x30, x31, x32, x33, x34, x35, x36, x37, x38, x39, x40, x41, x42, x43, x44, x45, x46, x47, x48, x49, x50, x51, x52, x53, x54, x55, x56, x57, x58, x59, x60, x61, x62, x63, x64, x65, x66, x67, x68, x69, x70, x71, x72, x73, x74, x75, x76, x77, x78, x79, x80, x81, x82, x83, x84, x85, x86, x87, x88, x89, x90, x91, x92, x93, x94, x95, x96, x97, x98, x99, x100, x101, x102, x103, x104, x105, x106, x107, x108, x109, x110, x111, x112, x113, x114, x115, x116, x117, x118, (fv 119), (fv 120), (fv 121), (fv 122), (fv 123), (fv 124), (fv 125), (fv 126), (fv 127), (fv 128), (fv 129), (fv 130), (fv 131), (fv 132), (fv 133), (fv 134), (fv 135), (fv 136), (fv 137), (fv 138), (fv 139)] ∧ fv 6 = .bool false ∧ ((e = .exit 8 ∧ (decide (n ≤ i0 + 1) || (cs.drop j).all (fun c => decide (0 ≤ idxS s.tb c))) = true) ∨ (e = .ret ∧ (decide (n ≤ i0 + 1) || (cs.drop j).all (fun c => decide (0 ≤ idxS s.tb c))) = false)) := by
 intro k
 obtain ⟨L0, hL0⟩ : ∃ L, L = LP1 l15x3 := ⟨_, rfl⟩
 have lo := loop_open hL0
 have wl := hcl.len
 have lt1 := ft.lt
 have e1 : IntKind.i64.wrap ((i0 : Int) + 1) = ((i0 + 1 : Nat) : Int) := by rw [wrap64 (by omega) (by omega)]; omega
 rw [← hL0]
 induction k with
 | zero =>
  intro j j119 j120 j121 j122 j123 j124 j125 j126 j127 j128 j129 j130 j131 j132 j133 j134 j135 j136 j137 j138 j139 hj
  obtain rfl : j = cs.length := by omega
  have hd : decide ((cs.length : Int) < (cs.length : Int)) = false := by simp
  rw [List.drop_length, List.all_nil, Bool.or_true, lo]
  unfold l15x3
  simp -implicitDefEqProofs (maxSteps := 5000000) only [go_sem, Nat.reduceShiftRight, Nat.reduceAnd, Nat.reduceBNe, Int.reduceEq, Nat.reduceAdd, Nat.reduceSub, Nat.reduceMul, Nat.reduceLeDiff, reduceIte, reduceCtorEq, Nat.reduceBEq, Nat.reduceEqDiff, wrap64, runC_loop, runC_range, callF_fn, callV_fn, callV_yld, yield_eq, yieldBody, yieldRaw, roundMid, roundEnd, rangeEnd, Bool.not_not, put_cons, put_nil, trim_same, at_zero, at_add, set_zero, set_add, store_one, write_zero, write_add, write_head, write_succ, splice_one, splice_more, List.drop_nil, List.take_nil, cell_int, cell_bool, fillS, splice_one, idxA, Ex.isNormal, List.set_nil, List.length_set, List.all_cons, List.all_nil, Bool.and_self, and_self, true_and, and_true, List.getElem?_nil, Int.reduceLT, Int.reduceLE, Int.reduceToNat, Int.toNat_zero, Int.toNat_one, Int.reduceAdd, Int.reduceSub, Int.reduceMul, Int.reduceNeg, Int.reduceBEq, Int.reduceBNe, Int.reduceGE, Int.reduceGT, Nat.reduceLT, trim_keep, under_fn, under_ptr, under_sl, Nat.lt_irrefl, not_lt_add, trim_tail, keepOk, ABlk.vals, Int.cast_ofNat_Int, decide_true, decide_false, List.all_cons, List.all_nil, Nat.zero_mul, Nat.mul_one, Nat.one_mul, wl, hd, seqR_exit', outs_normal]
  exact exF2 rfl ⟨rfl, .inl (by first | rfl | trivial)⟩
 | succ k ih =>
  intro j j119 j120 j121 j122 j123 j124 j125 j126 j127 j128 j129 j130 j131 j132 j133 j134 j135 j136 j137 j138 j139 hj
  have hlt : j < cs.length := by omega
  have hd : decide ((j : Int) < (cs.length : Int)) = true := decide_eq_true (by omega)
  have e2 : IntKind.i64.wrap ((j : Int) + 1) = ((j + 1 : Nat) : Int) := by rw [wrap64 (by omega) (by omega)]; omega
  have hx := List.getElem?_eq_getElem hlt
  rw [lo]
  unfold l15x3
  by_cases hl : n ≤ i0 + 1
  ·have dl : decide (((i0 + 1 : Nat) : Int) < (n : Int)) = false := decide_eq_false (by omega)
   rw [decide_eq_true hl, Bool.true_or]
   simp -implicitDefEqProofs (maxSteps := 5000000) only [go_sem, Nat.reduceShiftRight, Nat.reduceAnd, Nat.reduceBNe, Int.reduceEq, Nat.reduceAdd, Nat.reduceSub, Nat.reduceMul, Nat.reduceLeDiff, reduceIte, reduceCtorEq, Nat.reduceBEq, Nat.reduceEqDiff, wrap64, runC_loop, runC_range, callF_fn, callV_fn, callV_yld, yield_eq, yieldBody, yieldRaw, roundMid, roundEnd, rangeEnd, Bool.not_not, put_cons, put_nil, trim_same, at_zero, at_add, set_zero, set_add, store_one, write_zero, write_add, write_head, write_succ, splice_one, splice_more, List.drop_nil, List.take_nil, cell_int, cell_bool, fillS, splice_one, idxA, Ex.isNormal, List.set_nil, List.length_set, List.all_cons, List.all_nil, Bool.and_self, and_self, true_and, and_true, List.getElem?_nil, Int.reduceLT, Int.reduceLE, Int.reduceToNat, Int.toNat_zero, Int.toNat_one, Int.reduceAdd, Int.reduceSub, Int.reduceMul, Int.reduceNeg, Int.reduceBEq, Int.reduceBNe, Int.reduceGE, Int.reduceGT, Nat.reduceLT, trim_keep, under_fn, under_ptr, under_sl, Nat.lt_irrefl, not_lt_add, trim_tail, keepOk, ABlk.vals, Int.cast_ofNat_Int, decide_true, decide_false, List.all_cons, List.all_nil, Nat.zero_mul, Nat.mul_one, Nat.one_mul, wl, hd, e1, wv, dl, seqR_exit', outs_normal]
   exact exF2 rfl ⟨rfl, .inl (by first | rfl | trivial)⟩
  ·have dl : decide (((i0 + 1 : Nat) : Int) < (n : Int)) = true := decide_eq_true (by omega)
   simp -zeta only [decide_eq_false hl, Bool.false_or] at ih
   rw [decide_eq_false hl, Bool.false_or]
   rw [List.drop_eq_getElem_cons hlt, List.all_cons]
   generalize cs[j] = c at *
   obtain ⟨a, ix, ld⟩ := hcl.idx hx .i64
   have ef := rfindC pt (by omega) c
   by_cases h : idxS s.tb c < 0
   ·have dn := decide_eq_true h
    rw [decide_eq_false (show ¬ 0 ≤ idxS s.tb c by omega)]
    simp -implicitDefEqProofs (maxSteps := 5000000) only [go_sem, Nat.reduceShiftRight, Nat.reduceAnd, Nat.reduceBNe, Int.reduceEq, Nat.reduceAdd, Nat.reduceSub, Nat.reduceMul, Nat.reduceLeDiff, reduceIte, reduceCtorEq, Nat.reduceBEq, Nat.reduceEqDiff, wrap64, runC_loop, runC_range, callF_fn, callV_fn, callV_yld, yield_eq, yieldBody, yieldRaw, roundMid, roundEnd, rangeEnd, Bool.not_not, put_cons, put_nil, trim_same, at_zero, at_add, set_zero, set_add, store_one, write_zero, write_add, write_head, write_succ, splice_one, splice_more, List.drop_nil, List.take_nil, cell_int, cell_bool, fillS, splice_one, idxA, Ex.isNormal, List.set_nil, List.length_set, List.all_cons, List.all_nil, Bool.and_self, and_self, true_and, and_true, List.getElem?_nil, Int.reduceLT, Int.reduceLE, Int.reduceToNat, Int.toNat_zero, Int.toNat_one, Int.reduceAdd, Int.reduceSub, Int.reduceMul, Int.reduceNeg, Int.reduceBEq, Int.reduceBNe, Int.reduceGE, Int.reduceGT, Nat.reduceLT, trim_keep, under_fn, under_ptr, under_sl, Nat.lt_irrefl, not_lt_add, trim_tail, keepOk, ABlk.vals, Int.cast_ofNat_Int, decide_true, decide_false, List.all_cons, List.all_nil, Nat.zero_mul, Nat.mul_one, Nat.one_mul, wl, hd, e1, wv, dl, hq, ix, ld, ef, dn, seqR_ret, outs_normal]
    exact exF2 rfl ⟨rfl, .inr (by first | rfl | trivial)⟩
   ·have dn := decide_eq_false h
    rw [decide_eq_true (show 0 ≤ idxS s.tb c by omega), Bool.true_and]
    simp -implicitDefEqProofs (maxSteps := 5000000) only [go_sem, Nat.reduceShiftRight, Nat.reduceAnd, Nat.reduceBNe, Int.reduceEq, Nat.reduceAdd, Nat.reduceSub, Nat.reduceMul, Nat.reduceLeDiff, reduceIte, reduceCtorEq, Nat.reduceBEq, Nat.reduceEqDiff, wrap64, runC_loop, runC_range, callF_fn, callV_fn, callV_yld, yield_eq, yieldBody, yieldRaw, roundMid, roundEnd, rangeEnd, Bool.not_not, put_cons, put_nil, trim_same, at_zero, at_add, set_zero, set_add, store_one, write_zero, write_add, write_head, write_succ, splice_one, splice_more, List.drop_nil, List.take_nil, cell_int, cell_bool, fillS, splice_one, idxA, Ex.isNormal, List.set_nil, List.length_set, List.all_cons, List.all_nil, Bool.and_self, and_self, true_and, and_true, List.getElem?_nil, Int.reduceLT, Int.reduceLE, Int.reduceToNat, Int.toNat_zero, Int.toNat_one, Int.reduceAdd, Int.reduceSub, Int.reduceMul, Int.reduceNeg, Int.reduceBEq, Int.reduceBNe, Int.reduceGE, Int.reduceGT, Nat.reduceLT, trim_keep, under_fn, under_ptr, under_sl, Nat.lt_irrefl, not_lt_add, trim_tail, keepOk, ABlk.vals, Int.cast_ofNat_Int, decide_true, decide_false, List.all_cons, List.all_nil, Nat.zero_mul, Nat.mul_one, Nat.one_mul, wl, hd, e1, wv, dl, hq, ix, ld, ef, dn, e2]
    exact ih (j + 1) _ _ _ _ _ _ _ _ _ _ _ _ _ _ _ _ _ _ _ _ _ (by omega)
end
end Go.Proofs.Ythhodjcgcgkaaaa.G11
end
section
namespace Go.Proofs.Ythhodjcgcgkaaaa.G11
open Go Go.Proofs.Ythhodjcgcgkaaaa.Eng
theorem isC_row {H : AHeap} {v : AV} {L : List SnS} (g : IsC H v L) {i : Nat} {s : SnS} (h : L[i]? = some s) :
  ∃ b cs vc vt, idxAddrS 3 v (.int .i64 (i : Int)) = some (.ptr b (i * 3)) ∧ cellsOf H b = some cs ∧ cs[i * 3]? = some (.int .i64 s.id) ∧ (cs.drop (i * 3)).take 3 = [.int .i64 s.id, vc, vt] ∧ i * 3 + 3 ≤ cs.length ∧ BS H vc s.ch ∧ IsP H vt s.tb := by
 obtain ⟨b, cs, vc, vt, sb, ix, hc, h1, h2, h3, ht, hle, hb, hp⟩ := g.idx h
 exact ⟨b, cs, vc, vt, ix, hc, h1, ht, hle, hb, hp⟩
section
variable {H : AHeap} {v : AV} {L : List SnS} (g : IsC H v L) (fi : Fits L) (h8 : L.length ≤ 8) {bl : Int} (hbl : bl ≤ 9223372036854775807) (ar : Int)
include g fi h8 hbl
set_option maxHeartbeats 8000000 in
theorem rgooL4 (x3 x4 x5 x15 x16 x17 : AV) : ∀ (k i : Nat) (K : AHeap) (w : AV) (ats : List Int) (j9 j10 j11 j12 j13 j14 j18 j19 j20 j21 j22 j23 j24 j25 j26 j27 j28 j29 j30 j31 j32 j33 j34 j35 j36 j37 j38 j39 j40 j41 j42 j43 j44 j45 j46 j47 j48 j49 j50 j51 j52 j53 j54 j55 j56 j57 j58 j59 j60 j61 j62 j63 j64 j65 j66 j67 j68 j69 j70 j71 j72 j73 j74 j75 j76 j77 j78 j79 j80 j81 j82 j83 j84 j85 j86 j87 j88 j89 j90 j91 j92 j93 j94 j95 j96 j97 j98 j99 j100 j101 j102 j103 j104 j105 j106 j107 j108 j109 j110 j111 j112 j113 j114 j115 j116 j117 j118 j119 j120 j121 j122 j123 j124 j125 j126 j127 j128 j129 j130 j131 j132 j133 j134 j135 j136 j137 j138 j139 : AV), Adds H K → FS K H.length w ats → ats.length ≤ 1000 * i → i + k = L.length →
  Outs (LP1 l15x4 [v, .int .i64 bl, .int .i64 ar, x3, x4, x5, .bool false, w, .int .i64 (i : Int), j9, j10, j11, j12, j13, j14, x15, x16, x17, j18, j19, j20, j21, j22, j23, j24, j25, j26, j27, j28, j29, j30, j31, j32, j33, j34, j35, j36, j37, j38, j39, j40, j41, j42, j43, j44, j45, j46, j47, j48, j49, j50, j51, j52, j53, j54, j55, j56, j57, j58, j59, j60, j61, j62, j63, j64, j65, j66, j67, j68, j69, j70, j71, j72, j73, j74, j75, j76, j77, j78, j79, j80, j81, j82, j83, j84, j85, j86, j87, j88, j89, j90, j91, j92, j93, j94, j95, j96, j97, j98, j99, j100, j101, j102, j103, j104, j105, j106, j107, j108, j109, j110, j111, j112, j113, j114, j115, j116, j117, j118, j119, j120, j121, j122, j123, j124, j125, j126, j127, j128, j129, j130, j131, j132, j133, j134, j135, j136, j137, j138, j139] K) fun e t K' => Adds H K' ∧ ∃ fv : Nat → AV, t = [v, .int .i64 bl, .int .i64 ar, x3, x4, x5, (fv 6), (fv 7), (fv 8), (fv 9), (fv 10), (fv 11), (fv 12), (fv 13), (fv 14), x15, x16, x17, (fv 18), (fv 19), (fv 20), (fv 21), (fv 22), (fv 23), (fv 24), (fv 25), (fv 26), (fv 27), (fv 28), (fv 29), (fv 30), (fv 31), (fv 32), (fv 33), (fv 34), (fv 35), (fv 36), (fv 37), (fv 38), (fv 39), (fv 40), (fv 41), (fv 42), (fv 43), (fv 44), (fv 45), (fv 46), (fv 47), (fv 48), (fv 49), (fv 50), (fv 51), (fv 52), (fv 53), (fv 54), (fv 55), (fv 56), (fv 57), (fv 58), (fv 59), (fv 60), (fv 61), (fv 62), (fv 63), (fv 64), (fv 65), (fv 66), (fv 67), (fv 68), (fv 69), (fv 70), (fv 71), (fv 72), (fv 73), (fv 74), (fv 75), (fv 76), (fv 77), (fv 78), (fv 79), (fv 80), (fv 81), (fv 82), (fv 83), (fv 84), (fv 85), (fv 86), (fv 87), (fv 88), (fv 89), (fv 90), (fv 91), (fv 92), (fv 93), (fv 94), (fv 95), (fv 96), (fv 97), (fv 98), (fv 99), (fv 100), (fv 101), (fv 102), (fv 103), (fv 104), (fv 105), (fv 106), (fv 107), (fv 108), (fv 109), (fv 110), (fv 111), (fv 112), (fv 113), (fv 114), (fv 115), (fv 116), (fv 117), (fv 118), (fv 119), (fv 120), (fv 121), (fv 122), (fv 123), (fv 124), (fv 125), (fv 126), (fv 127), (fv 128), (fv 129), (fv 130), (fv 131), (fv 132), (fv 133), (fv 134), (fv 135), (fv 136), (fv 137), (fv 138), (fv 139)] ∧ fv 6 = .bool false ∧ ((e = .exit 0 ∧ rgoodF bl ar (L.drop i) (pvAt L i) ats = true) ∨ (e = .ret ∧ rgoodF bl ar (L.drop i) (pvAt L i) ats = false)) := by
 intro k
 obtain ⟨L0, hL0⟩ : ∃ L, L = LP1 l15x4 := ⟨_, rfl⟩
 have lo := loop_open hL0
 have wl := g.len
 rw [← hL0]
 induction k with
 | zero =>
  intro i K w ats j9 j10 j11 j12 j13 j14 j18 j19 j20 j21 j22 j23 j24 j25 j26 j27 j28 j29 j30 j31 j32 j33 j34 j35 j36 j37 j38 j39 j40 j41 j42 j43 j44 j45 j46 j47 j48 j49 j50 j51 j52 j53 j54 j55 j56 j57 j58 j59 j60 j61 j62 j63 j64 j65 j66 j67 j68 j69 j70 j71 j72 j73 j74 j75 j76 j77 j78 j79 j80 j81 j82 j83 j84 j85 j86 j87 j88 j89 j90 j91 j92 j93 j94 j95 j96 j97 j98 j99 j100 j101 j102 j103 j104 j105 j106 j107 j108 j109 j110 j111 j112 j113 j114 j115 j116 j117 j118 j119 j120 j121 j122 j123 j124 j125 j126 j127 j128 j129 j130 j131 j132 j133 j134 j135 j136 j137 j138 j139 aK fs al hi
  obtain rfl : i = L.length := by omega
  have hd : decide ((L.length : Int) < (L.length : Int)) = false := by simp
  rw [List.drop_length, lo]
  unfold l15x4
  simp -implicitDefEqProofs (maxSteps := 5000000) only [go_sem, Nat.reduceShiftRight, Nat.reduceAnd, Nat.reduceBNe, Int.reduceEq, Nat.reduceAdd, Nat.reduceSub, Nat.reduceMul, Nat.reduceLeDiff, reduceIte, reduceCtorEq, Nat.reduceBEq, Nat.reduceEqDiff, wrap64, runC_loop, runC_range, callF_fn, callV_fn, callV_yld, yield_eq, yieldBody, yieldRaw, roundMid, roundEnd, rangeEnd, Bool.not_not, put_cons, put_nil, trim_same, at_zero, at_add, set_zero, set_add, store_one, write_zero, write_add, write_head, write_succ, splice_one, splice_more, List.drop_nil, List.take_nil, cell_int, cell_bool, fillS, splice_one, idxA, Ex.isNormal, List.set_nil, List.length_set, List.all_cons, List.all_nil, Bool.and_self, and_self, true_and, and_true, List.getElem?_nil, Int.reduceLT, Int.reduceLE, Int.reduceToNat, Int.toNat_zero, Int.toNat_one, Int.reduceAdd, Int.reduceSub, Int.reduceMul, Int.reduceNeg, Int.reduceBEq, Int.reduceBNe, Int.reduceGE, Int.reduceGT, Nat.reduceLT, trim_keep, under_fn, under_ptr, under_sl, Nat.lt_irrefl, not_lt_add, trim_tail, keepOk, ABlk.vals, Int.cast_ofNat_Int, decide_true, decide_false, List.all_cons, List.all_nil, Nat.zero_mul, Nat.mul_one, Nat.one_mul, wl, hd, seqR_exit', outs_normal]
  exact ⟨aK, exF2 rfl ⟨rfl, .inl (by first | rfl | trivial)⟩⟩
 | succ k ih =>
  intro i K w ats j9 j10 j11 j12 j13 j14 j18 j19 j20 j21 j22 j23 j24 j25 j26 j27 j28 j29 j30 j31 j32 j33 j34 j35 j36 j37 j38 j39 j40 j41 j42 j43 j44 j45 j46 j47 j48 j49 j50 j51 j52 j53 j54 j55 j56 j57 j58 j59 j60 j61 j62 j63 j64 j65 j66 j67 j68 j69 j70 j71 j72 j73 j74 j75 j76 j77 j78 j79 j80 j81 j82 j83 j84 j85 j86 j87 j88 j89 j90 j91 j92 j93 j94 j95 j96 j97 j98 j99 j100 j101 j102 j103 j104 j105 j106 j107 j108 j109 j110 j111 j112 j113 j114 j115 j116 j117 j118 j119 j120 j121 j122 j123 j124 j125 j126 j127 j128 j129 j130 j131 j132 j133 j134 j135 j136 j137 j138 j139 aK fs al hi
  have hlt : i < L.length := by omega
  have hd : decide ((i : Int) < (L.length : Int)) = true := decide_eq_true (by omega)
  have e2 : IntKind.i64.wrap ((i : Int) + 1) = ((i + 1 : Nat) : Int) := by rw [wrap64 (by omega) (by omega)]; omega
  have hx := List.getElem?_eq_getElem hlt
  have ft := fits_get fi hx
  have hpv := pvAt_succ hx
  have hem : (L.drop (i + 1)).isEmpty = decide (L.length ≤ i + 1) := by
   by_cases h : L.length ≤ i + 1
   ·rw [decide_eq_true h, List.drop_eq_nil_of_le h]; rfl
   ·rw [decide_eq_false h]
    cases hq : L.drop (i + 1) with
    | nil => have := congrArg List.length hq; rw [List.length_drop] at this; simp at this; omega
    | cons _ _ => rfl
  rw [List.drop_eq_getElem_cons hlt]
  generalize L[i] = s at *
  obtain ⟨bb, cs, vc, vt, ix, hc0, h1, ht, hle, bc, pt⟩ := isC_row g hx
  have hc := aK.cells hc0
  have hcA := fun {X} (a : Adds K X) => a.cells hc
  obtain ⟨K1, hK1⟩ : ∃ K1, K1 = K ++ [ABlk.rw [.int .i64 s.id, vc, vt]] := ⟨_, rfl⟩
  have A1 : Adds K K1 := ⟨_, hK1⟩
  have a1 := aK.trans A1
  have hc1 := hcA A1
  have cc := bc.cell
  have ct := pt.cell
  have cq : cellsOf K1 K.length = some [.int .i64 s.id, vc, vt] := by rw [hK1]; unfold cellsOf; simp
  have bc1 := a1.bs bc
  have pt1 := pt.adds a1
  have eg := Bt.goodR bc1 (by have := ft.lc; omega) bl
  have et := rgoodC pt1 (by have := ft.lt; omega) bl ar
  have fs1 : FS K1 H.length w ats := fs.frT (Fr.adds A1 (fun _ => False)) fun _ _ h => h
  have hne : ∀ b, slb w = some b → b ≠ K.length := fun b hb h => by have := (FS.out fs b hb).2; omega
  have hK1 := hK1.symm
  have wt := pt.len
  rw [rgoodF, hem]
  have out : ∀ {x : Bool}, x = false → (Adds H K1) := fun _ => a1
  have w1 : IntKind.i64.wrap ((i : Int) - 1) = (i : Int) - 1 := wrap64 (by omega) (by omega)
  rw [lo]
  unfold l15x4
  by_cases c1 : s.id < 1
  ·have d1 := decide_eq_true c1
   rw [decide_eq_false (show ¬ 1 ≤ s.id by omega), Bool.false_and]
   simp -implicitDefEqProofs (maxSteps := 5000000) only [go_sem, Nat.reduceShiftRight, Nat.reduceAnd, Nat.reduceBNe, Int.reduceEq, Nat.reduceAdd, Nat.reduceSub, Nat.reduceMul, Nat.reduceLeDiff, reduceIte, reduceCtorEq, Nat.reduceBEq, Nat.reduceEqDiff, wrap64, runC_loop, runC_range, callF_fn, callV_fn, callV_yld, yield_eq, yieldBody, yieldRaw, roundMid, roundEnd, rangeEnd, Bool.not_not, put_cons, put_nil, trim_same, at_zero, at_add, set_zero, set_add, store_one, write_zero, write_add, write_head, write_succ, splice_one, splice_more, List.drop_nil, List.take_nil, cell_int, cell_bool, fillS, splice_one, idxA, Ex.isNormal, List.set_nil, List.length_set, List.all_cons, List.all_nil, Bool.and_self, and_self, true_and, and_true, List.getElem?_nil, Int.reduceLT, Int.reduceLE, Int.reduceToNat, Int.toNat_zero, Int.toNat_one, Int.reduceAdd, Int.reduceSub, Int.reduceMul, Int.reduceNeg, Int.reduceBEq, Int.reduceBNe, Int.reduceGE, Int.reduceGT, Nat.reduceLT, trim_keep, under_fn, under_ptr, under_sl, Nat.lt_irrefl, not_lt_add, trim_tail, keepOk, ABlk.vals, Int.cast_ofNat_Int, decide_true, decide_false, List.all_cons, List.all_nil, Nat.zero_mul, Nat.mul_one, Nat.one_mul, wl, hd, ix, hc, ht, hle, cellsA_agg, cc.2, ct.2, hK1, cq, d1, seqR_ret, outs_normal]
   exact ⟨a1, exF2 rfl ⟨rfl, .inr (by first | rfl | trivial)⟩⟩
  have d1 := decide_eq_false c1
  rw [decide_eq_true (show 1 ≤ s.id by omega), Bool.true_and]
  by_cases c2 : s.id > 1000000
  ·have d2 := decide_eq_true c2
   rw [decide_eq_false (show ¬ s.id ≤ 1000000 by omega), Bool.false_and]
   simp -implicitDefEqProofs (maxSteps := 5000000) only [go_sem, Nat.reduceShiftRight, Nat.reduceAnd, Nat.reduceBNe, Int.reduceEq, Nat.reduceAdd, Nat.reduceSub, Nat.reduceMul, Nat.reduceLeDiff, reduceIte, reduceCtorEq, Nat.reduceBEq, Nat.reduceEqDiff, wrap64, runC_loop, runC_range, callF_fn, callV_fn, callV_yld, yield_eq, yieldBody, yieldRaw, roundMid, roundEnd, rangeEnd, Bool.not_not, put_cons, put_nil, trim_same, at_zero, at_add, set_zero, set_add, store_one, write_zero, write_add, write_head, write_succ, splice_one, splice_more, List.drop_nil, List.take_nil, cell_int, cell_bool, fillS, splice_one, idxA, Ex.isNormal, List.set_nil, List.length_set, List.all_cons, List.all_nil, Bool.and_self, and_self, true_and, and_true, List.getElem?_nil, Int.reduceLT, Int.reduceLE, Int.reduceToNat, Int.toNat_zero, Int.toNat_one, Int.reduceAdd, Int.reduceSub, Int.reduceMul, Int.reduceNeg, Int.reduceBEq, Int.reduceBNe, Int.reduceGE, Int.reduceGT, Nat.reduceLT, trim_keep, under_fn, under_ptr, under_sl, Nat.lt_irrefl, not_lt_add, trim_tail, keepOk, ABlk.vals, Int.cast_ofNat_Int, decide_true, decide_false, List.all_cons, List.all_nil, Nat.zero_mul, Nat.mul_one, Nat.one_mul, wl, hd, ix, hc, ht, hle, cellsA_agg, cc.2, ct.2, hK1, cq, d1, d2, seqR_ret, outs_normal]
   exact ⟨a1, exF2 rfl ⟨rfl, .inr (by first | rfl | trivial)⟩⟩
  have d2 := decide_eq_false c2
  rw [decide_eq_true (show s.id ≤ 1000000 by omega), Bool.true_and]
  have pvc : (i = 0 ∧ pvOk (pvAt L i) s.id = true) ∨ (∃ n x b2 c2, i = n + 1 ∧ idxAddrS 3 v (.int .i64 (n : Int)) = some (.ptr b2 (n * 3)) ∧ cellsOf K1 b2 = some c2 ∧ c2[n * 3]? = some (.int .i64 x) ∧ pvOk (pvAt L i) s.id = decide (x < s.id)) := by
   cases i with
   | zero => exact .inl ⟨rfl, rfl⟩
   | succ n =>
    have hn : n < L.length := by omega
    have hy := List.getElem?_eq_getElem hn
    obtain ⟨b2, c2, _, _, ix2, hcy, r1, _⟩ := isC_row g hy
    exact .inr ⟨n, L[n].id, b2, c2, rfl, ix2, a1.cells hcy, r1, by rw [pvAt_succ hy]; rfl⟩
  rcases pvc with ⟨hi0, pv0⟩ | ⟨n, x, b2, c2', hin, ix2, hc2, r2, pv1⟩
  ·rw [pv0, Bool.true_and]
   have dz : decide ((i : Int) > 0) = false := decide_eq_false (by omega)
   rcases hg : Bt.goodS s.ch bl with _ | _ <;> rw [hg] at eg
   ·simp -implicitDefEqProofs (maxSteps := 5000000) only [go_sem, Nat.reduceShiftRight, Nat.reduceAnd, Nat.reduceBNe, Int.reduceEq, Nat.reduceAdd, Nat.reduceSub, Nat.reduceMul, Nat.reduceLeDiff, reduceIte, reduceCtorEq, Nat.reduceBEq, Nat.reduceEqDiff, wrap64, runC_loop, runC_range, callF_fn, callV_fn, callV_yld, yield_eq, yieldBody, yieldRaw, roundMid, roundEnd, rangeEnd, Bool.not_not, put_cons, put_nil, trim_same, at_zero, at_add, set_zero, set_add, store_one, write_zero, write_add, write_head, write_succ, splice_one, splice_more, List.drop_nil, List.take_nil, cell_int, cell_bool, fillS, splice_one, idxA, Ex.isNormal, List.set_nil, List.length_set, List.all_cons, List.all_nil, Bool.and_self, and_self, true_and, and_true, List.getElem?_nil, Int.reduceLT, Int.reduceLE, Int.reduceToNat, Int.toNat_zero, Int.toNat_one, Int.reduceAdd, Int.reduceSub, Int.reduceMul, Int.reduceNeg, Int.reduceBEq, Int.reduceBNe, Int.reduceGE, Int.reduceGT, Nat.reduceLT, trim_keep, under_fn, under_ptr, under_sl, Nat.lt_irrefl, not_lt_add, trim_tail, keepOk, ABlk.vals, Int.cast_ofNat_Int, decide_true, decide_false, List.all_cons, List.all_nil, Nat.zero_mul, Nat.mul_one, Nat.one_mul, wl, hd, ix, hc, ht, hle, cellsA_agg, cc.2, ct.2, hK1, cq, d1, d2, dz, eg, seqR_ret, outs_normal]
    exact ⟨a1, exF2 rfl ⟨rfl, .inr (by first | rfl | trivial)⟩⟩
   rcases hg2 : tgood s.tb bl ar with _ | _ <;> rw [hg2] at et
   ·simp -implicitDefEqProofs (maxSteps := 5000000) only [go_sem, Nat.reduceShiftRight, Nat.reduceAnd, Nat.reduceBNe, Int.reduceEq, Nat.reduceAdd, Nat.reduceSub, Nat.reduceMul, Nat.reduceLeDiff, reduceIte, reduceCtorEq, Nat.reduceBEq, Nat.reduceEqDiff, wrap64, runC_loop, runC_range, callF_fn, callV_fn, callV_yld, yield_eq, yieldBody, yieldRaw, roundMid, roundEnd, rangeEnd, Bool.not_not, put_cons, put_nil, trim_same, at_zero, at_add, set_zero, set_add, store_one, write_zero, write_add, write_head, write_succ, splice_one, splice_more, List.drop_nil, List.take_nil, cell_int, cell_bool, fillS, splice_one, idxA, Ex.isNormal, List.set_nil, List.length_set, List.all_cons, List.all_nil, Bool.and_self, and_self, true_and, and_true, List.getElem?_nil, Int.reduceLT, Int.reduceLE, Int.reduceToNat, Int.toNat_zero, Int.toNat_one, Int.reduceAdd, Int.reduceSub, Int.reduceMul, Int.reduceNeg, Int.reduceBEq, Int.reduceBNe, Int.reduceGE, Int.reduceGT, Nat.reduceLT, trim_keep, under_fn, under_ptr, under_sl, Nat.lt_irrefl, not_lt_add, trim_tail, keepOk, ABlk.vals, Int.cast_ofNat_Int, decide_true, decide_false, List.all_cons, List.all_nil, Nat.zero_mul, Nat.mul_one, Nat.one_mul, wl, hd, ix, hc, ht, hle, cellsA_agg, cc.2, ct.2, hK1, cq, d1, d2, dz, eg, et, seqR_ret, outs_normal]
    exact ⟨a1, exF2 rfl ⟨rfl, .inr (by first | rfl | trivial)⟩⟩
   have G := good_iff.1 hg2
   have l1 := rgooL1 fs1 (by omega) cq bc1 pt1 ft (fun p hp => by have := (G.rng p hp).1; omega) (k := s.tb.length) (i := 0)
   rw [show ((0 : Nat) : Int) = 0 from rfl, List.drop_zero] at l1
   rw [Bool.true_and, Bool.true_and]
   simp -implicitDefEqProofs (maxSteps := 5000000) only [go_sem, Nat.reduceShiftRight, Nat.reduceAnd, Nat.reduceBNe, Int.reduceEq, Nat.reduceAdd, Nat.reduceSub, Nat.reduceMul, Nat.reduceLeDiff, reduceIte, reduceCtorEq, Nat.reduceBEq, Nat.reduceEqDiff, wrap64, runC_loop, runC_range, callF_fn, callV_fn, callV_yld, yield_eq, yieldBody, yieldRaw, roundMid, roundEnd, rangeEnd, Bool.not_not, put_cons, put_nil, trim_same, at_zero, at_add, set_zero, set_add, store_one, write_zero, write_add, write_head, write_succ, splice_one, splice_more, List.drop_nil, List.take_nil, cell_int, cell_bool, fillS, splice_one, idxA, Ex.isNormal, List.set_nil, List.length_set, List.all_cons, List.all_nil, Bool.and_self, and_self, true_and, and_true, List.getElem?_nil, Int.reduceLT, Int.reduceLE, Int.reduceToNat, Int.toNat_zero, Int.toNat_one, Int.reduceAdd, Int.reduceSub, Int.reduceMul, Int.reduceNeg, Int.reduceBEq, Int.reduceBNe, Int.reduceGE, Int.reduceGT, Nat.reduceLT, trim_keep, under_fn, under_ptr, under_sl, Nat.lt_irrefl, not_lt_add, trim_tail, keepOk, ABlk.vals, Int.cast_ofNat_Int, decide_true, decide_false, List.all_cons, List.all_nil, Nat.zero_mul, Nat.mul_one, Nat.one_mul, runC_loop, wl, hd, ix, hc, ht, hle, cellsA_agg, cc.2, ct.2, hK1, cq, d1, d2, dz, eg, et]
   unfold LP1 at l1
   generalize (envL prog).loop (runC (envL prog) (l15x1 (envL prog))) = LL1 at l1 ⊢
   refine outs_ctx (fun r => seqR (seqR (blockR 1 (seqR (blockR 2 r) _)) _) _) (l1 _ _ _ _ _ _ _ _ _ _ _ _ _ _ _ _ _ _ _ _ _ _ _ _ _ _ _ _ _ _ _ _ _ _ _ _ _ _ _ _ _ _ _ _ _ _ _ _ _ _ _ _ _ _ _ _ _ _ _ _ _ _ _ _ _ _ _ _ _ _ _ _ _ _ _ _ _ _ _ _ _ _ _ _ _ _ _ _ _ _ _ _ _ _ _ _ _ _ _ _ _ _ _ _ _ _ _ _ _ _ _ _ _ _ _ _ _ _ _ _ _ _ _ _ _ _ _ _ _ _ _ _ _ _ _ _ (by omega)) ?_
   rintro e t K' ⟨rfl, fv, rfl, f6, ⟨rfl, ho⟩ | ⟨rfl, ho⟩⟩
   ·rw [ho, Bool.true_and]
    have l2 := rgooL2 (H := H) (q := K.length) (vc := vc) pt ft (k := s.tb.length) (i := 0) (K := K') (w := w) (ats := ats)
    rw [show ((0 : Nat) : Int) = 0 from rfl, List.drop_zero] at l2
    simp -implicitDefEqProofs (maxSteps := 5000000) only [go_sem, Nat.reduceShiftRight, Nat.reduceAnd, Nat.reduceBNe, Int.reduceEq, Nat.reduceAdd, Nat.reduceSub, Nat.reduceMul, Nat.reduceLeDiff, reduceIte, reduceCtorEq, Nat.reduceBEq, Nat.reduceEqDiff, wrap64, runC_loop, runC_range, callF_fn, callV_fn, callV_yld, yield_eq, yieldBody, yieldRaw, roundMid, roundEnd, rangeEnd, Bool.not_not, put_cons, put_nil, trim_same, at_zero, at_add, set_zero, set_add, store_one, write_zero, write_add, write_head, write_succ, splice_one, splice_more, List.drop_nil, List.take_nil, cell_int, cell_bool, fillS, splice_one, idxA, Ex.isNormal, List.set_nil, List.length_set, List.all_cons, List.all_nil, Bool.and_self, and_self, true_and, and_true, List.getElem?_nil, Int.reduceLT, Int.reduceLE, Int.reduceToNat, Int.toNat_zero, Int.toNat_one, Int.reduceAdd, Int.reduceSub, Int.reduceMul, Int.reduceNeg, Int.reduceBEq, Int.reduceBNe, Int.reduceGE, Int.reduceGT, Nat.reduceLT, trim_keep, under_fn, under_ptr, under_sl, Nat.lt_irrefl, not_lt_add, trim_tail, keepOk, ABlk.vals, Int.cast_ofNat_Int, decide_true, decide_false, List.all_cons, List.all_nil, Nat.zero_mul, Nat.mul_one, Nat.one_mul, runC_loop, f6]
    unfold LP1 at l2
    generalize (envL prog).loop (runC (envL prog) (l15x2 (envL prog))) = LL2 at l2 ⊢
    refine outs_ctx (fun r => seqR (seqR (blockR 1 (seqR (blockR 6 r) _)) _) _) (l2 _ _ _ _ _ _ _ _ _ _ _ _ _ _ _ _ _ _ _ _ _ _ _ _ _ _ _ _ _ _ _ _ _ _ _ _ _ _ _ _ _ _ _ _ _ _ _ _ _ _ _ _ _ _ _ _ _ _ _ _ _ _ _ _ _ _ _ _ _ _ _ _ _ _ _ _ _ _ _ _ _ _ _ _ _ _ _ _ _ _ _ _ _ _ _ _ _ _ _ _ _ _ _ _ _ _ _ _ _ _ _ _ _ _ _ _ _ _ _ _ _ _ _ _ _ _ _ _ _ _ _ _ _ _ _ _ _ a1 fs1 cq hne (by omega) (by omega)) ?_
    rintro e t K2 ⟨rfl, a2, cq2, fw, rfl, fs2⟩
    obtain ⟨cl, R, gr, ec⟩ := Bt.allR (a2.bs bc) (by have := ft.lc; omega)
    obtain ⟨K3, hK3⟩ : ∃ K3, K3 = K2 ++ R := ⟨_, rfl⟩
    have A3 : Adds K2 K3 := ⟨_, hK3⟩
    have isc : IS K3 cl (Bt.allS s.ch) := by rw [hK3]; exact Bt.Grown.is gr
    rw [← hK3] at ec
    have a3 := a2.trans A3
    have l3 := rgooL3 (n := L.length) (i0 := i) wl (by omega) hlt isc (by have := Bt.allS_len s.ch; have := ft.lc; omega) (A3.cells cq2) (pt.adds a3) ft (k := (Bt.allS s.ch).length) (j := 0)
    rw [show ((0 : Nat) : Int) = 0 from rfl, List.drop_zero] at l3
    simp -implicitDefEqProofs (maxSteps := 5000000) only [go_sem, Nat.reduceShiftRight, Nat.reduceAnd, Nat.reduceBNe, Int.reduceEq, Nat.reduceAdd, Nat.reduceSub, Nat.reduceMul, Nat.reduceLeDiff, reduceIte, reduceCtorEq, Nat.reduceBEq, Nat.reduceEqDiff, wrap64, runC_loop, runC_range, callF_fn, callV_fn, callV_yld, yield_eq, yieldBody, yieldRaw, roundMid, roundEnd, rangeEnd, Bool.not_not, put_cons, put_nil, trim_same, at_zero, at_add, set_zero, set_add, store_one, write_zero, write_add, write_head, write_succ, splice_one, splice_more, List.drop_nil, List.take_nil, cell_int, cell_bool, fillS, splice_one, idxA, Ex.isNormal, List.set_nil, List.length_set, List.all_cons, List.all_nil, Bool.and_self, and_self, true_and, and_true, List.getElem?_nil, Int.reduceLT, Int.reduceLE, Int.reduceToNat, Int.toNat_zero, Int.toNat_one, Int.reduceAdd, Int.reduceSub, Int.reduceMul, Int.reduceNeg, Int.reduceBEq, Int.reduceBNe, Int.reduceGE, Int.reduceGT, Nat.reduceLT, trim_keep, under_fn, under_ptr, under_sl, Nat.lt_irrefl, not_lt_add, trim_tail, keepOk, ABlk.vals, Int.cast_ofNat_Int, decide_true, decide_false, List.all_cons, List.all_nil, Nat.zero_mul, Nat.mul_one, Nat.one_mul, runC_loop, cq2, ec]
    unfold LP1 at l3
    generalize (envL prog).loop (runC (envL prog) (l15x3 (envL prog))) = LL3 at l3 ⊢
    refine outs_ctx (fun r => seqR (seqR (blockR 1 (blockR 8 r)) _) _) (l3 _ _ _ _ _ _ _ _ _ _ _ _ _ _ _ _ _ _ _ _ _ _ _ _ _ _ _ _ _ _ _ _ _ _ _ _ _ _ _ _ _ _ _ _ _ _ _ _ _ _ _ _ _ _ _ _ _ _ _ _ _ _ _ _ _ _ _ _ _ _ _ _ _ _ _ _ _ _ _ _ _ _ _ _ _ _ _ _ _ _ _ _ _ _ _ _ _ _ _ _ _ _ _ _ _ _ _ _ _ _ _ _ _ _ _ _ _ _ _ _ _ _ _ _ _ _ _ _ _ _ _ _ _ _ (by omega)) ?_
    rintro e t K4 ⟨rfl, fx, rfl, f6', ⟨rfl, ho2⟩ | ⟨rfl, ho2⟩⟩
    ·rw [ho2, Bool.true_and]
     have key := ih (i + 1) K4 (fw 7) (ats ++ s.tb.map (·.2))
     rw [hpv] at key
     simp -implicitDefEqProofs (maxSteps := 5000000) only [go_sem, Nat.reduceShiftRight, Nat.reduceAnd, Nat.reduceBNe, Int.reduceEq, Nat.reduceAdd, Nat.reduceSub, Nat.reduceMul, Nat.reduceLeDiff, reduceIte, reduceCtorEq, Nat.reduceBEq, Nat.reduceEqDiff, wrap64, runC_loop, runC_range, callF_fn, callV_fn, callV_yld, yield_eq, yieldBody, yieldRaw, roundMid, roundEnd, rangeEnd, Bool.not_not, put_cons, put_nil, trim_same, at_zero, at_add, set_zero, set_add, store_one, write_zero, write_add, write_head, write_succ, splice_one, splice_more, List.drop_nil, List.take_nil, cell_int, cell_bool, fillS, splice_one, idxA, Ex.isNormal, List.set_nil, List.length_set, List.all_cons, List.all_nil, Bool.and_self, and_self, true_and, and_true, List.getElem?_nil, Int.reduceLT, Int.reduceLE, Int.reduceToNat, Int.toNat_zero, Int.toNat_one, Int.reduceAdd, Int.reduceSub, Int.reduceMul, Int.reduceNeg, Int.reduceBEq, Int.reduceBNe, Int.reduceGE, Int.reduceGT, Nat.reduceLT, trim_keep, under_fn, under_ptr, under_sl, Nat.lt_irrefl, not_lt_add, trim_tail, keepOk, ABlk.vals, Int.cast_ofNat_Int, decide_true, decide_false, List.all_cons, List.all_nil, Nat.zero_mul, Nat.mul_one, Nat.one_mul, f6', e2]
     exact key _ _ _ _ _ _ _ _ _ _ _ _ _ _ _ _ _ _ _ _ _ _ _ _ _ _ _ _ _ _ _ _ _ _ _ _ _ _ _ _ _ _ _ _ _ _ _ _ _ _ _ _ _ _ _ _ _ _ _ _ _ _ _ _ _ _ _ _ _ _ _ _ _ _ _ _ _ _ _ _ _ _ _ _ _ _ _ _ _ _ _ _ _ _ _ _ _ _ _ _ _ _ _ _ _ _ _ _ _ _ _ _ _ _ _ _ _ _ _ _ _ _ _ _ _ _ _ _ a3 (fs2.frT (Fr.adds A3 (fun _ => False)) fun _ _ h => h) (by rw [List.length_append, List.length_map]; have := ft.lt; omega) (by omega)
    ·rw [ho2, Bool.false_and]
     simp -implicitDefEqProofs (maxSteps := 5000000) only [go_sem, Nat.reduceShiftRight, Nat.reduceAnd, Nat.reduceBNe, Int.reduceEq, Nat.reduceAdd, Nat.reduceSub, Nat.reduceMul, Nat.reduceLeDiff, reduceIte, reduceCtorEq, Nat.reduceBEq, Nat.reduceEqDiff, wrap64, runC_loop, runC_range, callF_fn, callV_fn, callV_yld, yield_eq, yieldBody, yieldRaw, roundMid, roundEnd, rangeEnd, Bool.not_not, put_cons, put_nil, trim_same, at_zero, at_add, set_zero, set_add, store_one, write_zero, write_add, write_head, write_succ, splice_one, splice_more, List.drop_nil, List.take_nil, cell_int, cell_bool, fillS, splice_one, idxA, Ex.isNormal, List.set_nil, List.length_set, List.all_cons, List.all_nil, Bool.and_self, and_self, true_and, and_true, List.getElem?_nil, Int.reduceLT, Int.reduceLE, Int.reduceToNat, Int.toNat_zero, Int.toNat_one, Int.reduceAdd, Int.reduceSub, Int.reduceMul, Int.reduceNeg, Int.reduceBEq, Int.reduceBNe, Int.reduceGE, Int.reduceGT, Nat.reduceLT, trim_keep, under_fn, under_ptr, under_sl, Nat.lt_irrefl, not_lt_add, trim_tail, keepOk, ABlk.vals, Int.cast_ofNat_Int, decide_true, decide_false, List.all_cons, List.all_nil, Nat.zero_mul, Nat.mul_one, Nat.one_mul, seqR_ret, outs_normal]
     exact ⟨a3, exF2 rfl ⟨f6', .inr (by first | rfl | trivial)⟩⟩
   ·rw [ho, Bool.false_and]
    simp -implicitDefEqProofs (maxSteps := 5000000) only [go_sem, Nat.reduceShiftRight, Nat.reduceAnd, Nat.reduceBNe, Int.reduceEq, Nat.reduceAdd, Nat.reduceSub, Nat.reduceMul, Nat.reduceLeDiff, reduceIte, reduceCtorEq, Nat.reduceBEq, Nat.reduceEqDiff, wrap64, runC_loop, runC_range, callF_fn, callV_fn, callV_yld, yield_eq, yieldBody, yieldRaw, roundMid, roundEnd, rangeEnd, Bool.not_not, put_cons, put_nil, trim_same, at_zero, at_add, set_zero, set_add, store_one, write_zero, write_add, write_head, write_succ, splice_one, splice_more, List.drop_nil, List.take_nil, cell_int, cell_bool, fillS, splice_one, idxA, Ex.isNormal, List.set_nil, List.length_set, List.all_cons, List.all_nil, Bool.and_self, and_self, true_and, and_true, List.getElem?_nil, Int.reduceLT, Int.reduceLE, Int.reduceToNat, Int.toNat_zero, Int.toNat_one, Int.reduceAdd, Int.reduceSub, Int.reduceMul, Int.reduceNeg, Int.reduceBEq, Int.reduceBNe, Int.reduceGE, Int.reduceGT, Nat.reduceLT, trim_keep, under_fn, under_ptr, under_sl, Nat.lt_irrefl, not_lt_add, trim_tail, keepOk, ABlk.vals, Int.cast_ofNat_Int, decide_true, decide_false, List.all_cons, List.all_nil, Nat.zero_mul, Nat.mul_one, Nat.one_mul, seqR_ret, outs_normal]
    exact ⟨a1, exF2 rfl ⟨f6, .inr (by first | rfl | trivial)⟩⟩
  ·have dz : decide ((i : Int) > 0) = true := decide_eq_true (by omega)
   have il2 : IntKind.i64.wrap ((i : Int) - 1) = (n : Int) := by rw [w1]; omega
   rw [pv1]
   by_cases hle2 : s.id ≤ x
   ·have dl := decide_eq_true hle2
    rw [decide_eq_false (show ¬ x < s.id by omega), Bool.false_and]
    simp -implicitDefEqProofs (maxSteps := 5000000) only [go_sem, Nat.reduceShiftRight, Nat.reduceAnd, Nat.reduceBNe, Int.reduceEq, Nat.reduceAdd, Nat.reduceSub, Nat.reduceMul, Nat.reduceLeDiff, reduceIte, reduceCtorEq, Nat.reduceBEq, Nat.reduceEqDiff, wrap64, runC_loop, runC_range, callF_fn, callV_fn, callV_yld, yield_eq, yieldBody, yieldRaw, roundMid, roundEnd, rangeEnd, Bool.not_not, put_cons, put_nil, trim_same, at_zero, at_add, set_zero, set_add, store_one, write_zero, write_add, write_head, write_succ, splice_one, splice_more, List.drop_nil, List.take_nil, cell_int, cell_bool, fillS, splice_one, idxA, Ex.isNormal, List.set_nil, List.length_set, List.all_cons, List.all_nil, Bool.and_self, and_self, true_and, and_true, List.getElem?_nil, Int.reduceLT, Int.reduceLE, Int.reduceToNat, Int.toNat_zero, Int.toNat_one, Int.reduceAdd, Int.reduceSub, Int.reduceMul, Int.reduceNeg, Int.reduceBEq, Int.reduceBNe, Int.reduceGE, Int.reduceGT, Nat.reduceLT, trim_keep, under_fn, under_ptr, under_sl, Nat.lt_irrefl, not_lt_add, trim_tail, keepOk, ABlk.vals, Int.cast_ofNat_Int, decide_true, decide_false, List.all_cons, List.all_nil, Nat.zero_mul, Nat.mul_one, Nat.one_mul, wl, hd, ix, hc, ht, hle, cellsA_agg, cc.2, ct.2, hK1, cq, d1, d2, dz, il2, ix2, hc2, r2, dl, seqR_ret, outs_normal]
    exact ⟨a1, exF2 rfl ⟨rfl, .inr (by first | rfl | trivial)⟩⟩
   have dl := decide_eq_false hle2
   rw [decide_eq_true (show x < s.id by omega), Bool.true_and]
   rcases hg : Bt.goodS s.ch bl with _ | _ <;> rw [hg] at eg
   ·simp -implicitDefEqProofs (maxSteps := 5000000) only [go_sem, Nat.reduceShiftRight, Nat.reduceAnd, Nat.reduceBNe, Int.reduceEq, Nat.reduceAdd, Nat.reduceSub, Nat.reduceMul, Nat.reduceLeDiff, reduceIte, reduceCtorEq, Nat.reduceBEq, Nat.reduceEqDiff, wrap64, runC_loop, runC_range, callF_fn, callV_fn, callV_yld, yield_eq, yieldBody, yieldRaw, roundMid, roundEnd, rangeEnd, Bool.not_not, put_cons, put_nil, trim_same, at_zero, at_add, set_zero, set_add, store_one, write_zero, write_add, write_head, write_succ, splice_one, splice_more, List.drop_nil, List.take_nil, cell_int, cell_bool, fillS, splice_one, idxA, Ex.isNormal, List.set_nil, List.length_set, List.all_cons, List.all_nil, Bool.and_self, and_self, true_and, and_true, List.getElem?_nil, Int.reduceLT, Int.reduceLE, Int.reduceToNat, Int.toNat_zero, Int.toNat_one, Int.reduceAdd, Int.reduceSub, Int.reduceMul, Int.reduceNeg, Int.reduceBEq, Int.reduceBNe, Int.reduceGE, Int.reduceGT, Nat.reduceLT, trim_keep, under_fn, under_ptr, under_sl, Nat.lt_irrefl, not_lt_add, trim_tail, keepOk, ABlk.vals, Int.cast_ofNat_Int, decide_true, decide_false, List.all_cons, List.all_nil, Nat.zero_mul, Nat.mul_one, Nat.one_mul, wl, hd, ix, hc, ht, hle, cellsA_agg, cc.2, ct.2, hK1, cq, d1, d2, dz, il2, ix2, hc2, r2, dl, eg, seqR_ret, outs_normal]
    exact ⟨a1, exF2 rfl ⟨rfl, .inr (by first | rfl | trivial)⟩⟩
   rcases hg2 : tgood s.tb bl ar with _ | _ <;> rw [hg2] at et
   ·simp -implicitDefEqProofs (maxSteps := 5000000) only [go_sem, Nat.reduceShiftRight, Nat.reduceAnd, Nat.reduceBNe, Int.reduceEq, Nat.reduceAdd, Nat.reduceSub, Nat.reduceMul, Nat.reduceLeDiff, reduceIte, reduceCtorEq, Nat.reduceBEq, Nat.reduceEqDiff, wrap64, runC_loop, runC_range, callF_fn, callV_fn, callV_yld, yield_eq, yieldBody, yieldRaw, roundMid, roundEnd, rangeEnd, Bool.not_not, put_cons, put_nil, trim_same, at_zero, at_add, set_zero, set_add, store_one, write_zero, write_add, write_head, write_succ, splice_one, splice_more, List.drop_nil, List.take_nil, cell_int, cell_bool, fillS, splice_one, idxA, Ex.isNormal, List.set_nil, List.length_set, List.all_cons, List.all_nil, Bool.and_self, and_self, true_and, and_true, List.getElem?_nil, Int.reduceLT, Int.reduceLE, Int.reduceToNat, Int.toNat_zero, Int.toNat_one, Int.reduceAdd, Int.reduceSub, Int.reduceMul, Int.reduceNeg, Int.reduceBEq, Int.reduceBNe, Int.reduceGE, Int.reduceGT, Nat.reduceLT, trim_keep, under_fn, under_ptr, under_sl, Nat.lt_irrefl, not_lt_add, trim_tail, keepOk, ABlk.vals, Int.cast_ofNat_Int, decide_true, decide_false, List.all_cons, List.all_nil, Nat.zero_mul, Nat.mul_one, Nat.one_mul, wl, hd, ix, hc, ht, hle, cellsA_agg, cc.2, ct.2, hK1, cq, d1, d2, dz, il2, ix2, hc2, r2, dl, eg, et, seqR_ret, outs_normal]
    exact ⟨a1, exF2 rfl ⟨rfl, .inr (by first | rfl | trivial)⟩⟩
   have G := good_iff.1 hg2
   have l1 := rgooL1 fs1 (by omega) cq bc1 pt1 ft (fun p hp => by have := (G.rng p hp).1; omega) (k := s.tb.length) (i := 0)
   rw [show ((0 : Nat) : Int) = 0 from rfl, List.drop_zero] at l1
   rw [Bool.true_and, Bool.true_and]
   simp -implicitDefEqProofs (maxSteps := 5000000) only [go_sem, Nat.reduceShiftRight, Nat.reduceAnd, Nat.reduceBNe, Int.reduceEq, Nat.reduceAdd, Nat.reduceSub, Nat.reduceMul, Nat.reduceLeDiff, reduceIte, reduceCtorEq, Nat.reduceBEq, Nat.reduceEqDiff, wrap64, runC_loop, runC_range, callF_fn, callV_fn, callV_yld, yield_eq, yieldBody, yieldRaw, roundMid, roundEnd, rangeEnd, Bool.not_not, put_cons, put_nil, trim_same, at_zero, at_add, set_zero, set_add, store_one, write_zero, write_add, write_head, write_succ, splice_one, splice_more, List.drop_nil, List.take_nil, cell_int, cell_bool, fillS, splice_one, idxA, Ex.isNormal, List.set_nil, List.length_set, List.all_cons, List.all_nil, Bool.and_self, and_self, true_and, and_true, List.getElem?_nil, Int.reduceLT, Int.reduceLE, Int.reduceToNat, Int.toNat_zero, Int.toNat_one, Int.reduceAdd, Int.reduceSub, Int.reduceMul, Int.reduceNeg, Int.reduceBEq, Int.reduceBNe, Int.reduceGE, Int.reduceGT, Nat.reduceLT, trim_keep, under_fn, under_ptr, under_sl, Nat.lt_irrefl, not_lt_add, trim_tail, keepOk, ABlk.vals, Int.cast_ofNat_Int, decide_true, decide_false, List.all_cons, List.all_nil, Nat.zero_mul, Nat.mul_one, Nat.one_mul, runC_loop, wl, hd, ix, hc, ht, hle, cellsA_agg, cc.2, ct.2, hK1, cq, d1, d2, dz, il2, ix2, hc2, r2, dl, eg, et]
   unfold LP1 at l1
   generalize (envL prog).loop (runC (envL prog) (l15x1 (envL prog))) = LL1 at l1 ⊢
   refine outs_ctx (fun r => seqR (seqR (blockR 1 (seqR (blockR 2 r) _)) _) _) (l1 _ _ _ _ _ _ _ _ _ _ _ _ _ _ _ _ _ _ _ _ _ _ _ _ _ _ _ _ _ _ _ _ _ _ _ _ _ _ _ _ _ _ _ _ _ _ _ _ _ _ _ _ _ _ _ _ _ _ _ _ _ _ _ _ _ _ _ _ _ _ _ _ _ _ _ _ _ _ _ _ _ _ _ _ _ _ _ _ _ _ _ _ _ _ _ _ _ _ _ _ _ _ _ _ _ _ _ _ _ _ _ _ _ _ _ _ _ _ _ _ _ _ _ _ _ _ _ _ _ _ _ _ _ _ _ _ (by omega)) ?_
   rintro e t K' ⟨rfl, fv, rfl, f6, ⟨rfl, ho⟩ | ⟨rfl, ho⟩⟩
   ·rw [ho, Bool.true_and]
    have l2 := rgooL2 (H := H) (q := K.length) (vc := vc) pt ft (k := s.tb.length) (i := 0) (K := K') (w := w) (ats := ats)
    rw [show ((0 : Nat) : Int) = 0 from rfl, List.drop_zero] at l2
    simp -implicitDefEqProofs (maxSteps := 5000000) only [go_sem, Nat.reduceShiftRight, Nat.reduceAnd, Nat.reduceBNe, Int.reduceEq, Nat.reduceAdd, Nat.reduceSub, Nat.reduceMul, Nat.reduceLeDiff, reduceIte, reduceCtorEq, Nat.reduceBEq, Nat.reduceEqDiff, wrap64, runC_loop, runC_range, callF_fn, callV_fn, callV_yld, yield_eq, yieldBody, yieldRaw, roundMid, roundEnd, rangeEnd, Bool.not_not, put_cons, put_nil, trim_same, at_zero, at_add, set_zero, set_add, store_one, write_zero, write_add, write_head, write_succ, splice_one, splice_more, List.drop_nil, List.take_nil, cell_int, cell_bool, fillS, splice_one, idxA, Ex.isNormal, List.set_nil, List.length_set, List.all_cons, List.all_nil, Bool.and_self, and_self, true_and, and_true, List.getElem?_nil, Int.reduceLT, Int.reduceLE, Int.reduceToNat, Int.toNat_zero, Int.toNat_one, Int.reduceAdd, Int.reduceSub, Int.reduceMul, Int.reduceNeg, Int.reduceBEq, Int.reduceBNe, Int.reduceGE, Int.reduceGT, Nat.reduceLT, trim_keep, under_fn, under_ptr, under_sl, Nat.lt_irrefl, not_lt_add, trim_tail, keepOk, ABlk.vals, Int.cast_ofNat_Int, decide_true, decide_false, List.all_cons, List.all_nil, Nat.zero_mul, Nat.mul_one, Nat.one_mul, runC_loop, f6]
    unfold LP1 at l2
    generalize (envL prog).loop (runC (envL prog) (l15x2 (envL prog))) = LL2 at l2 ⊢
    refine outs_ctx (fun r => seqR (seqR (blockR 1 (seqR (blockR 6 r) _)) _) _) (l2 _ _ _ _ _ _ _ _ _ _ _ _ _ _ _ _ _ _ _ _ _ _ _ _ _ _ _ _ _ _ _ _ _ _ _ _ _ _ _ _ _ _ _ _ _ _ _ _ _ _ _ _ _ _ _ _ _ _ _ _ _ _ _ _ _ _ _ _ _ _ _ _ _ _ _ _ _ _ _ _ _ _ _ _ _ _ _ _ _ _ _ _ _ _ _ _ _ _ _ _ _ _ _ _ _ _ _ _ _ _ _ _ _ _ _ _ _ _ _ _ _ _ _ _ _ _ _ _ _ _ _ _ _ _ _ _ _ a1 fs1 cq hne (by omega) (by omega)) ?_
    rintro e t K2 ⟨rfl, a2, cq2, fw, rfl, fs2⟩
    obtain ⟨cl, R, gr, ec⟩ := Bt.allR (a2.bs bc) (by have := ft.lc; omega)
    obtain ⟨K3, hK3⟩ : ∃ K3, K3 = K2 ++ R := ⟨_, rfl⟩
    have A3 : Adds K2 K3 := ⟨_, hK3⟩
    have isc : IS K3 cl (Bt.allS s.ch) := by rw [hK3]; exact Bt.Grown.is gr
    rw [← hK3] at ec
    have a3 := a2.trans A3
    have l3 := rgooL3 (n := L.length) (i0 := i) wl (by omega) hlt isc (by have := Bt.allS_len s.ch; have := ft.lc; omega) (A3.cells cq2) (pt.adds a3) ft (k := (Bt.allS s.ch).length) (j := 0)
    rw [show ((0 : Nat) : Int) = 0 from rfl, List.drop_zero] at l3
    simp -implicitDefEqProofs (maxSteps := 5000000) only [go_sem, Nat.reduceShiftRight, Nat.reduceAnd, Nat.reduceBNe, Int.reduceEq, Nat.reduceAdd, Nat.reduceSub, Nat.reduceMul, Nat.reduceLeDiff, reduceIte, reduceCtorEq, Nat.reduceBEq, Nat.reduceEqDiff, wrap64, runC_loop, runC_range, callF_fn, callV_fn, callV_yld, yield_eq, yieldBody, yieldRaw, roundMid, roundEnd, rangeEnd, Bool.not_not, put_cons, put_nil, trim_same, at_zero, at_add, set_zero, set_add, store_one, write_zero, write_add, write_head, write_succ, splice_one, splice_more, List.drop_nil, List.take_nil, cell_int, cell_bool, fillS, splice_one, idxA, Ex.isNormal, List.set_nil, List.length_set, List.all_cons, List.all_nil, Bool.and_self, and_self, true_and, and_true, List.getElem?_nil, Int.reduceLT, Int.reduceLE, Int.reduceToNat, Int.toNat_zero, Int.toNat_one, Int.reduceAdd, Int.reduceSub, Int.reduceMul, Int.reduceNeg, Int.reduceBEq, Int.reduceBNe, Int.reduceGE, Int.reduceGT, Nat.reduceLT, trim_keep, under_fn, under_ptr, under_sl, Nat.lt_irrefl, not_lt_add, trim_tail, keepOk, ABlk.vals, Int.cast_ofNat_Int, decide_true, decide_false, List.all_cons, List.all_nil, Nat.zero_mul, Nat.mul_one, Nat.one_mul, runC_loop, cq2, ec]
    unfold LP1 at l3
    generalize (envL prog).loop (runC (envL prog) (l15x3 (envL prog))) = LL3 at l3 ⊢
    refine outs_ctx (fun r => seqR (seqR (blockR 1 (blockR 8 r)) _) _) (l3 _ _ _ _ _ _ _ _ _ _ _ _ _ _ _ _ _ _ _ _ _ _ _ _ _ _ _ _ _ _ _ _ _ _ _ _ _ _ _ _ _ _ _ _ _ _ _ _ _ _ _ _ _ _ _ _ _ _ _ _ _ _ _ _ _ _ _ _ _ _ _ _ _ _ _ _ _ _ _ _ _ _ _ _ _ _ _ _ _ _ _ _ _ _ _ _ _ _ _ _ _ _ _ _ _ _ _ _ _ _ _ _ _ _ _ _ _ _ _ _ _ _ _ _ _ _ _ _ _ _ _ _ _ _ (by omega)) ?_
    rintro e t K4 ⟨rfl, fx, rfl, f6', ⟨rfl, ho2⟩ | ⟨rfl, ho2⟩⟩
    ·rw [ho2, Bool.true_and]
     have key := ih (i + 1) K4 (fw 7) (ats ++ s.tb.map (·.2))
     rw [hpv] at key
     simp -implicitDefEqProofs (maxSteps := 5000000) only [go_sem, Nat.reduceShiftRight, Nat.reduceAnd, Nat.reduceBNe, Int.reduceEq, Nat.reduceAdd, Nat.reduceSub, Nat.reduceMul, Nat.reduceLeDiff, reduceIte, reduceCtorEq, Nat.reduceBEq, Nat.reduceEqDiff, wrap64, runC_loop, runC_range, callF_fn, callV_fn, callV_yld, yield_eq, yieldBody, yieldRaw, roundMid, roundEnd, rangeEnd, Bool.not_not, put_cons, put_nil, trim_same, at_zero, at_add, set_zero, set_add, store_one, write_zero, write_add, write_head, write_succ, splice_one, splice_more, List.drop_nil, List.take_nil, cell_int, cell_bool, fillS, splice_one, idxA, Ex.isNormal, List.set_nil, List.length_set, List.all_cons, List.all_nil, Bool.and_self, and_self, true_and, and_true, List.getElem?_nil, Int.reduceLT, Int.reduceLE, Int.reduceToNat, Int.toNat_zero, Int.toNat_one, Int.reduceAdd, Int.reduceSub, Int.reduceMul, Int.reduceNeg, Int.reduceBEq, Int.reduceBNe, Int.reduceGE, Int.reduceGT, Nat.reduceLT, trim_keep, under_fn, under_ptr, under_sl, Nat.lt_irrefl, not_lt_add, trim_tail, keepOk, ABlk.vals, Int.cast_ofNat_Int, decide_true, decide_false, List.all_cons, List.all_nil, Nat.zero_mul, Nat.mul_one, Nat.one_mul, f6', e2]
     exact key _ _ _ _ _ _ _ _ _ _ _ _ _ _ _ _ _ _ _ _ _ _ _ _ _ _ _ _ _ _ _ _ _ _ _ _ _ _ _ _ _ _ _ _ _ _ _ _ _ _ _ _ _ _ _ _ _ _ _ _ _ _ _ _ _ _ _ _ _ _ _ _ _ _ _ _ _ _ _ _ _ _ _ _ _ _ _ _ _ _ _ _ _ _ _ _ _ _ _ _ _ _ _ _ _ _ _ _ _ _ _ _ _ _ _ _ _ _ _ _ _ _ _ _ _ _ _ _ a3 (fs2.frT (Fr.adds A3 (fun _ => False)) fun _ _ h => h) (by rw [List.length_append, List.length_map]; have := ft.lt; omega) (by omega)
    ·rw [ho2, Bool.false_and]
     simp -implicitDefEqProofs (maxSteps := 5000000) only [go_sem, Nat.reduceShiftRight, Nat.reduceAnd, Nat.reduceBNe, Int.reduceEq, Nat.reduceAdd, Nat.reduceSub, Nat.reduceMul, Nat.reduceLeDiff, reduceIte, reduceCtorEq, Nat.reduceBEq, Nat.reduceEqDiff, wrap64, runC_loop, runC_range, callF_fn, callV_fn, callV_yld, yield_eq, yieldBody, yieldRaw, roundMid, roundEnd, rangeEnd, Bool.not_not, put_cons, put_nil, trim_same, at_zero, at_add, set_zero, set_add, store_one, write_zero, write_add, write_head, write_succ, splice_one, splice_more, List.drop_nil, List.take_nil, cell_int, cell_bool, fillS, splice_one, idxA, Ex.isNormal, List.set_nil, List.length_set, List.all_cons, List.all_nil, Bool.and_self, and_self, true_and, and_true, List.getElem?_nil, Int.reduceLT, Int.reduceLE, Int.reduceToNat, Int.toNat_zero, Int.toNat_one, Int.reduceAdd, Int.reduceSub, Int.reduceMul, Int.reduceNeg, Int.reduceBEq, Int.reduceBNe, Int.reduceGE, Int.reduceGT, Nat.reduceLT, trim_keep, under_fn, under_ptr, under_sl, Nat.lt_irrefl, not_lt_add, trim_tail, keepOk, ABlk.vals, Int.cast_ofNat_Int, decide_true, decide_false, List.all_cons, List.all_nil, Nat.zero_mul, Nat.mul_one, Nat.one_mul, seqR_ret, outs_normal]
     exact ⟨a3, exF2 rfl ⟨f6', .inr (by first | rfl | trivial)⟩⟩
   ·rw [ho, Bool.false_and]
    simp -implicitDefEqProofs (maxSteps := 5000000) only [go_sem, Nat.reduceShiftRight, Nat.reduceAnd, Nat.reduceBNe, Int.reduceEq, Nat.reduceAdd, Nat.reduceSub, Nat.reduceMul, Nat.reduceLeDiff, reduceIte, reduceCtorEq, Nat.reduceBEq, Nat.reduceEqDiff, wrap64, runC_loop, runC_range, callF_fn, callV_fn, callV_yld, yield_eq, yieldBody, yieldRaw, roundMid, roundEnd, rangeEnd, Bool.not_not, put_cons, put_nil, trim_same, at_zero, at_add, set_zero, set_add, store_one, write_zero, write_add, write_head, write_succ, splice_one, splice_more, List.drop_nil, List.take_nil, cell_int, cell_bool, fillS, splice_one, idxA, Ex.isNormal, List.set_nil, List.length_set, List.all_cons, List.all_nil, Bool.and_self, and_self, true_and, and_true, List.getElem?_nil, Int.reduceLT, Int.reduceLE, Int.reduceToNat, Int.toNat_zero, Int.toNat_one, Int.reduceAdd, Int.reduceSub, Int.reduceMul, Int.reduceNeg, Int.reduceBEq, Int.reduceBNe, Int.reduceGE, Int.reduceGT, Nat.reduceLT, trim_keep, under_fn, under_ptr, under_sl, Nat.lt_irrefl, not_lt_add, trim_tail, keepOk, ABlk.vals, Int.cast_ofNat_Int, decide_true, decide_false, List.all_cons, List.all_nil, Nat.zero_mul, Nat.mul_one, Nat.one_mul, seqR_ret, outs_normal]
    exact ⟨a1, exF2 rfl ⟨f6, .inr (by first | rfl | trivial)⟩⟩
theorem rcgoodC : (envL prog).call 15 [v, .int .i64 bl, .int .i64 ar] H = some (.bool (rgoodF bl ar L none []), H) := by
 have wl := g.len
 have d8 : decide ((L.length : Int) > 8) = false := decide_eq_false (by omega)
 have l0 := rgooL4 g fi h8 hbl ar (k := L.length) (i := 0) (K := H) (w := .nilSl) (ats := [])
 rw [show ((0 : Nat) : Int) = 0 from rfl, List.drop_zero, show pvAt L 0 = none from rfl] at l0
 have key : Outs (runC (envL prog) (b15 (envL prog)) ([v, .int .i64 bl, .int .i64 ar] ++ List.replicate (140 - [v, AV.int .i64 bl, .int .i64 ar].length) .undef) H) fun e' t K => Adds H K ∧ fin [.tmp 6] (some (e', t, K)) = some (.bool (rgoodF bl ar L none []), K) := by
  unfold b15
  generalize hQ : (fun (e' : Ex) (t : T) (K : AHeap) => Adds H K ∧ fin [.tmp 6] (some (e', t, K)) = some (AV.bool (rgoodF bl ar L none []), K)) = Q
  simp -implicitDefEqProofs (maxSteps := 5000000) only [go_sem, Nat.reduceShiftRight, Nat.reduceAnd, Nat.reduceBNe, Int.reduceEq, Nat.reduceAdd, Nat.reduceSub, Nat.reduceMul, Nat.reduceLeDiff, reduceIte, reduceCtorEq, Nat.reduceBEq, Nat.reduceEqDiff, wrap64, runC_loop, runC_range, callF_fn, callV_fn, callV_yld, yield_eq, yieldBody, yieldRaw, roundMid, roundEnd, rangeEnd, Bool.not_not, put_cons, put_nil, trim_same, at_zero, at_add, set_zero, set_add, store_one, write_zero, write_add, write_head, write_succ, splice_one, splice_more, List.drop_nil, List.take_nil, cell_int, cell_bool, fillS, splice_one, idxA, Ex.isNormal, List.set_nil, List.length_set, List.all_cons, List.all_nil, Bool.and_self, and_self, true_and, and_true, List.getElem?_nil, Int.reduceLT, Int.reduceLE, Int.reduceToNat, Int.toNat_zero, Int.toNat_one, Int.reduceAdd, Int.reduceSub, Int.reduceMul, Int.reduceNeg, Int.reduceBEq, Int.reduceBNe, Int.reduceGE, Int.reduceGT, Nat.reduceLT, trim_keep, under_fn, under_ptr, under_sl, Nat.lt_irrefl, not_lt_add, trim_tail, keepOk, ABlk.vals, Int.cast_ofNat_Int, decide_true, decide_false, List.all_cons, List.all_nil, Nat.zero_mul, Nat.mul_one, Nat.one_mul, runC_loop, wl, d8]
  unfold LP1 at l0
  generalize (envL prog).loop (runC (envL prog) (l15x4 (envL prog))) = L0 at l0 ⊢
  refine outs_ctx (fun r => seqR (blockR 0 r) _) (l0 _ _ _ _ _ _ _ _ _ _ _ _ _ _ _ _ _ _ _ _ _ _ _ _ _ _ _ _ _ _ _ _ _ _ _ _ _ _ _ _ _ _ _ _ _ _ _ _ _ _ _ _ _ _ _ _ _ _ _ _ _ _ _ _ _ _ _ _ _ _ _ _ _ _ _ _ _ _ _ _ _ _ _ _ _ _ _ _ _ _ _ _ _ _ _ _ _ _ _ _ _ _ _ _ _ _ _ _ _ _ _ _ _ _ _ _ _ _ _ _ _ _ _ _ _ _ _ _ _ _ _ _ _ _ (Adds.refl H) (.inl ⟨rfl, rfl⟩) (by simp) (by omega)) ?_
  rintro e t K ⟨aK, fv, rfl, f6, ⟨rfl, ho⟩ | ⟨rfl, ho⟩⟩
  ·simp -implicitDefEqProofs (maxSteps := 5000000) only [go_sem, Nat.reduceShiftRight, Nat.reduceAnd, Nat.reduceBNe, Int.reduceEq, Nat.reduceAdd, Nat.reduceSub, Nat.reduceMul, Nat.reduceLeDiff, reduceIte, reduceCtorEq, Nat.reduceBEq, Nat.reduceEqDiff, outs_normal]
   subst hQ
   rw [ho]
   refine ⟨aK, ?_⟩
   simp -implicitDefEqProofs (maxSteps := 5000000) only [go_sem, Nat.reduceShiftRight, Nat.reduceAnd, Nat.reduceBNe, Int.reduceEq, Nat.reduceAdd, Nat.reduceSub, Nat.reduceMul, Nat.reduceLeDiff, reduceIte, reduceCtorEq, Nat.reduceBEq, Nat.reduceEqDiff]
  ·simp -implicitDefEqProofs (maxSteps := 5000000) only [go_sem, Nat.reduceShiftRight, Nat.reduceAnd, Nat.reduceBNe, Int.reduceEq, Nat.reduceAdd, Nat.reduceSub, Nat.reduceMul, Nat.reduceLeDiff, reduceIte, reduceCtorEq, Nat.reduceBEq, Nat.reduceEqDiff, outs_normal]
   subst hQ
   rw [ho]
   refine ⟨aK, ?_⟩
   simp -implicitDefEqProofs (maxSteps := 5000000) only [go_sem, Nat.reduceShiftRight, Nat.reduceAnd, Nat.reduceBNe, Int.reduceEq, Nat.reduceAdd, Nat.reduceSub, Nat.reduceMul, Nat.reduceLeDiff, reduceIte, reduceCtorEq, Nat.reduceBEq, Nat.reduceEqDiff, f6]
 obtain ⟨e', t, K, hr, aK, hf⟩ := key
 rw [c15, hr, hf]
 exact aK.trimS rfl
end
theorem rcgood {H : AHeap} {v : AV} {L : List SnS} (g : IsC H v L) (fi : Fits L) {bl : Int} (hbl : bl ≤ 9223372036854775807) (ar : Int) : (envL prog).call 15 [v, .int .i64 bl, .int .i64 ar] H = some (.bool (cgood L bl ar), H) := by
 by_cases h8 : L.length ≤ 8
 ·rw [rcgoodC g fi h8 hbl ar, rgood_eq bl ar L none [] fun s hs => (fi.2 s hs).u8]
  unfold cgood; rw [decide_eq_true h8]; rfl
 ·have wl := g.len
  have d8 : decide ((L.length : Int) > 8) = true := decide_eq_true (by omega)
  have hs : cgood L bl ar = false := by unfold cgood; rw [decide_eq_false h8]; rfl
  rw [hs, c15]
  unfold b15
  simp -implicitDefEqProofs (maxSteps := 5000000) only [go_sem, Nat.reduceShiftRight, Nat.reduceAnd, Nat.reduceBNe, Int.reduceEq, Nat.reduceAdd, Nat.reduceSub, Nat.reduceMul, Nat.reduceLeDiff, reduceIte, reduceCtorEq, Nat.reduceBEq, Nat.reduceEqDiff, wrap64, runC_loop, runC_range, callF_fn, callV_fn, callV_yld, yield_eq, yieldBody, yieldRaw, roundMid, roundEnd, rangeEnd, Bool.not_not, put_cons, put_nil, trim_same, at_zero, at_add, set_zero, set_add, store_one, write_zero, write_add, write_head, write_succ, splice_one, splice_more, List.drop_nil, List.take_nil, cell_int, cell_bool, fillS, splice_one, idxA, Ex.isNormal, List.set_nil, List.length_set, List.all_cons, List.all_nil, Bool.and_self, and_self, true_and, and_true, List.getElem?_nil, Int.reduceLT, Int.reduceLE, Int.reduceToNat, Int.toNat_zero, Int.toNat_one, Int.reduceAdd, Int.reduceSub, Int.reduceMul, Int.reduceNeg, Int.reduceBEq, Int.reduceBNe, Int.reduceGE, Int.reduceGT, Nat.reduceLT, trim_keep, under_fn, under_ptr, under_sl, Nat.lt_irrefl, not_lt_add, trim_tail, keepOk, ABlk.vals, Int.cast_ofNat_Int, decide_true, decide_false, List.all_cons, List.all_nil, Nat.zero_mul, Nat.mul_one, Nat.one_mul, wl, d8]
end Go.Proofs.Ythhodjcgcgkaaaa.G11
end
section
namespace Go.Proofs.Ythhodjcgcgkaaaa.G11
open Go Go.Proofs.Ythhodjcgcgkaaaa.Eng
def L3 : List SnS := [⟨1, [6], [(1, 0), (2, 1)]⟩, ⟨4, [12], [(2, 2), (3, 3)]⟩, ⟨5, [16], []⟩]
def K3 : AHeap := [.rw [.int .u8 6], .rw [.int .i64 1, .int .i64 0, .int .i64 2, .int .i64 1], .rw [.int .u8 12], .rw [.int .i64 2, .int .i64 2, .int .i64 3, .int .i64 3], .rw [.int .u8 16], .rw [.int .i64 1, .sl 0 0 1 1 1 true, .sl 1 0 2 2 2 true, .int .i64 4, .sl 2 0 1 1 1 true, .sl 3 0 2 2 2 true, .int .i64 5, .sl 4 0 1 1 1 true, .nilSl]]
set_option maxHeartbeats 4000000 in
theorem threeC : (envL prog).call 31 [] [] = some (.sl 5 0 3 3 3 true, K3) := by
 rw [c31]
 unfold b31
 simp -implicitDefEqProofs (maxSteps := 5000000) only [go_sem, Nat.reduceShiftRight, Nat.reduceAnd, Nat.reduceBNe, Int.reduceEq, Nat.reduceAdd, Nat.reduceSub, Nat.reduceMul, Nat.reduceLeDiff, reduceIte, reduceCtorEq, Nat.reduceBEq, Nat.reduceEqDiff, wrap64, runC_loop, runC_range, callF_fn, callV_fn, callV_yld, yield_eq, yieldBody, yieldRaw, roundMid, roundEnd, rangeEnd, Bool.not_not, put_cons, put_nil, trim_same, at_zero, at_add, set_zero, set_add, store_one, write_zero, write_add, write_head, write_succ, splice_one, splice_more, List.drop_nil, List.take_nil, cell_int, cell_bool, fillS, splice_one, idxA, Ex.isNormal, List.set_nil, List.length_set, List.all_cons, List.all_nil, Bool.and_self, and_self, true_and, and_true, List.getElem?_nil, Int.reduceLT, Int.reduceLE, Int.reduceToNat, Int.toNat_zero, Int.toNat_one, Int.reduceAdd, Int.reduceSub, Int.reduceMul, Int.reduceNeg, Int.reduceBEq, Int.reduceBNe, Int.reduceGE, Int.reduceGT, Nat.reduceLT, trim_keep, under_fn, under_ptr, under_sl, Nat.lt_irrefl, not_lt_add, trim_tail, keepOk, ABlk.vals, Int.cast_ofNat_Int, decide_true, decide_false, List.all_cons, List.all_nil, Nat.zero_mul, Nat.mul_one, Nat.one_mul, cellsA_agg]
 rfl
theorem isC3 : IsC K3 (.sl 5 0 3 3 3 true) L3 := by
 refine .inr ⟨5, 3, true, [[.int .i64 1, .sl 0 0 1 1 1 true, .sl 1 0 2 2 2 true], [.int .i64 4, .sl 2 0 1 1 1 true, .sl 3 0 2 2 2 true], [.int .i64 5, .sl 4 0 1 1 1 true, .nilSl]], [], rfl, by decide, rfl, rfl, fun i r s h1 h2 => ?_⟩
 match i with
 | 0 =>
  simp only [L3, List.getElem?_cons_zero, Option.some.injEq] at h1 h2
  subst h1; subst h2
  exact ⟨_, _, rfl, BS.block (H := K3) (b := 0) (zs := [6]) (l := 1) (e := true) rfl, .inr ⟨1, 2, true, rfl, by decide, rfl⟩⟩
 | 1 =>
  simp only [L3, List.getElem?_cons_succ, List.getElem?_cons_zero, Option.some.injEq] at h1 h2
  subst h1; subst h2
  exact ⟨_, _, rfl, BS.block (H := K3) (b := 2) (zs := [12]) (l := 1) (e := true) rfl, .inr ⟨3, 2, true, rfl, by decide, rfl⟩⟩
 | 2 =>
  simp only [L3, List.getElem?_cons_succ, List.getElem?_cons_zero, Option.some.injEq] at h1 h2
  subst h1; subst h2
  exact ⟨_, _, rfl, BS.block (H := K3) (b := 4) (zs := [16]) (l := 1) (e := true) rfl, .inl ⟨rfl, rfl⟩⟩
 | n + 3 => simp [L3] at h2
theorem fits3 : Fits L3 := ⟨by decide, fun s hs => by
 simp only [L3, List.mem_cons, List.mem_nil_iff, or_false] at hs
 rcases hs with rfl | rfl | rfl <;> exact ⟨by unfold IsU8; decide, by decide, by decide⟩⟩
noncomputable def XD : Over := X3.up prog 22
theorem xd_ok : XD.Ok prog := up_ok goodP x3_ok _
theorem xd_call (f : Nat) (args : List AV) (h : AHeap) (ed : (f == 22) = false) (em : (f == 44) = false) (e0 : (f == 61) = false) (e1 : (f == 69) = false) (e2 : (f == 70) = false) : (envX prog XD).call f args h = (envL prog).call f args h := by
 unfold XD Over.up; rw [x_miss _ _ ed, x3_call _ _ _ em e0 e1 e2]
theorem xd_drop {args : List AV} {h : AHeap} {r : AV × AHeap} (e : callBody prog (envX prog X3) 22 args h = some r) : (envX prog XD).call 22 args h = some r := x_hit e
set_option maxHeartbeats 8000000 in
theorem wakesC : ∃ h1, callBody prog (envX prog XD) 10 [] [] = some (.bool true, h1) := by
 have e0 := threeC
 obtain ⟨v1, K1, e1, a1, g1⟩ := dropC isC3 fits3 1
 have e1 := xd_drop e1
 rw [show dropS L3 1 = [⟨1, [14], [(1, 0), (2, 1), (3, 3)]⟩, ⟨5, [16], []⟩] by decide +kernel] at g1
 have c3 := isC3.adds a1
 obtain ⟨v2, K2, e2, a2, g2⟩ := cutC c3 fits3 1
 rw [show cutS L3 1 = [⟨1, [6], [(1, 0), (2, 1)]⟩, ⟨4, [0], []⟩] by decide +kernel] at g2
 have c3 := c3.adds a2
 have g1 := g1.adds a2
 have e3 := holderC c3 fits3 3 0
 have e4 := holderC c3 fits3 4 0
 rw [show holdS L3 0 3 = (3, true) by decide +kernel] at e3
 rw [show holdS L3 0 4 = (0, false) by decide +kernel] at e4
 have e5 := cgoodC c3 fits3 (bl := 8) (by decide) 4
 rw [show cgood L3 8 4 = true by decide +kernel] at e5
 have e6 := cindexC c3 fits3 5
 have e7 := cindexC c3 fits3 2
 rw [show cidF 5 0 L3 = 2 by decide +kernel] at e6
 rw [show cidF 2 0 L3 = -1 by decide +kernel] at e7
 obtain ⟨v3, K4, e8, a3, g3⟩ := changedC c3 fits3 2 0
 rw [show chgS L3 0 2 = [14] by decide +kernel] at g3
 have A4 : Adds K4 (K4 ++ [ABlk.rw [.int .u8 14]]) := ⟨_, rfl⟩
 have e9 := Bt.bytesC (A4.bs g3) (w := .sl K4.length 0 1 1 1 true) (ys := [14]) (BS.block (H := K4 ++ [ABlk.rw [.int .u8 14]]) (b := K4.length) (zs := [14]) (l := 1) (e := true) (by simp; rfl)) (by unfold IsU8; decide) (by unfold IsU8; decide)
 rw [show decide (([14] : List Int) = [14]) = true by decide] at e9
 have l1 := g1.len
 have l2 := g2.len
 obtain ⟨b1, cs1, vc1, vt1, _, ix1, hc1, _, q1, q2, _, _, bc1, pt1⟩ := g1.idx (i := 0) (s := ⟨1, [14], [(1, 0), (2, 1), (3, 3)]⟩) rfl
 obtain ⟨b2, cs2, vc2, vt2, _, ix2, hc2, _, r1, r2, _, _, bc2, pt2⟩ := g2.idx (i := 1) (s := ⟨4, [0], []⟩) rfl
 have m1 := pt1.len
 have m2 := pt2.len
 obtain ⟨p1, jx1, ld1⟩ := bc1.idx (i := 0) (z := 14) rfl .i64
 obtain ⟨p2, jx2, ld2⟩ := bc2.idx (i := 0) (z := 0) rfl .i64
 rw [show (((0 : Nat)) : Int) = 0 from rfl] at ix1 jx1 jx2
 rw [show (((1 : Nat)) : Int) = 1 from rfl] at ix2
 simp only [List.length_cons, List.length_nil] at l1 l2 m1 m2
 simp only [Nat.reduceAdd, Nat.reduceMul, Nat.zero_add, Nat.zero_mul, Nat.one_mul, show ((3 : Nat) : Int) = 3 from rfl, show ((2 : Nat) : Int) = 2 from rfl, show ((0 : Nat) : Int) = 0 from rfl] at l1 l2 m1 m2 ix1 ix2 q1 q2 r1 r2
 rw [d10]
 have key : Outs (runC (envX prog XD) (b10 (envX prog XD)) ([] ++ List.replicate (96 - ([] : List AV).length) .undef) []) fun e t h1 => fin [.tmp 0] (some (e, t, h1)) = some (AV.bool true, h1) := by
  unfold b10
  generalize hQ : (fun (e : Ex) (t : T) (h1 : AHeap) => fin [.tmp 0] (some (e, t, h1)) = some (AV.bool true, h1)) = Q
  simp -implicitDefEqProofs (maxSteps := 5000000) only [go_sem, Nat.reduceShiftRight, Nat.reduceAnd, Nat.reduceBNe, Int.reduceEq, Nat.reduceAdd, Nat.reduceSub, Nat.reduceMul, Nat.reduceLeDiff, reduceIte, reduceCtorEq, Nat.reduceBEq, Nat.reduceEqDiff, wrap64, runC_loop, runC_range, callF_fn, callV_fn, callV_yld, yield_eq, yieldBody, yieldRaw, roundMid, roundEnd, rangeEnd, Bool.not_not, put_cons, put_nil, trim_same, at_zero, at_add, set_zero, set_add, store_one, write_zero, write_add, write_head, write_succ, splice_one, splice_more, List.drop_nil, List.take_nil, cell_int, cell_bool, fillS, splice_one, idxA, Ex.isNormal, List.set_nil, List.length_set, List.all_cons, List.all_nil, Bool.and_self, and_self, true_and, and_true, List.getElem?_nil, Int.reduceLT, Int.reduceLE, Int.reduceToNat, Int.toNat_zero, Int.toNat_one, Int.reduceAdd, Int.reduceSub, Int.reduceMul, Int.reduceNeg, Int.reduceBEq, Int.reduceBNe, Int.reduceGE, Int.reduceGT, Nat.reduceLT, trim_keep, under_fn, under_ptr, under_sl, Nat.lt_irrefl, not_lt_add, trim_tail, keepOk, ABlk.vals, Int.cast_ofNat_Int, decide_true, decide_false, List.all_cons, List.all_nil, Nat.zero_mul, Nat.mul_one, Nat.one_mul, xd_call, e0, e1, e2, e3, e4, e5, e6, e7, e8, l1, l2, ix1, hc1, q1, q2, m1, jx1, ld1, ix2, hc2, r1, r2, m2, jx2, ld2, e9, outs_normal]
  subst hQ
  simp -implicitDefEqProofs (maxSteps := 5000000) only [go_sem, Nat.reduceShiftRight, Nat.reduceAnd, Nat.reduceBNe, Int.reduceEq, Nat.reduceAdd, Nat.reduceSub, Nat.reduceMul, Nat.reduceLeDiff, reduceIte, reduceCtorEq, Nat.reduceBEq, Nat.reduceEqDiff]
 unfold b10 at key ⊢
 exact of_outs key
end Go.Proofs.Ythhodjcgcgkaaaa.G11
end
section
namespace Go.Proofs.Ythhodjcgcgkaaaa.G11
open Go Go.Proofs.Ythhodjcgcgkaaaa.Eng
noncomputable def X4 : Over := XD.with 10 wakeR
theorem x4_ok : X4.Ok prog := with_ok xd_ok (wake_ok goodP xd_ok wakesC.choose_spec)
theorem x4_call (f : Nat) (args : List AV) (h : AHeap) (ew : (f == 10) = false) (ed : (f == 22) = false) (em : (f == 44) = false) (e0 : (f == 61) = false) (e1 : (f == 69) = false) (e2 : (f == 70) = false) : (envX prog X4).call f args h = (envL prog).call f args h := by
 unfold X4; rw [x_miss _ _ ew, xd_call _ _ _ ed em e0 e1 e2]
theorem x4_drop {args : List AV} {h : AHeap} {r : AV × AHeap} (e : callBody prog (envX prog X3) 22 args h = some r) : (envX prog X4).call 22 args h = some r := by
 unfold X4; rw [x_miss _ _ (by decide)]; exact xd_drop e
theorem x4_wakes (h : AHeap) : (envX prog X4).call 10 [] h = some (.bool true, h) := x_hit rfl
noncomputable abbrev LZ (l : Env → CT) := (envL prog).loop (runC (envX prog X4) (l (envX prog X4)))
structure Fair (L : List SnS) : Prop where
 n : L.length ≤ 12
 u8 : ∀ s ∈ L, IsU8 s.ch
 lc : ∀ s ∈ L, s.ch.length ≤ 40
 lt : ∀ s ∈ L, s.tb.length ≤ 80
theorem fairS_fair {L : List SnS} (h : fairS L = true) (hu : ∀ s ∈ L, IsU8 s.ch) : Fair L := by
 unfold fairS at h
 rw [Bool.and_eq_true, List.all_eq_true, decide_eq_true_eq] at h
 have q := fun s hs => by
  have := h.1 s hs
  rw [Bool.and_eq_true, decide_eq_true_eq, decide_eq_true_eq] at this
  exact this
 exact ⟨h.2, hu, fun s hs => (q s hs).1, fun s hs => (q s hs).2⟩
theorem Fair.fits {L : List SnS} (f : Fair L) : Fits L := ⟨by have := f.n; omega, fun s hs => ⟨f.u8 s hs, by have := f.lc s hs; omega, by have := f.lt s hs; omega⟩⟩
theorem tmerge_len (a : List PrS) : ∀ (b k : List PrS) (f : List Int), (tmerge a b k f).1.length ≤ k.length + b.length
 | [], k, f => by simp [tmerge]
 | p :: b, k, f => by
  rw [tmerge]
  split
  ·have := tmerge_len a b k (f ++ [p.2]); simp only [List.length_cons]; omega
  ·have := tmerge_len a b (tput k p.1 p.2) f
   have := tput_len k p.1 p.2
   simp only [List.length_cons]; omega
theorem join_fit {s u : SnS} (h1 : IsU8 s.ch) (h2 : IsU8 u.ch) (l1 : s.ch.length ≤ 40) (l2 : u.ch.length ≤ 40) (t1 : s.tb.length ≤ 80) (t2 : u.tb.length ≤ 80) : (joinS s u).Fit :=
 ⟨Bt.orS_u8 h1 h2, by show (Bt.orS s.ch u.ch).length ≤ 1000; rw [Bt.orS_len]; omega, by have := tmerge_len s.tb u.tb s.tb []; show (tmerge s.tb u.tb s.tb []).1.length ≤ 1000; omega⟩
theorem dropN_mem {L : List SnS} : ∀ {k : Nat} {x : SnS}, x ∈ dropN L k → x ∈ L ∨ ∃ s ∈ L, ∃ u ∈ L, x = joinS s u
 | 0, x, h => .inl (List.mem_of_mem_drop h)
 | k + 1, x, h => by
  simp only [dropN] at h
  split at h
  ·rename_i s u hs hu
   rcases List.mem_append.1 h with h | h
   ·exact .inl (List.mem_of_mem_take h)
   ·rcases List.mem_cons.1 h with h | h
    ·exact .inr ⟨s, List.mem_of_getElem? hs, u, List.mem_of_getElem? hu, h⟩
    ·exact .inl (List.mem_of_mem_drop h)
  ·exact .inl h
theorem dropN_len {L : List SnS} : ∀ k : Nat, (dropN L k).length ≤ L.length
 | 0 => by unfold dropN; rw [List.length_drop]; omega
 | k + 1 => by
  simp only [dropN]
  split
  ·rename_i s u hs hu
   have := (List.getElem?_eq_some_iff.1 hu).1
   rw [List.length_append, List.length_take, List.length_cons, List.length_drop]; omega
  ·exact Nat.le_refl _
theorem Fair.drop {L : List SnS} (f : Fair L) (i : Int) : Fits (dropS L i) := by
 unfold dropS
 split
 ·exact f.fits
 ·refine ⟨by have := dropN_len (L := L) i.toNat; have := f.n; omega, fun x hx => ?_⟩
  rcases dropN_mem hx with h | ⟨s, hs, u, hu, rfl⟩
  ·exact f.fits.2 x h
  ·exact join_fit (f.u8 s hs) (f.u8 u hu) (f.lc s hs) (f.lc u hu) (f.lt s hs) (f.lt u hu)
theorem Fair.cut {L : List SnS} (f : Fair L) (i : Int) : Fits (cutS L i) := by
 unfold cutS
 split
 ·exact f.fits
 ·split
  ·rename_i s hs
   refine ⟨by rw [List.length_append, List.length_take, List.length_singleton]; have := f.n; omega, fun x hx => ?_⟩
   rcases List.mem_append.1 hx with h | h
   ·exact f.fits.2 x (List.mem_of_mem_take h)
   ·rw [List.mem_singleton.1 h]
    exact ⟨Bt.rep_u8 _, by show (List.replicate s.ch.length (0 : Int)).length ≤ 1000; rw [List.length_replicate]; have := f.lc s (List.mem_of_getElem? hs); omega, by simp⟩
  ·exact f.fits
end Go.Proofs.Ythhodjcgcgkaaaa.G11
end
section
namespace Go.Proofs.Ythhodjcgcgkaaaa.G11
open Go Go.Proofs.Ythhodjcgcgkaaaa.Eng
section
variable {H : AHeap} {v : AV} {L : List SnS} (g : IsC H v L) (fi : Fits L)
include g fi
end
theorem tmod_nat {n m : Int} (h : 0 ≤ n) (hm : 0 < m) : 0 ≤ n.tmod m ∧ n.tmod m < m := by
 rw [Int.tmod_eq_emod_of_nonneg h]
 exact ⟨Int.emod_nonneg _ (by omega), Int.emod_lt_of_pos _ hm⟩
end Go.Proofs.Ythhodjcgcgkaaaa.G11
end
section
namespace Go.Proofs.Ythhodjcgcgkaaaa.G11
open Go Go.Proofs.Ythhodjcgcgkaaaa.Eng
structure OneC (bl ar : Int) (s : SnS) : Prop where
 u8 : IsU8 s.ch
 id : 1 ≤ s.id ∧ s.id ≤ 1000000
 ch : Bt.goodS s.ch bl = true
 tb : GoodL bl ar s.tb
 sub : ∀ p ∈ s.tb, Bt.hasS s.ch p.1 = true
def Full (s : SnS) : Prop := ∀ c, Bt.hasS s.ch c = true → 0 ≤ idxS s.tb c
def Apart (s u : SnS) : Prop := ∀ p ∈ s.tb, ∀ q ∈ u.tb, p.2 ≠ q.2
structure GoodC (bl ar : Int) (L : List SnS) : Prop where
 one : ∀ s ∈ L, OneC bl ar s
 up : (L.map (·.id)).Pairwise (· < ·)
 ap : L.Pairwise Apart
 full : ∀ s ∈ L.dropLast, Full s
theorem full_all {s : SnS} : (Bt.allS s.ch).all (fun c => decide (0 ≤ idxS s.tb c)) = true ↔ Full s := by
 rw [List.all_eq_true]
 constructor
 ·intro h c hc; exact of_decide_eq_true (h c (mem_allS.2 hc))
 ·intro h c hc; exact decide_eq_true (h c (mem_allS.1 hc))
theorem cgoodF_iff {bl ar : Int} : ∀ (L : List SnS) (pv : Option Int) (ats : List Int), (∀ s ∈ L, IsU8 s.ch) → (cgoodF bl ar L pv ats = true ↔ GoodC bl ar L ∧ (∀ q, pv = some q → ∀ s ∈ L, q < s.id) ∧ ∀ s ∈ L, ∀ p ∈ s.tb, p.2 ∉ ats)
 | [], pv, ats, _ => by
  constructor
  ·intro _; exact ⟨⟨fun s h => (by cases h), by simp, by simp, fun s h => (by cases h)⟩, fun q _ s h => (by cases h), fun s h => (by cases h)⟩
  ·intro _; rfl
 | s :: L, pv, ats, hu => by
  have ih := cgoodF_iff (bl := bl) (ar := ar) L (some s.id) (ats ++ s.tb.map (·.2)) fun s hs => hu s (by simp [hs])
  rw [← rgood_eq bl ar _ _ _ hu, rgoodF, rgood_eq bl ar L _ _ fun s hs => hu s (by simp [hs])]
  simp only [Bool.and_eq_true, decide_eq_true_eq, good_iff]
  rw [ih]
  have hpv : pvOk pv s.id = true ↔ ∀ q, pv = some q → q < s.id := by
   unfold pvOk
   cases pv with
   | none => simp
   | some q => simp
  have htb : s.tb.all (fun p => Bt.hasS s.ch p.1 && !ats.contains p.2) = true ↔ (∀ p ∈ s.tb, Bt.hasS s.ch p.1 = true) ∧ ∀ p ∈ s.tb, p.2 ∉ ats := by
   rw [List.all_eq_true]
   constructor
   ·intro h
    refine ⟨fun p hp => ?_, fun p hp => ?_⟩
    ·have := h p hp; rw [Bool.and_eq_true] at this; exact this.1
    ·have := h p hp; rw [Bool.and_eq_true, Bool.not_eq_true', ← Bool.not_eq_true, List.contains_iff_mem] at this; exact this.2
   ·rintro ⟨h1, h2⟩ p hp
    rw [Bool.and_eq_true, Bool.not_eq_true', ← Bool.not_eq_true, List.contains_iff_mem]
    exact ⟨h1 p hp, h2 p hp⟩
  rw [hpv, htb]
  have hfu : (L.isEmpty || (Bt.allS s.ch).all fun c => decide (0 ≤ idxS s.tb c)) = true ↔ (L ≠ [] → Full s) := by
   rw [Bool.or_eq_true, full_all, List.isEmpty_iff]
   constructor
   ·rintro (h | h) h'
    ·exact absurd h h'
    ·exact h
   ·intro h
    by_cases e : L = []
    ·exact .inl e
    ·exact .inr (h e)
  rw [hfu]
  constructor
  ·rintro ⟨h1, h2, h3, h4, h5, ⟨h6, h7⟩, h8, g, h9, h10⟩
   refine ⟨⟨fun x hx => ?_, ?_, ?_, fun x hx => ?_⟩, fun q hq x hx => ?_, fun x hx p hp => ?_⟩
   ·rcases List.mem_cons.1 hx with rfl | hx
    ·exact ⟨hu _ (by simp), ⟨h1, h2⟩, h4, h5, h6⟩
    ·exact g.one x hx
   ·rw [List.map_cons, List.pairwise_cons]
    exact ⟨fun a ha => by obtain ⟨u, hu, rfl⟩ := List.mem_map.1 ha; exact h9 _ rfl u hu, g.up⟩
   ·rw [List.pairwise_cons]
    exact ⟨fun u hu p hp q hq e => h10 u hu q hq (by rw [← e]; exact List.mem_append_right _ (List.mem_map.2 ⟨p, hp, rfl⟩)), g.ap⟩
   ·cases L with
    | nil => simp at hx
    | cons u L =>
     rw [List.dropLast_cons_of_ne_nil (by simp)] at hx
     rcases List.mem_cons.1 hx with rfl | hx
     ·exact h8 (by simp)
     ·exact g.full x hx
   ·rcases List.mem_cons.1 hx with rfl | hx
    ·exact h3 q hq
    ·have := h3 q hq; have := h9 _ rfl x hx; omega
   ·rcases List.mem_cons.1 hx with rfl | hx
    ·exact h7 p hp
    ·exact fun h => h10 x hx p hp (List.mem_append_left _ h)
  ·rintro ⟨g, h1, h2⟩
   have o := g.one s (by simp)
   have up := g.up
   rw [List.map_cons, List.pairwise_cons] at up
   have ap := g.ap
   rw [List.pairwise_cons] at ap
   refine ⟨o.id.1, o.id.2, fun q hq => h1 q hq s (by simp), o.ch, o.tb, ⟨o.sub, h2 s (by simp)⟩, fun hn => g.full s (by rw [List.dropLast_cons_of_ne_nil hn]; simp), ⟨fun x hx => g.one x (by simp [hx]), up.2, ap.2, fun x hx => ?_⟩, fun q hq x hx => ?_, fun x hx p hp h => ?_⟩
   ·cases L with
    | nil => simp at hx
    | cons u L => exact g.full x (by rw [List.dropLast_cons_of_ne_nil (by simp)]; simp [hx])
   ·injection hq with hq; subst hq
    exact up.1 _ (List.mem_map.2 ⟨x, hx, rfl⟩)
   ·rcases List.mem_append.1 h with h | h
    ·exact h2 x (by simp [hx]) p hp h
    ·obtain ⟨q, hq, e⟩ := List.mem_map.1 h
     exact ap.1 x hx q hq p hp e
theorem cgood_iff {bl ar : Int} {L : List SnS} (hu : ∀ s ∈ L, IsU8 s.ch) : cgood L bl ar = true ↔ L.length ≤ 8 ∧ GoodC bl ar L := by
 unfold cgood
 rw [Bool.and_eq_true, decide_eq_true_eq, cgoodF_iff L none [] hu]
 constructor
 ·rintro ⟨h, g, _⟩; exact ⟨h, g⟩
 ·rintro ⟨h, g⟩; exact ⟨h, g, fun q hq => (by cases hq), fun s _ p _ hm => (by cases hm)⟩
theorem goodS_iff {zs : List Int} {k : Int} : Bt.goodS zs k = true ↔ zs.length = Bt.newN k ∧ ∀ j : Nat, Bt.hasS zs j = true → (j : Int) < k := by
 unfold Bt.goodS
 rw [Bool.and_eq_true, decide_eq_true_eq, Bt.okF_iff]
 constructor
 ·rintro ⟨h1, h2⟩
  refine ⟨h1, fun j hj => ?_⟩
  by_cases hh : 8 * zs.length ≤ j
  ·rw [Bt.hasS_high hh] at hj; cases hj
  ·exact h2 j (by omega) (by omega) hj
 ·rintro ⟨h1, h2⟩; exact ⟨h1, fun j _ _ hj => h2 j hj⟩
theorem tm_mem {s u : SnS} {bl ar bl2 ar2 : Int} (g1 : GoodL bl ar s.tb) (g2 : GoodL bl2 ar2 u.tb) : asc (joinS s u).tb ∧ ∀ p, p ∈ (joinS s u).tb ↔ p ∈ s.tb ∨ (p ∈ u.tb ∧ ¬ ∃ q ∈ s.tb, q.1 = p.1) := by
 have := tmerge_mem (a := s.tb) u.tb s.tb [] g1.up g2.up (fun p hp => .inl hp) (fun p hp => hp)
 exact ⟨this.1, this.2.1⟩
theorem join_one {s u : SnS} {bl ar : Int} (h1 : OneC bl ar s) (h2 : OneC bl ar u) (ha : Apart s u) : OneC bl ar (joinS s u) := by
 obtain ⟨t1, t2⟩ := tm_mem h1.tb h2.tb
 have hor := Bt.has_or h1.u8 h2.u8
 obtain ⟨c1, c2⟩ := goodS_iff.1 h1.ch
 obtain ⟨d1, d2⟩ := goodS_iff.1 h2.ch
 refine ⟨Bt.orS_u8 h1.u8 h2.u8, h1.id, goodS_iff.2 ⟨?_, fun j hj => ?_⟩, ⟨fun p hp => ?_, t1, fun p hp q hq e => ?_⟩, fun p hp => ?_⟩
 ·show (Bt.orS s.ch u.ch).length = _
  rw [Bt.orS_len, c1, d1]; omega
 ·have hj : Bt.hasS (Bt.orS s.ch u.ch) j = true := hj
  rw [hor, Bool.or_eq_true] at hj
  exact hj.elim (c2 j) (d2 j)
 ·rcases (t2 p).1 hp with h | ⟨h, _⟩
  ·exact h1.tb.rng p h
  ·exact h2.tb.rng p h
 ·rcases (t2 p).1 hp with hp | ⟨hp, _⟩ <;> rcases (t2 q).1 hq with hq | ⟨hq, _⟩
  ·exact h1.tb.inj p hp q hq e
  ·exact absurd e (ha p hp q hq)
  ·exact absurd e.symm (ha q hq p hp)
  ·exact h2.tb.inj p hp q hq e
 ·show Bt.hasS (Bt.orS s.ch u.ch) p.1 = true
  rw [hor, Bool.or_eq_true]
  rcases (t2 p).1 hp with hp | ⟨hp, _⟩
  ·exact .inl (h1.sub p hp)
  ·exact .inr (h2.sub p hp)
theorem join_has {s u : SnS} {bl ar : Int} (h1 : OneC bl ar s) (h2 : OneC bl ar u) (c : Int) : 0 ≤ idxS (joinS s u).tb c ↔ 0 ≤ idxS s.tb c ∨ 0 ≤ idxS u.tb c := by
 obtain ⟨t1, t2⟩ := tm_mem h1.tb h2.tb
 rw [idx_has, idx_has, idx_has]
 constructor
 ·rintro ⟨p, hp, e⟩
  rcases (t2 p).1 hp with h | ⟨h, _⟩
  ·exact .inl ⟨p, h, e⟩
  ·exact .inr ⟨p, h, e⟩
 ·rintro (⟨p, hp, e⟩ | ⟨p, hp, e⟩)
  ·exact ⟨p, (t2 p).2 (.inl hp), e⟩
  ·by_cases h : ∃ q ∈ s.tb, q.1 = p.1
   ·obtain ⟨q, hq, e2⟩ := h
    exact ⟨q, (t2 q).2 (.inl hq), by rw [e2, e]⟩
   ·exact ⟨p, (t2 p).2 (.inr ⟨hp, h⟩), e⟩
theorem join_full {s u : SnS} {bl ar : Int} (h1 : OneC bl ar s) (h2 : OneC bl ar u) (f1 : Full s) (f2 : Full u) : Full (joinS s u) := fun c hc => by
 have hc : Bt.hasS (Bt.orS s.ch u.ch) c = true := hc
 rw [Bt.has_or h1.u8 h2.u8, Bool.or_eq_true] at hc
 rw [join_has h1 h2]
 exact hc.imp (f1 c) (f2 c)
theorem drop_split {L : List SnS} {n : Nat} (h : n + 1 < L.length) : ∃ A s u B, L = A ++ s :: u :: B ∧ A.length = n ∧ dropN L (n + 1) = A ++ joinS s u :: B := by
 have hn : n < L.length := by omega
 refine ⟨L.take n, L[n], L[n + 1], L.drop (n + 2), ?_, by rw [List.length_take]; omega, ?_⟩
 ·rw [← List.drop_eq_getElem_cons h, ← List.drop_eq_getElem_cons hn, List.take_append_drop]
 ·simp only [dropN]
  rw [List.getElem?_eq_getElem hn, List.getElem?_eq_getElem h]
theorem dl_app {A B : List SnS} (h : B ≠ []) : (A ++ B).dropLast = A ++ B.dropLast := List.dropLast_append_of_ne_nil h
theorem good_tail {bl ar : Int} {s : SnS} {L : List SnS} (g : GoodC bl ar (s :: L)) : GoodC bl ar L := by
 have up := g.up
 rw [List.map_cons, List.pairwise_cons] at up
 have ap := g.ap
 rw [List.pairwise_cons] at ap
 refine ⟨fun x hx => g.one x (by simp [hx]), up.2, ap.2, fun x hx => ?_⟩
 cases L with
 | nil => simp at hx
 | cons u L => exact g.full x (by rw [List.dropLast_cons_of_ne_nil (by simp)]; simp [hx])
theorem good_join {bl ar : Int} {A B : List SnS} {s u : SnS} (g : GoodC bl ar (A ++ s :: u :: B)) : GoodC bl ar (A ++ joinS s u :: B) := by
 have os := g.one s (by simp)
 have ou := g.one u (by simp)
 have up := g.up
 rw [List.map_append, List.map_cons, List.map_cons, List.pairwise_append, List.pairwise_cons, List.pairwise_cons] at up
 obtain ⟨u1, ⟨u2, u3, u4⟩, u5⟩ := up
 have ap := g.ap
 rw [List.pairwise_append, List.pairwise_cons, List.pairwise_cons] at ap
 obtain ⟨a1, ⟨a2, a3, a4⟩, a5⟩ := ap
 obtain ⟨t1, t2⟩ := tm_mem os.tb ou.tb
 have asu := a2 u (by simp)
 refine ⟨fun x hx => ?_, ?_, ?_, ?_⟩
 ·rcases List.mem_append.1 hx with h | h
  ·exact g.one x (by simp [h])
  ·rcases List.mem_cons.1 h with rfl | h
   ·exact join_one os ou asu
   ·exact g.one x (by simp [h])
 ·rw [List.map_append, List.map_cons, List.pairwise_append, List.pairwise_cons]
  refine ⟨u1, ⟨fun a ha => u2 a (by simp [ha]), u4⟩, fun a ha b hb => u5 a ha b ?_⟩
  rcases List.mem_cons.1 hb with rfl | hb
  ·simp [joinS]
  ·simp [hb]
 ·rw [List.pairwise_append, List.pairwise_cons]
  refine ⟨a1, ⟨fun x hx p hp q hq => ?_, a4⟩, fun x hx y hy => ?_⟩
  ·rcases (t2 p).1 hp with h | ⟨h, _⟩
   ·exact a2 x (by simp [hx]) p h q hq
   ·exact a3 x hx p h q hq
  ·rcases List.mem_cons.1 hy with rfl | hy
   ·intro p hp q hq
    rcases (t2 q).1 hq with h | ⟨h, _⟩
    ·exact a5 x hx s (by simp) p hp q h
    ·exact a5 x hx u (by simp) p hp q h
   ·exact a5 x hx y (by simp [hy])
 ·have fu := g.full
  rw [dl_app (by simp), List.dropLast_cons_of_ne_nil (by simp)] at fu
  rw [dl_app (by simp)]
  intro x hx
  rcases List.mem_append.1 hx with h | h
  ·exact fu x (by simp [h])
  ·cases B with
   | nil => simp at h
   | cons y B =>
    rw [List.dropLast_cons_of_ne_nil (by simp)] at h fu
    rcases List.mem_cons.1 h with rfl | h
    ·exact join_full os ou (fu s (by simp)) (fu u (by simp))
    ·exact fu x (by simp [h])
theorem good_drop {bl ar : Int} {L : List SnS} (g : GoodC bl ar L) {i : Nat} (hi : i < L.length) : GoodC bl ar (dropN L i) ∧ (dropN L i).length = L.length - 1 := by
 cases i with
 | zero =>
  cases L with
  | nil => simp at hi
  | cons s L => exact ⟨good_tail g, by unfold dropN; simp⟩
 | succ n =>
  obtain ⟨A, s, u, B, rfl, hA, e⟩ := drop_split hi
  rw [e]
  exact ⟨good_join g, by simp⟩
end Go.Proofs.Ythhodjcgcgkaaaa.G11
end
section
namespace Go.Proofs.Ythhodjcgcgkaaaa.G11
open Go Go.Proofs.Ythhodjcgcgkaaaa.Eng
theorem asc_short {l : List PrS} {n : Nat} (h : asc l) (hr : ∀ p ∈ l, 0 ≤ p.1 ∧ p.1 < n) : l.length ≤ n := by
 have q := sub_len (B := (List.range n).map Int.ofNat) (A := l.map fun p : PrS => p.1) h (List.pairwise_map.2 (List.pairwise_lt_range.imp fun h => Int.ofNat_lt.2 h)) (fun x hx => by
  obtain ⟨p, hp, rfl⟩ := List.mem_map.1 hx
  have := hr p hp
  exact List.mem_map.2 ⟨p.1.toNat, List.mem_range.2 (by omega), Int.toNat_of_nonneg this.1⟩)
 simpa using q.1
theorem GoodC.fair {L : List SnS} (g : GoodC 10 200 L) (h : L.length ≤ 8) : Fair L := by
 refine ⟨by omega, fun s hs => (g.one s hs).u8, fun s hs => ?_, fun s hs => ?_⟩
 ·have := (goodS_iff.1 (g.one s hs).ch).1
  rw [this]; decide
 ·have := asc_short (n := 10) (g.one s hs).tb.up fun p hp => ((g.one s hs).tb.rng p hp).1
  omega
end Go.Proofs.Ythhodjcgcgkaaaa.G11
end
section
namespace Go.Proofs.Ythhodjcgcgkaaaa.G11
open Go Go.Proofs.Ythhodjcgcgkaaaa.Eng
def wasF (p : PrS) (N : List SnS) : Bool := N.any fun u => decide (0 ≤ idxS u.tb p.1) && (fnd u.tb p.1 == p.2)
theorem was_in {p : PrS} {N : List SnS} {u : SnS} (hu : u ∈ N) (up : asc u.tb) (hp : p ∈ u.tb) : wasF p N = true := by
 unfold wasF
 rw [List.any_eq_true]
 have := fnd_mem up hp
 exact ⟨u, hu, by rw [decide_eq_true this.1, this.2]; simp⟩
theorem drop_in {bl ar : Int} {N : List SnS} (G : GoodC bl ar N) {i : Nat} (hi : i < N.length) : ∀ s ∈ dropN N i, ∀ p ∈ s.tb, wasF p N = true := by
 intro s hs p hp
 rcases dropN_mem hs with h | ⟨x, hx, y, hy, rfl⟩
 ·exact was_in h (G.one s h).tb.up hp
 ·rcases ((tm_mem (G.one x hx).tb (G.one y hy).tb).2 p).1 hp with h | ⟨h, _⟩
  ·exact was_in hx (G.one x hx).tb.up h
  ·exact was_in hy (G.one y hy).tb.up h
section
variable {K : AHeap} {v5 : AV} {N : List SnS} (g : IsC K v5 N) (fi : Fits N) {p : PrS} {q : Nat} (hq : cellsOf K q = some [.int .i64 p.1, .int .i64 p.2])
include g fi hq
set_option maxHeartbeats 4000000 in
theorem drpL0 (x0 x1 x2 x3 x4 x6 x7 x8 x9 x10 x16 x17 x18 x19 x20 x21 x22 x23 x24 x25 x26 x27 x28 x29 x30 x31 x32 x33 x34 x35 x36 x37 x38 x39 x40 x41 x42 x43 x44 x45 x46 x47 x48 x49 x50 x51 x52 x53 x54 x55 x56 x57 x58 x59 x60 x61 x62 x63 x64 x65 x66 x67 x68 x69 x70 x71 x72 x73 x74 x75 x76 x77 x78 x79 x80 x81 x82 x83 x84 x85 x86 x87 x88 x89 x117 x118 x119 x120 : AV) : ∀ (k c : Nat) (w : Bool) (j14 j15 j90 j91 j92 j93 j94 j95 j96 j97 j98 j99 j100 j101 j102 j103 j104 j105 j106 j107 j108 j109 j110 j111 j112 j113 j114 j115 j116 : AV), c + k = N.length →
  Outs (LZ l6x0 [x0, x1, x2, x3, x4, v5, x6, x7, x8, x9, x10, .ptr q 0, .bool w, .int .i64 (c : Int), j14, j15, x16, x17, x18, x19, x20, x21, x22, x23, x24, x25, x26, x27, x28, x29, x30, x31, x32, x33, x34, x35, x36, x37, x38, x39, x40, x41, x42, x43, x44, x45, x46, x47, x48, x49, x50, x51, x52, x53, x54, x55, x56, x57, x58, x59, x60, x61, x62, x63, x64, x65, x66, x67, x68, x69, x70, x71, x72, x73, x74, x75, x76, x77, x78, x79, x80, x81, x82, x83, x84, x85, x86, x87, x88, x89, j90, j91, j92, j93, j94, j95, j96, j97, j98, j99, j100, j101, j102, j103, j104, j105, j106, j107, j108, j109, j110, j111, j112, j113, j114, j115, j116, x117, x118, x119, x120] K) fun e t K' => e = .exit 6 ∧ K' = K ∧ ∃ fv : Nat → AV, t = [x0, x1, x2, x3, x4, v5, x6, x7, x8, x9, x10, .ptr q 0, (fv 12), (fv 13), (fv 14), (fv 15), x16, x17, x18, x19, x20, x21, x22, x23, x24, x25, x26, x27, x28, x29, x30, x31, x32, x33, x34, x35, x36, x37, x38, x39, x40, x41, x42, x43, x44, x45, x46, x47, x48, x49, x50, x51, x52, x53, x54, x55, x56, x57, x58, x59, x60, x61, x62, x63, x64, x65, x66, x67, x68, x69, x70, x71, x72, x73, x74, x75, x76, x77, x78, x79, x80, x81, x82, x83, x84, x85, x86, x87, x88, x89, (fv 90), (fv 91), (fv 92), (fv 93), (fv 94), (fv 95), (fv 96), (fv 97), (fv 98), (fv 99), (fv 100), (fv 101), (fv 102), (fv 103), (fv 104), (fv 105), (fv 106), (fv 107), (fv 108), (fv 109), (fv 110), (fv 111), (fv 112), (fv 113), (fv 114), (fv 115), (fv 116), x117, x118, x119, x120] ∧ fv 12 = .bool (w || wasF p (N.drop c)) := by
 intro k
 obtain ⟨L0, hL0⟩ : ∃ L, L = LZ l6x0 := ⟨_, rfl⟩
 have lo := loop_open hL0
 have wl := g.len
 have fl := fi.1
 rw [← hL0]
 induction k with
 | zero =>
  intro c w j14 j15 j90 j91 j92 j93 j94 j95 j96 j97 j98 j99 j100 j101 j102 j103 j104 j105 j106 j107 j108 j109 j110 j111 j112 j113 j114 j115 j116 hc
  obtain rfl : c = N.length := by omega
  have hd : decide ((N.length : Int) < (N.length : Int)) = false := by simp
  rw [lo, List.drop_length, show wasF p [] = false from rfl, Bool.or_false]
  unfold l6x0
  simp -implicitDefEqProofs (maxSteps := 5000000) only [go_sem, Nat.reduceShiftRight, Nat.reduceAnd, Nat.reduceBNe, Int.reduceEq, Nat.reduceAdd, Nat.reduceSub, Nat.reduceMul, Nat.reduceLeDiff, reduceIte, reduceCtorEq, Nat.reduceBEq, Nat.reduceEqDiff, wrap64, runC_loop, runC_range, callF_fn, callV_fn, callV_yld, yield_eq, yieldBody, yieldRaw, roundMid, roundEnd, rangeEnd, Bool.not_not, put_cons, put_nil, trim_same, at_zero, at_add, set_zero, set_add, store_one, write_zero, write_add, write_head, write_succ, splice_one, splice_more, List.drop_nil, List.take_nil, cell_int, cell_bool, fillS, splice_one, idxA, Ex.isNormal, List.set_nil, List.length_set, List.all_cons, List.all_nil, Bool.and_self, and_self, true_and, and_true, List.getElem?_nil, Int.reduceLT, Int.reduceLE, Int.reduceToNat, Int.toNat_zero, Int.toNat_one, Int.reduceAdd, Int.reduceSub, Int.reduceMul, Int.reduceNeg, Int.reduceBEq, Int.reduceBNe, Int.reduceGE, Int.reduceGT, Nat.reduceLT, trim_keep, under_fn, under_ptr, under_sl, Nat.lt_irrefl, not_lt_add, trim_tail, keepOk, ABlk.vals, Int.cast_ofNat_Int, decide_true, decide_false, List.all_cons, List.all_nil, Nat.zero_mul, Nat.mul_one, Nat.one_mul, wl, hd, seqR_exit', outs_normal]
  exact exF2 rfl rfl
 | succ k ih =>
  intro c w j14 j15 j90 j91 j92 j93 j94 j95 j96 j97 j98 j99 j100 j101 j102 j103 j104 j105 j106 j107 j108 j109 j110 j111 j112 j113 j114 j115 j116 hc
  have hlt : c < N.length := by omega
  have hd : decide ((c : Int) < (N.length : Int)) = true := decide_eq_true (by omega)
  have e2 : IntKind.i64.wrap ((c : Int) + 1) = ((c + 1 : Nat) : Int) := by rw [wrap64 (by omega) (by omega)]; omega
  have hx := List.getElem?_eq_getElem hlt
  have ft := fits_get fi hx
  rw [List.drop_eq_getElem_cons hlt]
  generalize N[c] = u at *
  obtain ⟨bb, cs, vc, vt, sb, ix, hc1, h1, h2, h3, ht, hle, hbs, hip⟩ := g.idx hx
  have ef := findF hip (by have := ft.lt; omega) p.1
  have hw : wasF p (u :: N.drop (c + 1)) = ((decide (0 ≤ idxS u.tb p.1) && (fnd u.tb p.1 == p.2)) || wasF p (N.drop (c + 1))) := rfl
  rw [hw, ← Bool.or_assoc]
  have key := fun w => ih (c + 1) w
  rw [lo]
  unfold l6x0
  rcases hb : decide (0 ≤ idxS u.tb p.1) with _ | _ <;> rw [hb] at ef
  ·rw [Bool.false_and]
   cases w with
   | true =>
    simp -implicitDefEqProofs (maxSteps := 5000000) only [go_sem, Nat.reduceShiftRight, Nat.reduceAnd, Nat.reduceBNe, Int.reduceEq, Nat.reduceAdd, Nat.reduceSub, Nat.reduceMul, Nat.reduceLeDiff, reduceIte, reduceCtorEq, Nat.reduceBEq, Nat.reduceEqDiff, wrap64, runC_loop, runC_range, callF_fn, callV_fn, callV_yld, yield_eq, yieldBody, yieldRaw, roundMid, roundEnd, rangeEnd, Bool.not_not, put_cons, put_nil, trim_same, at_zero, at_add, set_zero, set_add, store_one, write_zero, write_add, write_head, write_succ, splice_one, splice_more, List.drop_nil, List.take_nil, cell_int, cell_bool, fillS, splice_one, idxA, Ex.isNormal, List.set_nil, List.length_set, List.all_cons, List.all_nil, Bool.and_self, and_self, true_and, and_true, List.getElem?_nil, Int.reduceLT, Int.reduceLE, Int.reduceToNat, Int.toNat_zero, Int.toNat_one, Int.reduceAdd, Int.reduceSub, Int.reduceMul, Int.reduceNeg, Int.reduceBEq, Int.reduceBNe, Int.reduceGE, Int.reduceGT, Nat.reduceLT, trim_keep, under_fn, under_ptr, under_sl, Nat.lt_irrefl, not_lt_add, trim_tail, keepOk, ABlk.vals, Int.cast_ofNat_Int, decide_true, decide_false, List.all_cons, List.all_nil, Nat.zero_mul, Nat.mul_one, Nat.one_mul, x4_call, wl, hd, ix, hc1, h3, hq, ef, e2]
    exact key true _ _ _ _ _ _ _ _ _ _ _ _ _ _ _ _ _ _ _ _ _ _ _ _ _ _ _ _ _ (by omega)
   | false =>
    simp -implicitDefEqProofs (maxSteps := 5000000) only [go_sem, Nat.reduceShiftRight, Nat.reduceAnd, Nat.reduceBNe, Int.reduceEq, Nat.reduceAdd, Nat.reduceSub, Nat.reduceMul, Nat.reduceLeDiff, reduceIte, reduceCtorEq, Nat.reduceBEq, Nat.reduceEqDiff, wrap64, runC_loop, runC_range, callF_fn, callV_fn, callV_yld, yield_eq, yieldBody, yieldRaw, roundMid, roundEnd, rangeEnd, Bool.not_not, put_cons, put_nil, trim_same, at_zero, at_add, set_zero, set_add, store_one, write_zero, write_add, write_head, write_succ, splice_one, splice_more, List.drop_nil, List.take_nil, cell_int, cell_bool, fillS, splice_one, idxA, Ex.isNormal, List.set_nil, List.length_set, List.all_cons, List.all_nil, Bool.and_self, and_self, true_and, and_true, List.getElem?_nil, Int.reduceLT, Int.reduceLE, Int.reduceToNat, Int.toNat_zero, Int.toNat_one, Int.reduceAdd, Int.reduceSub, Int.reduceMul, Int.reduceNeg, Int.reduceBEq, Int.reduceBNe, Int.reduceGE, Int.reduceGT, Nat.reduceLT, trim_keep, under_fn, under_ptr, under_sl, Nat.lt_irrefl, not_lt_add, trim_tail, keepOk, ABlk.vals, Int.cast_ofNat_Int, decide_true, decide_false, List.all_cons, List.all_nil, Nat.zero_mul, Nat.mul_one, Nat.one_mul, x4_call, wl, hd, ix, hc1, h3, hq, ef, e2]
    exact key false _ _ _ _ _ _ _ _ _ _ _ _ _ _ _ _ _ _ _ _ _ _ _ _ _ _ _ _ _ (by omega)
  ·rw [Bool.true_and]
   generalize hf : (fnd u.tb p.1 == p.2) = x
   cases w with
   | true =>
    simp -implicitDefEqProofs (maxSteps := 5000000) only [go_sem, Nat.reduceShiftRight, Nat.reduceAnd, Nat.reduceBNe, Int.reduceEq, Nat.reduceAdd, Nat.reduceSub, Nat.reduceMul, Nat.reduceLeDiff, reduceIte, reduceCtorEq, Nat.reduceBEq, Nat.reduceEqDiff, wrap64, runC_loop, runC_range, callF_fn, callV_fn, callV_yld, yield_eq, yieldBody, yieldRaw, roundMid, roundEnd, rangeEnd, Bool.not_not, put_cons, put_nil, trim_same, at_zero, at_add, set_zero, set_add, store_one, write_zero, write_add, write_head, write_succ, splice_one, splice_more, List.drop_nil, List.take_nil, cell_int, cell_bool, fillS, splice_one, idxA, Ex.isNormal, List.set_nil, List.length_set, List.all_cons, List.all_nil, Bool.and_self, and_self, true_and, and_true, List.getElem?_nil, Int.reduceLT, Int.reduceLE, Int.reduceToNat, Int.toNat_zero, Int.toNat_one, Int.reduceAdd, Int.reduceSub, Int.reduceMul, Int.reduceNeg, Int.reduceBEq, Int.reduceBNe, Int.reduceGE, Int.reduceGT, Nat.reduceLT, trim_keep, under_fn, under_ptr, under_sl, Nat.lt_irrefl, not_lt_add, trim_tail, keepOk, ABlk.vals, Int.cast_ofNat_Int, decide_true, decide_false, List.all_cons, List.all_nil, Nat.zero_mul, Nat.mul_one, Nat.one_mul, x4_call, wl, hd, ix, hc1, h3, hq, ef, e2]
    exact key true _ _ _ _ _ _ _ _ _ _ _ _ _ _ _ _ _ _ _ _ _ _ _ _ _ _ _ _ _ (by omega)
   | false =>
    simp -implicitDefEqProofs (maxSteps := 5000000) only [go_sem, Nat.reduceShiftRight, Nat.reduceAnd, Nat.reduceBNe, Int.reduceEq, Nat.reduceAdd, Nat.reduceSub, Nat.reduceMul, Nat.reduceLeDiff, reduceIte, reduceCtorEq, Nat.reduceBEq, Nat.reduceEqDiff, wrap64, runC_loop, runC_range, callF_fn, callV_fn, callV_yld, yield_eq, yieldBody, yieldRaw, roundMid, roundEnd, rangeEnd, Bool.not_not, put_cons, put_nil, trim_same, at_zero, at_add, set_zero, set_add, store_one, write_zero, write_add, write_head, write_succ, splice_one, splice_more, List.drop_nil, List.take_nil, cell_int, cell_bool, fillS, splice_one, idxA, Ex.isNormal, List.set_nil, List.length_set, List.all_cons, List.all_nil, Bool.and_self, and_self, true_and, and_true, List.getElem?_nil, Int.reduceLT, Int.reduceLE, Int.reduceToNat, Int.toNat_zero, Int.toNat_one, Int.reduceAdd, Int.reduceSub, Int.reduceMul, Int.reduceNeg, Int.reduceBEq, Int.reduceBNe, Int.reduceGE, Int.reduceGT, Nat.reduceLT, trim_keep, under_fn, under_ptr, under_sl, Nat.lt_irrefl, not_lt_add, trim_tail, keepOk, ABlk.vals, Int.cast_ofNat_Int, decide_true, decide_false, List.all_cons, List.all_nil, Nat.zero_mul, Nat.mul_one, Nat.one_mul, x4_call, wl, hd, ix, hc1, h3, hq, ef, hf, e2]
    exact key x _ _ _ _ _ _ _ _ _ _ _ _ _ _ _ _ _ _ _ _ _ _ _ _ _ _ _ _ _ (by omega)
end
section
variable {H : AHeap} {v5 v8 : AV} {N M : List SnS} (g : IsC H v5 N) (fi : Fits N) (g8 : IsC H v8 M) (f8 : Fits M) (hw : ∀ s ∈ M, ∀ p ∈ s.tb, wasF p N = true)
include g fi g8 f8 hw
set_option maxHeartbeats 4000000 in
theorem drpL1 {a : Nat} {s : SnS} (hs : M[a]? = some s) (x0 x1 x2 x3 x6 x7 x16 x17 x18 x19 x20 x21 x22 x23 x24 x25 x26 x27 x28 x29 x30 x31 x32 x33 x34 x35 x36 x37 x38 x39 x40 x41 x42 x43 x44 x45 x46 x47 x48 x49 x50 x51 x52 x53 x54 x55 x56 x57 x58 x59 x60 x61 x62 x63 x64 x65 x66 x67 x68 x69 x70 x71 x119 x120 : AV) : ∀ (k b : Nat) (K : AHeap) (j11 j12 j13 j14 j15 j72 j73 j74 j75 j76 j77 j78 j79 j80 j81 j82 j83 j84 j85 j86 j87 j88 j89 j90 j91 j92 j93 j94 j95 j96 j97 j98 j99 j100 j101 j102 j103 j104 j105 j106 j107 j108 j109 j110 j111 j112 j113 j114 j115 j116 j117 j118 : AV), Adds H K → b + k = s.tb.length →
  Outs (LZ l6x1 [x0, x1, x2, x3, .bool false, v5, x6, x7, v8, .int .i64 (a : Int), .int .i64 (b : Int), j11, j12, j13, j14, j15, x16, x17, x18, x19, x20, x21, x22, x23, x24, x25, x26, x27, x28, x29, x30, x31, x32, x33, x34, x35, x36, x37, x38, x39, x40, x41, x42, x43, x44, x45, x46, x47, x48, x49, x50, x51, x52, x53, x54, x55, x56, x57, x58, x59, x60, x61, x62, x63, x64, x65, x66, x67, x68, x69, x70, x71, j72, j73, j74, j75, j76, j77, j78, j79, j80, j81, j82, j83, j84, j85, j86, j87, j88, j89, j90, j91, j92, j93, j94, j95, j96, j97, j98, j99, j100, j101, j102, j103, j104, j105, j106, j107, j108, j109, j110, j111, j112, j113, j114, j115, j116, j117, j118, x119, x120] K) fun e t K' => e = .exit 4 ∧ Adds H K' ∧ ∃ fv : Nat → AV, t = [x0, x1, x2, x3, (fv 4), v5, x6, x7, v8, .int .i64 (a : Int), (fv 10), (fv 11), (fv 12), (fv 13), (fv 14), (fv 15), x16, x17, x18, x19, x20, x21, x22, x23, x24, x25, x26, x27, x28, x29, x30, x31, x32, x33, x34, x35, x36, x37, x38, x39, x40, x41, x42, x43, x44, x45, x46, x47, x48, x49, x50, x51, x52, x53, x54, x55, x56, x57, x58, x59, x60, x61, x62, x63, x64, x65, x66, x67, x68, x69, x70, x71, (fv 72), (fv 73), (fv 74), (fv 75), (fv 76), (fv 77), (fv 78), (fv 79), (fv 80), (fv 81), (fv 82), (fv 83), (fv 84), (fv 85), (fv 86), (fv 87), (fv 88), (fv 89), (fv 90), (fv 91), (fv 92), (fv 93), (fv 94), (fv 95), (fv 96), (fv 97), (fv 98), (fv 99), (fv 100), (fv 101), (fv 102), (fv 103), (fv 104), (fv 105), (fv 106), (fv 107), (fv 108), (fv 109), (fv 110), (fv 111), (fv 112), (fv 113), (fv 114), (fv 115), (fv 116), (fv 117), (fv 118), x119, x120] ∧ fv 4 = .bool false := by
 intro k
 obtain ⟨L0, hL0⟩ : ∃ L, L = LZ l6x1 := ⟨_, rfl⟩
 have lo := loop_open hL0
 have ft := fits_get f8 hs
 have lt1 := ft.lt
 obtain ⟨bb, cs, vc, vt, sb, ix, hc0, h1, h2, h3, ht, hle, hbs, hip⟩ := g8.idx hs
 have wl := hip.len
 have hws := hw s (List.mem_of_getElem? hs)
 rw [← hL0]
 induction k with
 | zero =>
  intro b K j11 j12 j13 j14 j15 j72 j73 j74 j75 j76 j77 j78 j79 j80 j81 j82 j83 j84 j85 j86 j87 j88 j89 j90 j91 j92 j93 j94 j95 j96 j97 j98 j99 j100 j101 j102 j103 j104 j105 j106 j107 j108 j109 j110 j111 j112 j113 j114 j115 j116 j117 j118 aK hb
  obtain rfl : b = s.tb.length := by omega
  have hd : decide ((s.tb.length : Int) < (s.tb.length : Int)) = false := by simp
  have hc := aK.cells hc0
  rw [lo]
  unfold l6x1
  simp -implicitDefEqProofs (maxSteps := 5000000) only [go_sem, Nat.reduceShiftRight, Nat.reduceAnd, Nat.reduceBNe, Int.reduceEq, Nat.reduceAdd, Nat.reduceSub, Nat.reduceMul, Nat.reduceLeDiff, reduceIte, reduceCtorEq, Nat.reduceBEq, Nat.reduceEqDiff, wrap64, runC_loop, runC_range, callF_fn, callV_fn, callV_yld, yield_eq, yieldBody, yieldRaw, roundMid, roundEnd, rangeEnd, Bool.not_not, put_cons, put_nil, trim_same, at_zero, at_add, set_zero, set_add, store_one, write_zero, write_add, write_head, write_succ, splice_one, splice_more, List.drop_nil, List.take_nil, cell_int, cell_bool, fillS, splice_one, idxA, Ex.isNormal, List.set_nil, List.length_set, List.all_cons, List.all_nil, Bool.and_self, and_self, true_and, and_true, List.getElem?_nil, Int.reduceLT, Int.reduceLE, Int.reduceToNat, Int.toNat_zero, Int.toNat_one, Int.reduceAdd, Int.reduceSub, Int.reduceMul, Int.reduceNeg, Int.reduceBEq, Int.reduceBNe, Int.reduceGE, Int.reduceGT, Nat.reduceLT, trim_keep, under_fn, under_ptr, under_sl, Nat.lt_irrefl, not_lt_add, trim_tail, keepOk, ABlk.vals, Int.cast_ofNat_Int, decide_true, decide_false, List.all_cons, List.all_nil, Nat.zero_mul, Nat.mul_one, Nat.one_mul, ix, hc, h3, wl, hd, seqR_exit', outs_normal]
  exact ⟨aK, exF2 rfl rfl⟩
 | succ k ih =>
  intro b K j11 j12 j13 j14 j15 j72 j73 j74 j75 j76 j77 j78 j79 j80 j81 j82 j83 j84 j85 j86 j87 j88 j89 j90 j91 j92 j93 j94 j95 j96 j97 j98 j99 j100 j101 j102 j103 j104 j105 j106 j107 j108 j109 j110 j111 j112 j113 j114 j115 j116 j117 j118 aK hb
  have hlt : b < s.tb.length := by omega
  have hd : decide ((b : Int) < (s.tb.length : Int)) = true := decide_eq_true (by omega)
  have e2 : IntKind.i64.wrap ((b : Int) + 1) = ((b + 1 : Nat) : Int) := by rw [wrap64 (by omega) (by omega)]; omega
  have hc := aK.cells hc0
  have hx := List.getElem?_eq_getElem hlt
  have hp := hws _ (List.getElem_mem hlt)
  generalize s.tb[b] = p at *
  obtain ⟨b2, c2, _, ix2, hc2', r1, r2, rt, rle⟩ := hip.idx hx
  have hc2 := aK.cells hc2'
  unfold prC at rt
  obtain ⟨K1, hK1⟩ : ∃ K1, K1 = K ++ [ABlk.rw [.int .i64 p.1, .int .i64 p.2]] := ⟨_, rfl⟩
  have A1 : Adds K K1 := ⟨_, hK1⟩
  have a1 := aK.trans A1
  have cq : cellsOf K1 K.length = some [.int .i64 p.1, .int .i64 p.2] := by rw [hK1]; unfold cellsOf; simp
  have hK1 := hK1.symm
  have l0 := drpL0 (g.adds a1) fi cq (k := N.length) (c := 0) (w := false)
  rw [show ((0 : Nat) : Int) = 0 from rfl, List.drop_zero, hp] at l0
  have key := ih (b + 1) K1
  rw [lo]
  unfold l6x1
  simp -implicitDefEqProofs (maxSteps := 5000000) only [go_sem, Nat.reduceShiftRight, Nat.reduceAnd, Nat.reduceBNe, Int.reduceEq, Nat.reduceAdd, Nat.reduceSub, Nat.reduceMul, Nat.reduceLeDiff, reduceIte, reduceCtorEq, Nat.reduceBEq, Nat.reduceEqDiff, wrap64, runC_loop, runC_range, callF_fn, callV_fn, callV_yld, yield_eq, yieldBody, yieldRaw, roundMid, roundEnd, rangeEnd, Bool.not_not, put_cons, put_nil, trim_same, at_zero, at_add, set_zero, set_add, store_one, write_zero, write_add, write_head, write_succ, splice_one, splice_more, List.drop_nil, List.take_nil, cell_int, cell_bool, fillS, splice_one, idxA, Ex.isNormal, List.set_nil, List.length_set, List.all_cons, List.all_nil, Bool.and_self, and_self, true_and, and_true, List.getElem?_nil, Int.reduceLT, Int.reduceLE, Int.reduceToNat, Int.toNat_zero, Int.toNat_one, Int.reduceAdd, Int.reduceSub, Int.reduceMul, Int.reduceNeg, Int.reduceBEq, Int.reduceBNe, Int.reduceGE, Int.reduceGT, Nat.reduceLT, trim_keep, under_fn, under_ptr, under_sl, Nat.lt_irrefl, not_lt_add, trim_tail, keepOk, ABlk.vals, Int.cast_ofNat_Int, decide_true, decide_false, List.all_cons, List.all_nil, Nat.zero_mul, Nat.mul_one, Nat.one_mul, runC_loop, x_loop, ix, hc, h3, wl, hd, ix2, hc2, rt, rle, cellsA_agg, hK1]
  unfold LZ at l0
  generalize (envL prog).loop (runC (envX prog X4) (l6x0 (envX prog X4))) = LL at l0 ⊢
  refine outs_ctx (fun r => seqR (seqR (blockR 5 (seqR (blockR 6 r) _)) _) _) (l0 _ _ _ _ _ _ _ _ _ _ _ _ _ _ _ _ _ _ _ _ _ _ _ _ _ _ _ _ _ _ _ _ _ _ _ _ _ _ _ _ _ _ _ _ _ _ _ _ _ _ _ _ _ _ _ _ _ _ _ _ _ _ _ _ _ _ _ _ _ _ _ _ _ _ _ _ _ _ _ _ _ _ _ _ _ _ _ _ _ _ _ _ _ _ _ _ _ _ _ _ _ _ _ _ _ _ _ _ _ _ _ _ _ _ _ _ _ (by omega)) ?_
  rintro e t K' ⟨rfl, rfl, fv, rfl, f12⟩
  rw [Bool.false_or] at f12
  simp -implicitDefEqProofs (maxSteps := 5000000) only [go_sem, Nat.reduceShiftRight, Nat.reduceAnd, Nat.reduceBNe, Int.reduceEq, Nat.reduceAdd, Nat.reduceSub, Nat.reduceMul, Nat.reduceLeDiff, reduceIte, reduceCtorEq, Nat.reduceBEq, Nat.reduceEqDiff, wrap64, runC_loop, runC_range, callF_fn, callV_fn, callV_yld, yield_eq, yieldBody, yieldRaw, roundMid, roundEnd, rangeEnd, Bool.not_not, put_cons, put_nil, trim_same, at_zero, at_add, set_zero, set_add, store_one, write_zero, write_add, write_head, write_succ, splice_one, splice_more, List.drop_nil, List.take_nil, cell_int, cell_bool, fillS, splice_one, idxA, Ex.isNormal, List.set_nil, List.length_set, List.all_cons, List.all_nil, Bool.and_self, and_self, true_and, and_true, List.getElem?_nil, Int.reduceLT, Int.reduceLE, Int.reduceToNat, Int.toNat_zero, Int.toNat_one, Int.reduceAdd, Int.reduceSub, Int.reduceMul, Int.reduceNeg, Int.reduceBEq, Int.reduceBNe, Int.reduceGE, Int.reduceGT, Nat.reduceLT, trim_keep, under_fn, under_ptr, under_sl, Nat.lt_irrefl, not_lt_add, trim_tail, keepOk, ABlk.vals, Int.cast_ofNat_Int, decide_true, decide_false, List.all_cons, List.all_nil, Nat.zero_mul, Nat.mul_one, Nat.one_mul, f12, e2]
  exact key _ _ _ _ _ _ _ _ _ _ _ _ _ _ _ _ _ _ _ _ _ _ _ _ _ _ _ _ _ _ _ _ _ _ _ _ _ _ _ _ _ _ _ _ _ _ _ _ _ _ _ _ a1 (by omega)
set_option maxHeartbeats 4000000 in
theorem drpL2 (x0 x1 x2 x3 x6 x7 x16 x17 x18 x19 x20 x21 x22 x23 x24 x25 x26 x27 x28 x29 x30 x31 x32 x33 x34 x35 x36 x37 x38 x39 x40 x41 x42 x43 x44 x45 x46 x47 x48 x49 x50 x51 x52 x53 x54 x55 x56 x57 x58 x59 x60 x61 x62 x63 x64 x65 x119 x120 : AV) : ∀ (k a : Nat) (K : AHeap) (j10 j11 j12 j13 j14 j15 j66 j67 j68 j69 j70 j71 j72 j73 j74 j75 j76 j77 j78 j79 j80 j81 j82 j83 j84 j85 j86 j87 j88 j89 j90 j91 j92 j93 j94 j95 j96 j97 j98 j99 j100 j101 j102 j103 j104 j105 j106 j107 j108 j109 j110 j111 j112 j113 j114 j115 j116 j117 j118 : AV), Adds H K → a + k = M.length →
  Outs (LZ l6x2 [x0, x1, x2, x3, .bool false, v5, x6, x7, v8, .int .i64 (a : Int), j10, j11, j12, j13, j14, j15, x16, x17, x18, x19, x20, x21, x22, x23, x24, x25, x26, x27, x28, x29, x30, x31, x32, x33, x34, x35, x36, x37, x38, x39, x40, x41, x42, x43, x44, x45, x46, x47, x48, x49, x50, x51, x52, x53, x54, x55, x56, x57, x58, x59, x60, x61, x62, x63, x64, x65, j66, j67, j68, j69, j70, j71, j72, j73, j74, j75, j76, j77, j78, j79, j80, j81, j82, j83, j84, j85, j86, j87, j88, j89, j90, j91, j92, j93, j94, j95, j96, j97, j98, j99, j100, j101, j102, j103, j104, j105, j106, j107, j108, j109, j110, j111, j112, j113, j114, j115, j116, j117, j118, x119, x120] K) fun e t K' => e = .exit 2 ∧ Adds H K' ∧ ∃ fv : Nat → AV, t = [x0, x1, x2, x3, (fv 4), v5, x6, x7, v8, (fv 9), (fv 10), (fv 11), (fv 12), (fv 13), (fv 14), (fv 15), x16, x17, x18, x19, x20, x21, x22, x23, x24, x25, x26, x27, x28, x29, x30, x31, x32, x33, x34, x35, x36, x37, x38, x39, x40, x41, x42, x43, x44, x45, x46, x47, x48, x49, x50, x51, x52, x53, x54, x55, x56, x57, x58, x59, x60, x61, x62, x63, x64, x65, (fv 66), (fv 67), (fv 68), (fv 69), (fv 70), (fv 71), (fv 72), (fv 73), (fv 74), (fv 75), (fv 76), (fv 77), (fv 78), (fv 79), (fv 80), (fv 81), (fv 82), (fv 83), (fv 84), (fv 85), (fv 86), (fv 87), (fv 88), (fv 89), (fv 90), (fv 91), (fv 92), (fv 93), (fv 94), (fv 95), (fv 96), (fv 97), (fv 98), (fv 99), (fv 100), (fv 101), (fv 102), (fv 103), (fv 104), (fv 105), (fv 106), (fv 107), (fv 108), (fv 109), (fv 110), (fv 111), (fv 112), (fv 113), (fv 114), (fv 115), (fv 116), (fv 117), (fv 118), x119, x120] ∧ fv 4 = .bool false := by
 intro k
 obtain ⟨L0, hL0⟩ : ∃ L, L = LZ l6x2 := ⟨_, rfl⟩
 have lo := loop_open hL0
 have wl := g8.len
 have fl := f8.1
 rw [← hL0]
 induction k with
 | zero =>
  intro a K j10 j11 j12 j13 j14 j15 j66 j67 j68 j69 j70 j71 j72 j73 j74 j75 j76 j77 j78 j79 j80 j81 j82 j83 j84 j85 j86 j87 j88 j89 j90 j91 j92 j93 j94 j95 j96 j97 j98 j99 j100 j101 j102 j103 j104 j105 j106 j107 j108 j109 j110 j111 j112 j113 j114 j115 j116 j117 j118 aK ha
  obtain rfl : a = M.length := by omega
  have hd : decide ((M.length : Int) < (M.length : Int)) = false := by simp
  rw [lo]
  unfold l6x2
  simp -implicitDefEqProofs (maxSteps := 5000000) only [go_sem, Nat.reduceShiftRight, Nat.reduceAnd, Nat.reduceBNe, Int.reduceEq, Nat.reduceAdd, Nat.reduceSub, Nat.reduceMul, Nat.reduceLeDiff, reduceIte, reduceCtorEq, Nat.reduceBEq, Nat.reduceEqDiff, wrap64, runC_loop, runC_range, callF_fn, callV_fn, callV_yld, yield_eq, yieldBody, yieldRaw, roundMid, roundEnd, rangeEnd, Bool.not_not, put_cons, put_nil, trim_same, at_zero, at_add, set_zero, set_add, store_one, write_zero, write_add, write_head, write_succ, splice_one, splice_more, List.drop_nil, List.take_nil, cell_int, cell_bool, fillS, splice_one, idxA, Ex.isNormal, List.set_nil, List.length_set, List.all_cons, List.all_nil, Bool.and_self, and_self, true_and, and_true, List.getElem?_nil, Int.reduceLT, Int.reduceLE, Int.reduceToNat, Int.toNat_zero, Int.toNat_one, Int.reduceAdd, Int.reduceSub, Int.reduceMul, Int.reduceNeg, Int.reduceBEq, Int.reduceBNe, Int.reduceGE, Int.reduceGT, Nat.reduceLT, trim_keep, under_fn, under_ptr, under_sl, Nat.lt_irrefl, not_lt_add, trim_tail, keepOk, ABlk.vals, Int.cast_ofNat_Int, decide_true, decide_false, List.all_cons, List.all_nil, Nat.zero_mul, Nat.mul_one, Nat.one_mul, wl, hd, seqR_exit', outs_normal]
  exact ⟨aK, exF2 rfl rfl⟩
 | succ k ih =>
  intro a K j10 j11 j12 j13 j14 j15 j66 j67 j68 j69 j70 j71 j72 j73 j74 j75 j76 j77 j78 j79 j80 j81 j82 j83 j84 j85 j86 j87 j88 j89 j90 j91 j92 j93 j94 j95 j96 j97 j98 j99 j100 j101 j102 j103 j104 j105 j106 j107 j108 j109 j110 j111 j112 j113 j114 j115 j116 j117 j118 aK ha
  have hlt : a < M.length := by omega
  have hd : decide ((a : Int) < (M.length : Int)) = true := decide_eq_true (by omega)
  have e2 : IntKind.i64.wrap ((a : Int) + 1) = ((a + 1 : Nat) : Int) := by rw [wrap64 (by omega) (by omega)]; omega
  have hx := List.getElem?_eq_getElem hlt
  have l0 := drpL1 g fi g8 f8 hw hx (k := M[a].tb.length) (b := 0) (K := K)
  rw [show ((0 : Nat) : Int) = 0 from rfl] at l0
  rw [lo]
  unfold l6x2
  simp -implicitDefEqProofs (maxSteps := 5000000) only [go_sem, Nat.reduceShiftRight, Nat.reduceAnd, Nat.reduceBNe, Int.reduceEq, Nat.reduceAdd, Nat.reduceSub, Nat.reduceMul, Nat.reduceLeDiff, reduceIte, reduceCtorEq, Nat.reduceBEq, Nat.reduceEqDiff, wrap64, runC_loop, runC_range, callF_fn, callV_fn, callV_yld, yield_eq, yieldBody, yieldRaw, roundMid, roundEnd, rangeEnd, Bool.not_not, put_cons, put_nil, trim_same, at_zero, at_add, set_zero, set_add, store_one, write_zero, write_add, write_head, write_succ, splice_one, splice_more, List.drop_nil, List.take_nil, cell_int, cell_bool, fillS, splice_one, idxA, Ex.isNormal, List.set_nil, List.length_set, List.all_cons, List.all_nil, Bool.and_self, and_self, true_and, and_true, List.getElem?_nil, Int.reduceLT, Int.reduceLE, Int.reduceToNat, Int.toNat_zero, Int.toNat_one, Int.reduceAdd, Int.reduceSub, Int.reduceMul, Int.reduceNeg, Int.reduceBEq, Int.reduceBNe, Int.reduceGE, Int.reduceGT, Nat.reduceLT, trim_keep, under_fn, under_ptr, under_sl, Nat.lt_irrefl, not_lt_add, trim_tail, keepOk, ABlk.vals, Int.cast_ofNat_Int, decide_true, decide_false, List.all_cons, List.all_nil, Nat.zero_mul, Nat.mul_one, Nat.one_mul, runC_loop, x_loop, wl, hd]
  unfold LZ at l0
  generalize (envL prog).loop (runC (envX prog X4) (l6x1 (envX prog X4))) = LL at l0 ⊢
  refine outs_ctx (fun r => seqR (seqR (blockR 3 (blockR 4 r)) _) _) (l0 _ _ _ _ _ _ _ _ _ _ _ _ _ _ _ _ _ _ _ _ _ _ _ _ _ _ _ _ _ _ _ _ _ _ _ _ _ _ _ _ _ _ _ _ _ _ _ _ _ _ _ _ _ _ _ _ _ _ _ _ _ _ _ _ _ _ _ _ _ _ _ _ _ _ _ _ _ _ _ _ _ _ _ _ _ _ _ _ _ _ _ _ _ _ _ _ _ _ _ _ _ _ _ _ _ _ _ _ _ _ _ _ _ _ _ _ aK (by omega)) ?_
  rintro e t K' ⟨rfl, a1, fv, rfl, f4⟩
  simp -implicitDefEqProofs (maxSteps := 5000000) only [go_sem, Nat.reduceShiftRight, Nat.reduceAnd, Nat.reduceBNe, Int.reduceEq, Nat.reduceAdd, Nat.reduceSub, Nat.reduceMul, Nat.reduceLeDiff, reduceIte, reduceCtorEq, Nat.reduceBEq, Nat.reduceEqDiff, wrap64, runC_loop, runC_range, callF_fn, callV_fn, callV_yld, yield_eq, yieldBody, yieldRaw, roundMid, roundEnd, rangeEnd, Bool.not_not, put_cons, put_nil, trim_same, at_zero, at_add, set_zero, set_add, store_one, write_zero, write_add, write_head, write_succ, splice_one, splice_more, List.drop_nil, List.take_nil, cell_int, cell_bool, fillS, splice_one, idxA, Ex.isNormal, List.set_nil, List.length_set, List.all_cons, List.all_nil, Bool.and_self, and_self, true_and, and_true, List.getElem?_nil, Int.reduceLT, Int.reduceLE, Int.reduceToNat, Int.toNat_zero, Int.toNat_one, Int.reduceAdd, Int.reduceSub, Int.reduceMul, Int.reduceNeg, Int.reduceBEq, Int.reduceBNe, Int.reduceGE, Int.reduceGT, Nat.reduceLT, trim_keep, under_fn, under_ptr, under_sl, Nat.lt_irrefl, not_lt_add, trim_tail, keepOk, ABlk.vals, Int.cast_ofNat_Int, decide_true, decide_false, List.all_cons, List.all_nil, Nat.zero_mul, Nat.mul_one, Nat.one_mul, f4, e2]
  exact ih (a + 1) K' _ _ _ _ _ _ _ _ _ _ _ _ _ _ _ _ _ _ _ _ _ _ _ _ _ _ _ _ _ _ _ _ _ _ _ _ _ _ _ _ _ _ _ _ _ _ _ _ _ _ _ _ _ _ _ _ _ _ _ a1 (by omega)
end
section
variable {H : AHeap} {vo : AV} {zs : List Int} (bo : BS H vo zs) (uo : IsU8 zs) (no : zs.length ≤ 100)
include bo uo no
set_option maxHeartbeats 8000000 in
theorem drpL3 (x0 x2 x3 x16 x17 x18 x19 x20 x21 x22 x23 x24 x25 x26 x27 x28 x29 x30 x31 x32 x33 x34 x35 x36 x37 x38 x120 : AV) : ∀ (m k : Nat) (K : AHeap) (v5 : AV) (N : List SnS) (j7 j8 j9 j10 j11 j12 j13 j14 j15 j39 j40 j41 j42 j43 j44 j45 j46 j47 j48 j49 j50 j51 j52 j53 j54 j55 j56 j57 j58 j59 j60 j61 j62 j63 j64 j65 j66 j67 j68 j69 j70 j71 j72 j73 j74 j75 j76 j77 j78 j79 j80 j81 j82 j83 j84 j85 j86 j87 j88 j89 j90 j91 j92 j93 j94 j95 j96 j97 j98 j99 j100 j101 j102 j103 j104 j105 j106 j107 j108 j109 j110 j111 j112 j113 j114 j115 j116 j117 j118 j119 : AV), Adds H K → IsC K v5 N → N.length ≤ 8 → GoodC 10 200 N → N.length = m → k + m ≤ zs.length →
  Outs (LZ l6x3 [x0, vo, x2, x3, .bool false, v5, .int .i64 (k : Int), j7, j8, j9, j10, j11, j12, j13, j14, j15, x16, x17, x18, x19, x20, x21, x22, x23, x24, x25, x26, x27, x28, x29, x30, x31, x32, x33, x34, x35, x36, x37, x38, j39, j40, j41, j42, j43, j44, j45, j46, j47, j48, j49, j50, j51, j52, j53, j54, j55, j56, j57, j58, j59, j60, j61, j62, j63, j64, j65, j66, j67, j68, j69, j70, j71, j72, j73, j74, j75, j76, j77, j78, j79, j80, j81, j82, j83, j84, j85, j86, j87, j88, j89, j90, j91, j92, j93, j94, j95, j96, j97, j98, j99, j100, j101, j102, j103, j104, j105, j106, j107, j108, j109, j110, j111, j112, j113, j114, j115, j116, j117, j118, j119, x120] K) fun e t K' => e = .exit 0 ∧ ∃ fv : Nat → AV, t = [x0, vo, x2, x3, (fv 4), (fv 5), (fv 6), (fv 7), (fv 8), (fv 9), (fv 10), (fv 11), (fv 12), (fv 13), (fv 14), (fv 15), x16, x17, x18, x19, x20, x21, x22, x23, x24, x25, x26, x27, x28, x29, x30, x31, x32, x33, x34, x35, x36, x37, x38, (fv 39), (fv 40), (fv 41), (fv 42), (fv 43), (fv 44), (fv 45), (fv 46), (fv 47), (fv 48), (fv 49), (fv 50), (fv 51), (fv 52), (fv 53), (fv 54), (fv 55), (fv 56), (fv 57), (fv 58), (fv 59), (fv 60), (fv 61), (fv 62), (fv 63), (fv 64), (fv 65), (fv 66), (fv 67), (fv 68), (fv 69), (fv 70), (fv 71), (fv 72), (fv 73), (fv 74), (fv 75), (fv 76), (fv 77), (fv 78), (fv 79), (fv 80), (fv 81), (fv 82), (fv 83), (fv 84), (fv 85), (fv 86), (fv 87), (fv 88), (fv 89), (fv 90), (fv 91), (fv 92), (fv 93), (fv 94), (fv 95), (fv 96), (fv 97), (fv 98), (fv 99), (fv 100), (fv 101), (fv 102), (fv 103), (fv 104), (fv 105), (fv 106), (fv 107), (fv 108), (fv 109), (fv 110), (fv 111), (fv 112), (fv 113), (fv 114), (fv 115), (fv 116), (fv 117), (fv 118), (fv 119), x120] := by
 intro m
 obtain ⟨L0, hL0⟩ : ∃ L, L = LZ l6x3 := ⟨_, rfl⟩
 have lo := loop_open hL0
 rw [← hL0]
 induction m with
 | zero =>
  intro k K v5 N j7 j8 j9 j10 j11 j12 j13 j14 j15 j39 j40 j41 j42 j43 j44 j45 j46 j47 j48 j49 j50 j51 j52 j53 j54 j55 j56 j57 j58 j59 j60 j61 j62 j63 j64 j65 j66 j67 j68 j69 j70 j71 j72 j73 j74 j75 j76 j77 j78 j79 j80 j81 j82 j83 j84 j85 j86 j87 j88 j89 j90 j91 j92 j93 j94 j95 j96 j97 j98 j99 j100 j101 j102 j103 j104 j105 j106 j107 j108 j109 j110 j111 j112 j113 j114 j115 j116 j117 j118 j119 aK g5 n8 G hm hk
  have wl := g5.len
  rw [hm, show ((0 : Nat) : Int) = 0 from rfl] at wl
  have hd : decide ((0 : Int) > 0) = false := rfl
  rw [lo]
  unfold l6x3
  simp -implicitDefEqProofs (maxSteps := 5000000) only [go_sem, Nat.reduceShiftRight, Nat.reduceAnd, Nat.reduceBNe, Int.reduceEq, Nat.reduceAdd, Nat.reduceSub, Nat.reduceMul, Nat.reduceLeDiff, reduceIte, reduceCtorEq, Nat.reduceBEq, Nat.reduceEqDiff, wrap64, runC_loop, runC_range, callF_fn, callV_fn, callV_yld, yield_eq, yieldBody, yieldRaw, roundMid, roundEnd, rangeEnd, Bool.not_not, put_cons, put_nil, trim_same, at_zero, at_add, set_zero, set_add, store_one, write_zero, write_add, write_head, write_succ, splice_one, splice_more, List.drop_nil, List.take_nil, cell_int, cell_bool, fillS, splice_one, idxA, Ex.isNormal, List.set_nil, List.length_set, List.all_cons, List.all_nil, Bool.and_self, and_self, true_and, and_true, List.getElem?_nil, Int.reduceLT, Int.reduceLE, Int.reduceToNat, Int.toNat_zero, Int.toNat_one, Int.reduceAdd, Int.reduceSub, Int.reduceMul, Int.reduceNeg, Int.reduceBEq, Int.reduceBNe, Int.reduceGE, Int.reduceGT, Nat.reduceLT, trim_keep, under_fn, under_ptr, under_sl, Nat.lt_irrefl, not_lt_add, trim_tail, keepOk, ABlk.vals, Int.cast_ofNat_Int, decide_true, decide_false, List.all_cons, List.all_nil, Nat.zero_mul, Nat.mul_one, Nat.one_mul, wl, hd, seqR_exit', outs_normal]
  exact exF rfl
 | succ m ih =>
  intro k K v5 N j7 j8 j9 j10 j11 j12 j13 j14 j15 j39 j40 j41 j42 j43 j44 j45 j46 j47 j48 j49 j50 j51 j52 j53 j54 j55 j56 j57 j58 j59 j60 j61 j62 j63 j64 j65 j66 j67 j68 j69 j70 j71 j72 j73 j74 j75 j76 j77 j78 j79 j80 j81 j82 j83 j84 j85 j86 j87 j88 j89 j90 j91 j92 j93 j94 j95 j96 j97 j98 j99 j100 j101 j102 j103 j104 j105 j106 j107 j108 j109 j110 j111 j112 j113 j114 j115 j116 j117 j118 j119 aK g5 n8 G hm hk
  have wl := g5.len
  have hd : decide ((N.length : Int) > 0) = true := decide_eq_true (by omega)
  have e2 : IntKind.i64.wrap ((k : Int) + 1) = ((k + 1 : Nat) : Int) := by rw [wrap64 (by omega) (by omega)]; omega
  have hkl : k < zs.length := by omega
  have hz := List.getElem?_eq_getElem hkl
  have uz := uo _ (List.getElem_mem hkl)
  generalize zs[k] = z at *
  obtain ⟨a, jx, ld⟩ := (aK.bs bo).idx hz .i64
  have wz : IntKind.i64.wrap z = z := wrap64 (by omega) (by omega)
  have rm := int_rem .none .i64 z (N.length : Int) (by omega)
  have m0 := tmod_nat uz.1 (show 0 < (N.length : Int) by omega)
  obtain ⟨i, hi⟩ : ∃ i : Nat, z.tmod (N.length : Int) = i := ⟨_, (Int.toNat_of_nonneg m0.1).symm⟩
  rw [hi] at rm m0
  have il : i < N.length := by omega
  have f5 := (G.fair n8).fits
  obtain ⟨GD, LD⟩ := good_drop G il
  have ds : dropS N (i : Int) = dropN N i := by unfold dropS; rw [if_neg (by omega), Int.toNat_natCast]
  obtain ⟨v8, K2, ed, A2, p2⟩ := dropC g5 f5 (i : Int)
  have ed := x4_drop ed
  rw [ds] at p2
  have wd := p2.len
  rw [LD] at wd
  have s1 : IntKind.i64.wrap ((N.length : Int) - 1) = ((N.length - 1 : Nat) : Int) := by rw [wrap64 (by omega) (by omega)]; omega
  have nn : ∀ x : Int, (x != x) = false := fun x => by simp
  have fD := (GD.fair (by omega)).fits
  have eg := cgoodC p2 fD (bl := 10) (by decide) 200
  rw [(cgood_iff fun s hs => (GD.one s hs).u8).2 ⟨by omega, GD⟩] at eg
  have l0 := drpL2 (g5.adds A2) f5 p2 fD (drop_in G il) (k := (dropN N i).length) (a := 0) (K := K2)
  rw [show ((0 : Nat) : Int) = 0 from rfl] at l0
  rw [lo]
  unfold l6x3
  simp -implicitDefEqProofs (maxSteps := 5000000) only [go_sem, Nat.reduceShiftRight, Nat.reduceAnd, Nat.reduceBNe, Int.reduceEq, Nat.reduceAdd, Nat.reduceSub, Nat.reduceMul, Nat.reduceLeDiff, reduceIte, reduceCtorEq, Nat.reduceBEq, Nat.reduceEqDiff, wrap64, runC_loop, runC_range, callF_fn, callV_fn, callV_yld, yield_eq, yieldBody, yieldRaw, roundMid, roundEnd, rangeEnd, Bool.not_not, put_cons, put_nil, trim_same, at_zero, at_add, set_zero, set_add, store_one, write_zero, write_add, write_head, write_succ, splice_one, splice_more, List.drop_nil, List.take_nil, cell_int, cell_bool, fillS, splice_one, idxA, Ex.isNormal, List.set_nil, List.length_set, List.all_cons, List.all_nil, Bool.and_self, and_self, true_and, and_true, List.getElem?_nil, Int.reduceLT, Int.reduceLE, Int.reduceToNat, Int.toNat_zero, Int.toNat_one, Int.reduceAdd, Int.reduceSub, Int.reduceMul, Int.reduceNeg, Int.reduceBEq, Int.reduceBNe, Int.reduceGE, Int.reduceGT, Nat.reduceLT, trim_keep, under_fn, under_ptr, under_sl, Nat.lt_irrefl, not_lt_add, trim_tail, keepOk, ABlk.vals, Int.cast_ofNat_Int, decide_true, decide_false, List.all_cons, List.all_nil, Nat.zero_mul, Nat.mul_one, Nat.one_mul, runC_loop, x_loop, x4_call, wl, hd, jx, ld, wz, rm, hi, ed, wd, s1, nn, eg]
  unfold LZ at l0
  generalize (envL prog).loop (runC (envX prog X4) (l6x2 (envX prog X4))) = LL at l0 ⊢
  refine outs_ctx (fun r => seqR (seqR (blockR 1 (seqR (blockR 2 r) _)) _) _) (l0 _ _ _ _ _ _ _ _ _ _ _ _ _ _ _ _ _ _ _ _ _ _ _ _ _ _ _ _ _ _ _ _ _ _ _ _ _ _ _ _ _ _ _ _ _ _ _ _ _ _ _ _ _ _ _ _ _ _ _ _ _ _ _ _ _ _ _ _ _ _ _ _ _ _ _ _ _ _ _ _ _ _ _ _ _ _ _ _ _ _ _ _ _ _ _ _ _ _ _ _ _ _ _ _ _ _ _ _ _ _ _ _ _ _ _ _ _ (Adds.refl K2) (by omega)) ?_
  rintro e t K' ⟨rfl, a1, fv, rfl, f4⟩
  simp -implicitDefEqProofs (maxSteps := 5000000) only [go_sem, Nat.reduceShiftRight, Nat.reduceAnd, Nat.reduceBNe, Int.reduceEq, Nat.reduceAdd, Nat.reduceSub, Nat.reduceMul, Nat.reduceLeDiff, reduceIte, reduceCtorEq, Nat.reduceBEq, Nat.reduceEqDiff, wrap64, runC_loop, runC_range, callF_fn, callV_fn, callV_yld, yield_eq, yieldBody, yieldRaw, roundMid, roundEnd, rangeEnd, Bool.not_not, put_cons, put_nil, trim_same, at_zero, at_add, set_zero, set_add, store_one, write_zero, write_add, write_head, write_succ, splice_one, splice_more, List.drop_nil, List.take_nil, cell_int, cell_bool, fillS, splice_one, idxA, Ex.isNormal, List.set_nil, List.length_set, List.all_cons, List.all_nil, Bool.and_self, and_self, true_and, and_true, List.getElem?_nil, Int.reduceLT, Int.reduceLE, Int.reduceToNat, Int.toNat_zero, Int.toNat_one, Int.reduceAdd, Int.reduceSub, Int.reduceMul, Int.reduceNeg, Int.reduceBEq, Int.reduceBNe, Int.reduceGE, Int.reduceGT, Nat.reduceLT, trim_keep, under_fn, under_ptr, under_sl, Nat.lt_irrefl, not_lt_add, trim_tail, keepOk, ABlk.vals, Int.cast_ofNat_Int, decide_true, decide_false, List.all_cons, List.all_nil, Nat.zero_mul, Nat.mul_one, Nat.one_mul, f4, e2]
  exact ih (k + 1) K' v8 (dropN N i) _ _ _ _ _ _ _ _ _ _ _ _ _ _ _ _ _ _ _ _ _ _ _ _ _ _ _ _ _ _ _ _ _ _ _ _ _ _ _ _ _ _ _ _ _ _ _ _ _ _ _ _ _ _ _ _ _ _ _ _ _ _ _ _ _ _ _ _ _ _ _ _ _ _ _ _ _ _ _ _ _ _ _ _ _ _ _ _ _ _ ((aK.trans A2).trans a1) (p2.adds a1) (by omega) GD (by omega) (by omega)
end
set_option maxHeartbeats 32000000 in
theorem chainDrops (v w : AV) (h : AHeap) (d : DatC h (.sl [.int .i64, .sl [.int .u8], .sl [.int .i64, .int .i64]]) v) (d2 : DatC h (.sl [.int .u8]) w) : ∃ h', callBody prog (envX prog X4) 6 [v, w] h = some (.bool true, h') := by
 obtain ⟨L, gl, ln, hL⟩ := snaps_dat d
 obtain ⟨zs, bz, uz, _⟩ := d2.bytes
 rw [d6]
 refine of_outs ?_
 unfold b6
 generalize hQ : (fun (e : Ex) (t : T) (h1 : AHeap) => fin [.tmp 4] (some (e, t, h1)) = some (AV.bool true, h1)) = Q
 have wl := gl.len
 have wz := bz.len
 have ef := fairC gl ⟨ln, fun s hs => ⟨(hL s hs).2.2.1, (hL s hs).2.2.2.1⟩⟩
 rcases hf : fairS L with _ | _ <;> rw [hf] at ef
 ·simp -implicitDefEqProofs (maxSteps := 5000000) only [go_sem, Nat.reduceShiftRight, Nat.reduceAnd, Nat.reduceBNe, Int.reduceEq, Nat.reduceAdd, Nat.reduceSub, Nat.reduceMul, Nat.reduceLeDiff, reduceIte, reduceCtorEq, Nat.reduceBEq, Nat.reduceEqDiff, wrap64, runC_loop, runC_range, callF_fn, callV_fn, callV_yld, yield_eq, yieldBody, yieldRaw, roundMid, roundEnd, rangeEnd, Bool.not_not, put_cons, put_nil, trim_same, at_zero, at_add, set_zero, set_add, store_one, write_zero, write_add, write_head, write_succ, splice_one, splice_more, List.drop_nil, List.take_nil, cell_int, cell_bool, fillS, splice_one, idxA, Ex.isNormal, List.set_nil, List.length_set, List.all_cons, List.all_nil, Bool.and_self, and_self, true_and, and_true, List.getElem?_nil, Int.reduceLT, Int.reduceLE, Int.reduceToNat, Int.toNat_zero, Int.toNat_one, Int.reduceAdd, Int.reduceSub, Int.reduceMul, Int.reduceNeg, Int.reduceBEq, Int.reduceBNe, Int.reduceGE, Int.reduceGT, Nat.reduceLT, trim_keep, under_fn, under_ptr, under_sl, Nat.lt_irrefl, not_lt_add, trim_tail, keepOk, ABlk.vals, Int.cast_ofNat_Int, decide_true, decide_false, List.all_cons, List.all_nil, Nat.zero_mul, Nat.mul_one, Nat.one_mul, x4_call, ef, x4_wakes, outs_normal]
  subst hQ
  simp -implicitDefEqProofs (maxSteps := 5000000) only [go_sem, Nat.reduceShiftRight, Nat.reduceAnd, Nat.reduceBNe, Int.reduceEq, Nat.reduceAdd, Nat.reduceSub, Nat.reduceMul, Nat.reduceLeDiff, reduceIte, reduceCtorEq, Nat.reduceBEq, Nat.reduceEqDiff]
 have f := fairS_fair hf fun s hs => (hL s hs).2.1
 have fi := f.fits
 have er := rcgood gl fi (bl := 10) (by decide) 200
 rcases hg : cgood L 10 200 with _ | _ <;> rw [hg] at er
 ·simp -implicitDefEqProofs (maxSteps := 5000000) only [go_sem, Nat.reduceShiftRight, Nat.reduceAnd, Nat.reduceBNe, Int.reduceEq, Nat.reduceAdd, Nat.reduceSub, Nat.reduceMul, Nat.reduceLeDiff, reduceIte, reduceCtorEq, Nat.reduceBEq, Nat.reduceEqDiff, wrap64, runC_loop, runC_range, callF_fn, callV_fn, callV_yld, yield_eq, yieldBody, yieldRaw, roundMid, roundEnd, rangeEnd, Bool.not_not, put_cons, put_nil, trim_same, at_zero, at_add, set_zero, set_add, store_one, write_zero, write_add, write_head, write_succ, splice_one, splice_more, List.drop_nil, List.take_nil, cell_int, cell_bool, fillS, splice_one, idxA, Ex.isNormal, List.set_nil, List.length_set, List.all_cons, List.all_nil, Bool.and_self, and_self, true_and, and_true, List.getElem?_nil, Int.reduceLT, Int.reduceLE, Int.reduceToNat, Int.toNat_zero, Int.toNat_one, Int.reduceAdd, Int.reduceSub, Int.reduceMul, Int.reduceNeg, Int.reduceBEq, Int.reduceBNe, Int.reduceGE, Int.reduceGT, Nat.reduceLT, trim_keep, under_fn, under_ptr, under_sl, Nat.lt_irrefl, not_lt_add, trim_tail, keepOk, ABlk.vals, Int.cast_ofNat_Int, decide_true, decide_false, List.all_cons, List.all_nil, Nat.zero_mul, Nat.mul_one, Nat.one_mul, x4_call, ef, er, x4_wakes, outs_normal]
  subst hQ
  simp -implicitDefEqProofs (maxSteps := 5000000) only [go_sem, Nat.reduceShiftRight, Nat.reduceAnd, Nat.reduceBNe, Int.reduceEq, Nat.reduceAdd, Nat.reduceSub, Nat.reduceMul, Nat.reduceLeDiff, reduceIte, reduceCtorEq, Nat.reduceBEq, Nat.reduceEqDiff]
 obtain ⟨l8, G⟩ := (cgood_iff f.u8).1 hg
 by_cases h1 : (zs.length : Int) < (L.length : Int)
 ·have d1 := decide_eq_true h1
  simp -implicitDefEqProofs (maxSteps := 5000000) only [go_sem, Nat.reduceShiftRight, Nat.reduceAnd, Nat.reduceBNe, Int.reduceEq, Nat.reduceAdd, Nat.reduceSub, Nat.reduceMul, Nat.reduceLeDiff, reduceIte, reduceCtorEq, Nat.reduceBEq, Nat.reduceEqDiff, wrap64, runC_loop, runC_range, callF_fn, callV_fn, callV_yld, yield_eq, yieldBody, yieldRaw, roundMid, roundEnd, rangeEnd, Bool.not_not, put_cons, put_nil, trim_same, at_zero, at_add, set_zero, set_add, store_one, write_zero, write_add, write_head, write_succ, splice_one, splice_more, List.drop_nil, List.take_nil, cell_int, cell_bool, fillS, splice_one, idxA, Ex.isNormal, List.set_nil, List.length_set, List.all_cons, List.all_nil, Bool.and_self, and_self, true_and, and_true, List.getElem?_nil, Int.reduceLT, Int.reduceLE, Int.reduceToNat, Int.toNat_zero, Int.toNat_one, Int.reduceAdd, Int.reduceSub, Int.reduceMul, Int.reduceNeg, Int.reduceBEq, Int.reduceBNe, Int.reduceGE, Int.reduceGT, Nat.reduceLT, trim_keep, under_fn, under_ptr, under_sl, Nat.lt_irrefl, not_lt_add, trim_tail, keepOk, ABlk.vals, Int.cast_ofNat_Int, decide_true, decide_false, List.all_cons, List.all_nil, Nat.zero_mul, Nat.mul_one, Nat.one_mul, x4_call, ef, er, wl, wz, d1, x4_wakes, outs_normal]
  subst hQ
  simp -implicitDefEqProofs (maxSteps := 5000000) only [go_sem, Nat.reduceShiftRight, Nat.reduceAnd, Nat.reduceBNe, Int.reduceEq, Nat.reduceAdd, Nat.reduceSub, Nat.reduceMul, Nat.reduceLeDiff, reduceIte, reduceCtorEq, Nat.reduceBEq, Nat.reduceEqDiff]
 have d1 := decide_eq_false h1
 by_cases h2 : (zs.length : Int) > 100
 ·have d2 := decide_eq_true h2
  simp -implicitDefEqProofs (maxSteps := 5000000) only [go_sem, Nat.reduceShiftRight, Nat.reduceAnd, Nat.reduceBNe, Int.reduceEq, Nat.reduceAdd, Nat.reduceSub, Nat.reduceMul, Nat.reduceLeDiff, reduceIte, reduceCtorEq, Nat.reduceBEq, Nat.reduceEqDiff, wrap64, runC_loop, runC_range, callF_fn, callV_fn, callV_yld, yield_eq, yieldBody, yieldRaw, roundMid, roundEnd, rangeEnd, Bool.not_not, put_cons, put_nil, trim_same, at_zero, at_add, set_zero, set_add, store_one, write_zero, write_add, write_head, write_succ, splice_one, splice_more, List.drop_nil, List.take_nil, cell_int, cell_bool, fillS, splice_one, idxA, Ex.isNormal, List.set_nil, List.length_set, List.all_cons, List.all_nil, Bool.and_self, and_self, true_and, and_true, List.getElem?_nil, Int.reduceLT, Int.reduceLE, Int.reduceToNat, Int.toNat_zero, Int.toNat_one, Int.reduceAdd, Int.reduceSub, Int.reduceMul, Int.reduceNeg, Int.reduceBEq, Int.reduceBNe, Int.reduceGE, Int.reduceGT, Nat.reduceLT, trim_keep, under_fn, under_ptr, under_sl, Nat.lt_irrefl, not_lt_add, trim_tail, keepOk, ABlk.vals, Int.cast_ofNat_Int, decide_true, decide_false, List.all_cons, List.all_nil, Nat.zero_mul, Nat.mul_one, Nat.one_mul, x4_call, ef, er, wl, wz, d1, d2, x4_wakes, outs_normal]
  subst hQ
  simp -implicitDefEqProofs (maxSteps := 5000000) only [go_sem, Nat.reduceShiftRight, Nat.reduceAnd, Nat.reduceBNe, Int.reduceEq, Nat.reduceAdd, Nat.reduceSub, Nat.reduceMul, Nat.reduceLeDiff, reduceIte, reduceCtorEq, Nat.reduceBEq, Nat.reduceEqDiff]
 have d2 := decide_eq_false h2
 obtain ⟨x, K1, ec, A1, rows, gc⟩ := copyCh gl fi
 have l0 := drpL3 (H := h) bz uz (by omega) (m := L.length) (k := 0) (K := K1) (v5 := x) (N := L)
 rw [show ((0 : Nat) : Int) = 0 from rfl] at l0
 simp -implicitDefEqProofs (maxSteps := 5000000) only [go_sem, Nat.reduceShiftRight, Nat.reduceAnd, Nat.reduceBNe, Int.reduceEq, Nat.reduceAdd, Nat.reduceSub, Nat.reduceMul, Nat.reduceLeDiff, reduceIte, reduceCtorEq, Nat.reduceBEq, Nat.reduceEqDiff, wrap64, runC_loop, runC_range, callF_fn, callV_fn, callV_yld, yield_eq, yieldBody, yieldRaw, roundMid, roundEnd, rangeEnd, Bool.not_not, put_cons, put_nil, trim_same, at_zero, at_add, set_zero, set_add, store_one, write_zero, write_add, write_head, write_succ, splice_one, splice_more, List.drop_nil, List.take_nil, cell_int, cell_bool, fillS, splice_one, idxA, Ex.isNormal, List.set_nil, List.length_set, List.all_cons, List.all_nil, Bool.and_self, and_self, true_and, and_true, List.getElem?_nil, Int.reduceLT, Int.reduceLE, Int.reduceToNat, Int.toNat_zero, Int.toNat_one, Int.reduceAdd, Int.reduceSub, Int.reduceMul, Int.reduceNeg, Int.reduceBEq, Int.reduceBNe, Int.reduceGE, Int.reduceGT, Nat.reduceLT, trim_keep, under_fn, under_ptr, under_sl, Nat.lt_irrefl, not_lt_add, trim_tail, keepOk, ABlk.vals, Int.cast_ofNat_Int, decide_true, decide_false, List.all_cons, List.all_nil, Nat.zero_mul, Nat.mul_one, Nat.one_mul, runC_loop, x_loop, x4_call, ef, er, wl, wz, d1, d2, ec]
 unfold LZ at l0
 generalize (envL prog).loop (runC (envX prog X4) (l6x3 (envX prog X4))) = LL at l0 ⊢
 refine outs_ctx (fun r => seqR (blockR 0 r) _) (l0 _ _ _ _ _ _ _ _ _ _ _ _ _ _ _ _ _ _ _ _ _ _ _ _ _ _ _ _ _ _ _ _ _ _ _ _ _ _ _ _ _ _ _ _ _ _ _ _ _ _ _ _ _ _ _ _ _ _ _ _ _ _ _ _ _ _ _ _ _ _ _ _ _ _ _ _ _ _ _ _ _ _ _ _ _ _ _ _ _ _ _ _ _ _ _ _ _ _ _ _ _ _ _ _ _ _ _ _ _ _ _ _ _ _ _ _ _ A1 gc.isC l8 G rfl (by omega)) ?_
 rintro e t H6 ⟨rfl, fv, rfl⟩
 simp -implicitDefEqProofs (maxSteps := 5000000) only [go_sem, Nat.reduceShiftRight, Nat.reduceAnd, Nat.reduceBNe, Int.reduceEq, Nat.reduceAdd, Nat.reduceSub, Nat.reduceMul, Nat.reduceLeDiff, reduceIte, reduceCtorEq, Nat.reduceBEq, Nat.reduceEqDiff, wrap64, runC_loop, runC_range, callF_fn, callV_fn, callV_yld, yield_eq, yieldBody, yieldRaw, roundMid, roundEnd, rangeEnd, Bool.not_not, put_cons, put_nil, trim_same, at_zero, at_add, set_zero, set_add, store_one, write_zero, write_add, write_head, write_succ, splice_one, splice_more, List.drop_nil, List.take_nil, cell_int, cell_bool, fillS, splice_one, idxA, Ex.isNormal, List.set_nil, List.length_set, List.all_cons, List.all_nil, Bool.and_self, and_self, true_and, and_true, List.getElem?_nil, Int.reduceLT, Int.reduceLE, Int.reduceToNat, Int.toNat_zero, Int.toNat_one, Int.reduceAdd, Int.reduceSub, Int.reduceMul, Int.reduceNeg, Int.reduceBEq, Int.reduceBNe, Int.reduceGE, Int.reduceGT, Nat.reduceLT, trim_keep, under_fn, under_ptr, under_sl, Nat.lt_irrefl, not_lt_add, trim_tail, keepOk, ABlk.vals, Int.cast_ofNat_Int, decide_true, decide_false, List.all_cons, List.all_nil, Nat.zero_mul, Nat.mul_one, Nat.one_mul, x4_wakes, outs_normal]
 subst hQ
 simp -implicitDefEqProofs (maxSteps := 5000000) only [go_sem, Nat.reduceShiftRight, Nat.reduceAnd, Nat.reduceBNe, Int.reduceEq, Nat.reduceAdd, Nat.reduceSub, Nat.reduceMul, Nat.reduceLeDiff, reduceIte, reduceCtorEq, Nat.reduceBEq, Nat.reduceEqDiff]
end Go.Proofs.Ythhodjcgcgkaaaa.G11
end
