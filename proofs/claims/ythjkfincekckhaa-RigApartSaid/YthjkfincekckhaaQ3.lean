/- What the functions that RigApart reaches answer, for every argument. No condition but those in each statement. -/
import Derived.Test.YthjkfincekckhaaQ0
import Derived.Test.YthjkfincekckhaaE6
set_option linter.unusedSimpArgs false
set_option linter.unusedVariables false
set_option maxRecDepth 10000
namespace Go.Proofs.Ythjkfincekckhaa.G04
open Go Go.Proofs.Ythjkfincekckhaa.Eng
/-- The slow disk's sectors when so many were written. -/
def apB (i : Nat) : List Sec := (List.range 5).map fun j => if j < i then ⟨zeros64, [fz (50 + (j : Int))]⟩ else zsec
theorem apB_step {i : Nat} (h : i < 5) : (apB i).modify i (fun s => ⟨s.there, s.vers ++ [fz (50 + (i : Int))]⟩) = apB (i + 1) := by
  rcases (show i = 0 ∨ i = 1 ∨ i = 2 ∨ i = 3 ∨ i = 4 by omega) with rfl | rfl | rfl | rfl | rfl <;> rfl
structure ApI (r : RgS) (b : List Sec) : Prop where
  la : r.a.length = 5
  b : r.b = b
  fuse : r.fuse = -1
  down : r.down = false
theorem ApI.pass {r : RgS} {b : List Sec} (I : ApI r b) : ApI r.pass.1 b ∧ r.pass.2 = 0 := by
  rw [wr_free I.fuse I.down]
  exact ⟨⟨I.la, I.b, I.fuse, I.down⟩, rfl⟩
theorem ApI.write0 {r : RgS} {b : List Sec} (I : ApI r b) {i : Int} (hi : 0 ≤ i ∧ i < 5) (z : List Int) : (r.write 0 i z).2 = 0 ∧ ApI (r.write 0 i z).1 b := by
  obtain ⟨p, q⟩ := I.pass
  unfold RgS.write
  rw [if_pos ⟨hi.1, by show i < r.a.length; rw [I.la]; exact hi.2⟩, if_pos q]
  refine ⟨rfl, ?_, p.b, p.fuse, p.down⟩
  show ((r.dk 0).modify _ _).length = 5
  rw [List.length_modify]; exact I.la
theorem ApI.write1 {r : RgS} {i : Nat} (I : ApI r (apB i)) (hi : i < 5) : (r.write 1 (i : Int) (fz (50 + (i : Int)))).2 = 0 ∧ ApI (r.write 1 (i : Int) (fz (50 + (i : Int)))).1 (apB (i + 1)) := by
  obtain ⟨p, q⟩ := I.pass
  have hb : r.dk 1 = apB i := I.b
  unfold RgS.write
  rw [if_pos ⟨by omega, by rw [hb]; simp [apB]; omega⟩, if_pos q, hb, Int.toNat_natCast, apB_step hi]
  exact ⟨rfl, p.la, rfl, p.fuse, p.down⟩
theorem ApI.flush0 {r : RgS} {b : List Sec} (I : ApI r b) : (r.flush 0).2 = 0 ∧ ApI (r.flush 0).1 b := by
  obtain ⟨p, q⟩ := I.pass
  unfold RgS.flush
  rw [if_pos (.inl rfl), if_pos q]
  refine ⟨rfl, ?_, p.b, p.fuse, p.down⟩
  show ((r.dk 0).map settled).length = 5
  rw [List.length_map]; exact I.la
theorem ApI.read1 {r : RgS} (I : ApI r (apB 5)) {i : Nat} (hi : i < 5) : r.read 1 (i : Int) = (fz (50 + (i : Int)), 0) := by
  have hb : r.dk 1 = apB 5 := I.b
  unfold RgS.read
  rw [if_pos ⟨by omega, by rw [hb]; simp [apB]; omega⟩, I.down, hb, Int.toNat_natCast]
  rcases (show i = 0 ∨ i = 1 ∨ i = 2 ∨ i = 3 ∨ i = 4 by omega) with rfl | rfl | rfl | rfl | rfl <;> rfl
def apW (i : Nat) : List Int := if i = 0 ∨ i = 2 then fz (50 + (i : Int)) else zeros64
theorem ApI.crash {r : RgS} (I : ApI r (apB 5)) {i : Nat} (hi : i < 5) : (r.crash [255, 255, 255, 255, 255] [1, 0, 1]).read 1 (i : Int) = (apW i, 0) := by
  have hb : (r.crash [255, 255, 255, 255, 255] [1, 0, 1]).dk 1 = [⟨fz 50, []⟩, ⟨zeros64, []⟩, ⟨fz 52, []⟩, ⟨zeros64, []⟩, ⟨zeros64, []⟩] := by
    show crashS r.b [1, 0, 1] = _
    rw [I.b]; rfl
  unfold RgS.read
  rw [if_pos ⟨by omega, by rw [hb]; simp; omega⟩, hb, Int.toNat_natCast]
  rcases (show i = 0 ∨ i = 1 ∨ i = 2 ∨ i = 3 ∨ i = 4 by omega) with rfl | rfl | rfl | rfl | rfl <;> rfl
theorem ap_wrap {i : Nat} (hi : i < 5) : IntKind.i64.wrap (50 + (i : Int)) = 50 + (i : Int) ∧ IntKind.u8.wrap (50 + (i : Int)) = 50 + (i : Int) ∧ B64 (fz (50 + (i : Int))) := by
  refine ⟨wrap64 (by omega) (by omega), ?_, fz_ok (by omega)⟩
  rcases (show i = 0 ∨ i = 1 ∨ i = 2 ∨ i = 3 ∨ i = 4 by omega) with rfl | rfl | rfl | rfl | rfl <;> decide
set_option maxHeartbeats 8000000 in
theorem apartL0 {h0 : AHeap} {p : Nat} (x0 x1 x4 x6 x7 x8 x9 x10 x11 x12 x13 x14 x15 x16 x17 x18 x19 x20 x21 x22 x23 x24 x25 x26 x27 x28 x29 x30 x31 x32 x33 x34 x35 x36 x37 x38 x51 x52 x53 x54 x55 x56 x57 x58 x59 x60 x61 x62 x63 x64 x65 x66 x67 x68 x69 x70 x71 x72 x73 x74 x75 x76 x77 x78 x79 x80 x81 x82 x83 x84 x85 x86 x87 x88 x89 x90 x91 x92 x93 x94 x95 x96 x97 x98 x99 x100 x101 x102 x103 x104 x105 x106 x107 x108 x109 x110 x111 x112 x113 x114 x115 x116 x117 x118 x119 x120 x121 x122 x123 x124 x125 x126 x127 x128 x129 x130 x131 x132 x133 : AV) : ∀ (k i : Nat) (H : AHeap) (r : RgS) (F : Nat → Prop) (j39 j40 j41 j42 j43 j44 j45 j46 j47 j48 j49 j50 : AV), LI h0 H p i r F → ApI r (apB i) → i + k = 5 →
    Outs (LP l6x0 [x0, x1, .bool false, .ptr p 0, x4, .int .i64 (i : Int), x6, x7, x8, x9, x10, x11, x12, x13, x14, x15, x16, x17, x18, x19, x20, x21, x22, x23, x24, x25, x26, x27, x28, x29, x30, x31, x32, x33, x34, x35, x36, x37, x38, j39, j40, j41, j42, j43, j44, j45, j46, j47, j48, j49, j50, x51, x52, x53, x54, x55, x56, x57, x58, x59, x60, x61, x62, x63, x64, x65, x66, x67, x68, x69, x70, x71, x72, x73, x74, x75, x76, x77, x78, x79, x80, x81, x82, x83, x84, x85, x86, x87, x88, x89, x90, x91, x92, x93, x94, x95, x96, x97, x98, x99, x100, x101, x102, x103, x104, x105, x106, x107, x108, x109, x110, x111, x112, x113, x114, x115, x116, x117, x118, x119, x120, x121, x122, x123, x124, x125, x126, x127, x128, x129, x130, x131, x132, x133] H) fun e t H' => e = .exit 0 ∧ (∃ r' F', LI h0 H' p 5 r' F' ∧ ApI r' (apB 5)) ∧ ∃ k : Nat → AV, t = [x0, x1, .bool false, .ptr p 0, x4, (k 5), x6, x7, x8, x9, x10, x11, x12, x13, x14, x15, x16, x17, x18, x19, x20, x21, x22, x23, x24, x25, x26, x27, x28, x29, x30, x31, x32, x33, x34, x35, x36, x37, x38, (k 39), (k 40), (k 41), (k 42), (k 43), (k 44), (k 45), (k 46), (k 47), (k 48), (k 49), (k 50), x51, x52, x53, x54, x55, x56, x57, x58, x59, x60, x61, x62, x63, x64, x65, x66, x67, x68, x69, x70, x71, x72, x73, x74, x75, x76, x77, x78, x79, x80, x81, x82, x83, x84, x85, x86, x87, x88, x89, x90, x91, x92, x93, x94, x95, x96, x97, x98, x99, x100, x101, x102, x103, x104, x105, x106, x107, x108, x109, x110, x111, x112, x113, x114, x115, x116, x117, x118, x119, x120, x121, x122, x123, x124, x125, x126, x127, x128, x129, x130, x131, x132, x133] := by
  intro k
  obtain ⟨L, hL⟩ : ∃ L, L = LP l6x0 := ⟨_, rfl⟩
  have lo := loop_open hL
  rw [← hL]
  induction k with
  | zero =>
    intro i H r F j39 j40 j41 j42 j43 j44 j45 j46 j47 j48 j49 j50 l I hi
    obtain rfl : i = 5 := by omega
    have hd : decide (((5 : Nat) : Int) < 5) = false := rfl
    rw [lo]
    unfold l6x0
    simp -implicitDefEqProofs (maxSteps := 5000000) only [go_sem, Nat.reduceShiftRight, Nat.reduceAnd, Nat.reduceBNe, Int.reduceEq, Nat.reduceAdd, Nat.reduceSub, Nat.reduceMul, Nat.reduceLeDiff, reduceIte, reduceCtorEq, Nat.reduceBEq, Nat.reduceEqDiff, hd, seqR_exit', outs_normal]
    exact ⟨⟨r, F, l, I⟩, exF rfl⟩
  | succ k ih =>
    intro i H r F j39 j40 j41 j42 j43 j44 j45 j46 j47 j48 j49 j50 l I hi
    have hd : decide ((i : Int) < 5) = true := decide_eq_true (by omega)
    have e2 : IntKind.i64.wrap ((i : Int) + 1) = ((i + 1 : Nat) : Int) := by rw [wrap64 (by omega) (by omega)]; omega
    obtain ⟨v1, v2, v3⟩ := ap_wrap (show i < 5 by omega)
    have fu := fillU (50 + (i : Int)) H
    obtain ⟨H', F', m', s, e⟩ := rinWrite l.m 1 (i : Int) v3 (by omega)
    obtain ⟨q1, q2⟩ := I.write1 (show i < 5 by omega)
    rw [q1] at e
    have z0 : ((0 : Int) != 0) = false := rfl
    rw [lo]
    unfold l6x0
    simp -implicitDefEqProofs (maxSteps := 5000000) only [go_sem, Nat.reduceShiftRight, Nat.reduceAnd, Nat.reduceBNe, Int.reduceEq, Nat.reduceAdd, Nat.reduceSub, Nat.reduceMul, Nat.reduceLeDiff, reduceIte, reduceCtorEq, Nat.reduceBEq, Nat.reduceEqDiff, o_call, hd, e2, v1, v2, fu, e, z0]
    exact ih (i + 1) H' _ F' _ _ _ _ _ _ _ _ _ _ _ _ (l.step m' s) q2 (by omega)
set_option maxHeartbeats 8000000 in
theorem apartL1 {h0 : AHeap} {vl : AV} {rows : List (List AV)} (rs : RS 6 h0 vl rows) (rd : ∀ r ∈ rows, DatR h0 stepSh r) (hn : rows.length ≤ 200) {p : Nat} (x1 x4 x5 x8 x9 x10 x11 x12 x13 x14 x15 x16 x17 x18 x19 x20 x21 x22 x23 x24 x25 x26 x27 x28 x29 x30 x31 x32 x33 x34 x35 x36 x37 x38 x39 x40 x41 x42 x43 x44 x45 x46 x47 x48 x49 x50 x81 x82 x83 x84 x85 x86 x87 x88 x89 x90 x91 x92 x93 x94 x95 x96 x97 x98 x99 x100 x101 x102 x103 x104 x105 x106 x107 x108 x109 x110 x111 x112 x113 x114 x115 x116 x117 x118 x119 x120 x121 x122 x123 x124 x125 x126 x127 x128 x129 x130 x131 x132 x133 : AV) : ∀ (k i : Nat) (H : AHeap) (r : RgS) (F : Nat → Prop) (j7 j51 j52 j53 j54 j55 j56 j57 j58 j59 j60 j61 j62 j63 j64 j65 j66 j67 j68 j69 j70 j71 j72 j73 j74 j75 j76 j77 j78 j79 j80 : AV), LI h0 H p (5 + i) r F → ApI r (apB 5) → i + k = rows.length →
    Outs (LP l6x1 [vl, x1, .bool false, .ptr p 0, x4, x5, .int .i64 (i : Int), j7, x8, x9, x10, x11, x12, x13, x14, x15, x16, x17, x18, x19, x20, x21, x22, x23, x24, x25, x26, x27, x28, x29, x30, x31, x32, x33, x34, x35, x36, x37, x38, x39, x40, x41, x42, x43, x44, x45, x46, x47, x48, x49, x50, j51, j52, j53, j54, j55, j56, j57, j58, j59, j60, j61, j62, j63, j64, j65, j66, j67, j68, j69, j70, j71, j72, j73, j74, j75, j76, j77, j78, j79, j80, x81, x82, x83, x84, x85, x86, x87, x88, x89, x90, x91, x92, x93, x94, x95, x96, x97, x98, x99, x100, x101, x102, x103, x104, x105, x106, x107, x108, x109, x110, x111, x112, x113, x114, x115, x116, x117, x118, x119, x120, x121, x122, x123, x124, x125, x126, x127, x128, x129, x130, x131, x132, x133] H) fun e t H' => e = .exit 2 ∧ (∃ c r' F', LI h0 H' p c r' F' ∧ ApI r' (apB 5)) ∧ ∃ k : Nat → AV, t = [vl, x1, .bool false, .ptr p 0, x4, x5, (k 6), (k 7), x8, x9, x10, x11, x12, x13, x14, x15, x16, x17, x18, x19, x20, x21, x22, x23, x24, x25, x26, x27, x28, x29, x30, x31, x32, x33, x34, x35, x36, x37, x38, x39, x40, x41, x42, x43, x44, x45, x46, x47, x48, x49, x50, (k 51), (k 52), (k 53), (k 54), (k 55), (k 56), (k 57), (k 58), (k 59), (k 60), (k 61), (k 62), (k 63), (k 64), (k 65), (k 66), (k 67), (k 68), (k 69), (k 70), (k 71), (k 72), (k 73), (k 74), (k 75), (k 76), (k 77), (k 78), (k 79), (k 80), x81, x82, x83, x84, x85, x86, x87, x88, x89, x90, x91, x92, x93, x94, x95, x96, x97, x98, x99, x100, x101, x102, x103, x104, x105, x106, x107, x108, x109, x110, x111, x112, x113, x114, x115, x116, x117, x118, x119, x120, x121, x122, x123, x124, x125, x126, x127, x128, x129, x130, x131, x132, x133] := by
  intro k
  obtain ⟨L, hL⟩ : ∃ L, L = LP l6x1 := ⟨_, rfl⟩
  have lo := loop_open hL
  rw [← hL]
  induction k with
  | zero =>
    intro i H r F j7 j51 j52 j53 j54 j55 j56 j57 j58 j59 j60 j61 j62 j63 j64 j65 j66 j67 j68 j69 j70 j71 j72 j73 j74 j75 j76 j77 j78 j79 j80 l I hi
    obtain rfl : i = rows.length := by omega
    have hl := rs.len
    have hd : decide ((rows.length : Int) < (rows.length : Int)) = false := by simp
    rw [lo]
    unfold l6x1
    simp -implicitDefEqProofs (maxSteps := 5000000) only [go_sem, Nat.reduceShiftRight, Nat.reduceAnd, Nat.reduceBNe, Int.reduceEq, Nat.reduceAdd, Nat.reduceSub, Nat.reduceMul, Nat.reduceLeDiff, reduceIte, reduceCtorEq, Nat.reduceBEq, Nat.reduceEqDiff, hl, hd, seqR_exit', outs_normal]
    exact ⟨⟨_, r, F, l, I⟩, exF rfl⟩
  | succ k ih =>
    intro i H r F j7 j51 j52 j53 j54 j55 j56 j57 j58 j59 j60 j61 j62 j63 j64 j65 j66 j67 j68 j69 j70 j71 j72 j73 j74 j75 j76 j77 j78 j79 j80 l I hi
    have hl := rs.len
    have hd : decide ((i : Int) < (rows.length : Int)) = true := decide_eq_true (by omega)
    have e2 : IntKind.i64.wrap ((i : Int) + 1) = ((i + 1 : Nat) : Int) := by rw [wrap64 (by omega) (by omega)]; omega
    obtain ⟨row, hr⟩ : ∃ r, rows[i]? = some r := ⟨_, List.getElem?_eq_getElem (by omega)⟩
    obtain ⟨s0, s1, s2, s3, s4, s5, rfl, w0, w1, w2, w3, f4, f5⟩ := step_dat (rd row (List.mem_of_getElem? hr))
    obtain ⟨b, cs, ix, hc0, hg, _, hsz, htk⟩ := rs.idx (by omega) hr .i64
    have g0 : cs[i * 6]? = some (.int .i64 s0) := hg 0 (by omega)
    have g2 : cs[i * 6 + 2]? = some (.int .i64 s2) := hg 2 (by omega)
    have g3 : cs[i * 6 + 3]? = some (.int .u8 s3) := hg 3 (by omega)
    have c0 := l.old.cells hc0
    have m5 := modC s2 5 (.inr w2) (by omega) (by omega) H
    have hat : 0 ≤ s2 % 5 ∧ s2 % 5 < 5 := by omega
    generalize s2 % 5 = at5 at *
    have fu := fillU s3 H
    have z0 : ((0 : Int) != 0) = false := rfl
    have l' : LI h0 H p (5 + (i + 1)) r F := ⟨RigIn.up l.m (by omega) (by omega), l.old, l.out⟩
    by_cases k2 : s0 = 2
    · subst k2
      have n2 : ((2 : Int) == 2) = true := rfl
      obtain ⟨H', m', s, _, e⟩ := rinFlush l'.m 0
      obtain ⟨q1, q2⟩ := I.flush0
      rw [q1] at e
      rw [lo]
      unfold l6x1
      simp -implicitDefEqProofs (maxSteps := 5000000) only [go_sem, Nat.reduceShiftRight, Nat.reduceAnd, Nat.reduceBNe, Int.reduceEq, Nat.reduceAdd, Nat.reduceSub, Nat.reduceMul, Nat.reduceLeDiff, reduceIte, reduceCtorEq, Nat.reduceBEq, Nat.reduceEqDiff, o_call, hl, hd, e2, ix, c0, g0, g2, m5, n2, e]
      exact ih (i + 1) H' _ F _ _ _ _ _ _ _ _ _ _ _ _ _ _ _ _ _ _ _ _ _ _ _ _ _ _ _ _ _ _ _ (l'.step m' s) q2 (by omega)
    · have n2 : (s0 == 2) = false := by simp [k2]
      obtain ⟨H', F', m', s, e⟩ := rinWrite l.m 0 at5 (fz_ok w3) (by omega)
      obtain ⟨q1, q2⟩ := I.write0 hat (fz s3)
      rw [q1] at e
      rw [lo]
      unfold l6x1
      simp -implicitDefEqProofs (maxSteps := 5000000) only [go_sem, Nat.reduceShiftRight, Nat.reduceAnd, Nat.reduceBNe, Int.reduceEq, Nat.reduceAdd, Nat.reduceSub, Nat.reduceMul, Nat.reduceLeDiff, reduceIte, reduceCtorEq, Nat.reduceBEq, Nat.reduceEqDiff, o_call, hl, hd, e2, ix, c0, g0, g2, g3, m5, n2, fu, e, z0]
      exact ih (i + 1) H' _ F' _ _ _ _ _ _ _ _ _ _ _ _ _ _ _ _ _ _ _ _ _ _ _ _ _ _ _ _ _ _ _ (l.step m' s) q2 (by omega)
set_option maxHeartbeats 8000000 in
theorem apartL2 {h0 : AHeap} {p c : Nat} {r : RgS} {F : Nat → Prop} (I : ApI r (apB 5)) (x0 x1 x4 x5 x6 x7 x11 x12 x13 x14 x15 x16 x17 x18 x19 x20 x21 x22 x23 x24 x25 x26 x27 x28 x29 x30 x31 x32 x33 x34 x35 x36 x37 x38 x39 x40 x41 x42 x43 x44 x45 x46 x47 x48 x49 x50 x51 x52 x53 x54 x55 x56 x57 x58 x59 x60 x61 x62 x63 x64 x65 x66 x67 x68 x69 x70 x71 x72 x73 x74 x75 x76 x77 x78 x79 x80 x101 x102 x103 x104 x105 x106 x107 x108 x109 x110 x111 x112 x113 x114 x115 x116 x117 x118 x119 x120 x121 x122 x123 x124 x125 x126 x127 x128 x129 x130 x131 x132 x133 : AV) : ∀ (k i : Nat) (H : AHeap) (j9 j10 j81 j82 j83 j84 j85 j86 j87 j88 j89 j90 j91 j92 j93 j94 j95 j96 j97 j98 j99 j100 : AV), LI h0 H p c r F → i + k = 5 →
    Outs (LP l6x2 [x0, x1, .bool false, .ptr p 0, x4, x5, x6, x7, .int .i64 (i : Int), j9, j10, x11, x12, x13, x14, x15, x16, x17, x18, x19, x20, x21, x22, x23, x24, x25, x26, x27, x28, x29, x30, x31, x32, x33, x34, x35, x36, x37, x38, x39, x40, x41, x42, x43, x44, x45, x46, x47, x48, x49, x50, x51, x52, x53, x54, x55, x56, x57, x58, x59, x60, x61, x62, x63, x64, x65, x66, x67, x68, x69, x70, x71, x72, x73, x74, x75, x76, x77, x78, x79, x80, j81, j82, j83, j84, j85, j86, j87, j88, j89, j90, j91, j92, j93, j94, j95, j96, j97, j98, j99, j100, x101, x102, x103, x104, x105, x106, x107, x108, x109, x110, x111, x112, x113, x114, x115, x116, x117, x118, x119, x120, x121, x122, x123, x124, x125, x126, x127, x128, x129, x130, x131, x132, x133] H) fun e t H' => e = .exit 4 ∧ LI h0 H' p c r F ∧ ∃ k : Nat → AV, t = [x0, x1, .bool false, .ptr p 0, x4, x5, x6, x7, (k 8), (k 9), (k 10), x11, x12, x13, x14, x15, x16, x17, x18, x19, x20, x21, x22, x23, x24, x25, x26, x27, x28, x29, x30, x31, x32, x33, x34, x35, x36, x37, x38, x39, x40, x41, x42, x43, x44, x45, x46, x47, x48, x49, x50, x51, x52, x53, x54, x55, x56, x57, x58, x59, x60, x61, x62, x63, x64, x65, x66, x67, x68, x69, x70, x71, x72, x73, x74, x75, x76, x77, x78, x79, x80, (k 81), (k 82), (k 83), (k 84), (k 85), (k 86), (k 87), (k 88), (k 89), (k 90), (k 91), (k 92), (k 93), (k 94), (k 95), (k 96), (k 97), (k 98), (k 99), (k 100), x101, x102, x103, x104, x105, x106, x107, x108, x109, x110, x111, x112, x113, x114, x115, x116, x117, x118, x119, x120, x121, x122, x123, x124, x125, x126, x127, x128, x129, x130, x131, x132, x133] := by
  intro k
  obtain ⟨L, hL⟩ : ∃ L, L = LP l6x2 := ⟨_, rfl⟩
  have lo := loop_open hL
  rw [← hL]
  induction k with
  | zero =>
    intro i H j9 j10 j81 j82 j83 j84 j85 j86 j87 j88 j89 j90 j91 j92 j93 j94 j95 j96 j97 j98 j99 j100 l hi
    obtain rfl : i = 5 := by omega
    have hd : decide (((5 : Nat) : Int) < 5) = false := rfl
    rw [lo]
    unfold l6x2
    simp -implicitDefEqProofs (maxSteps := 5000000) only [go_sem, Nat.reduceShiftRight, Nat.reduceAnd, Nat.reduceBNe, Int.reduceEq, Nat.reduceAdd, Nat.reduceSub, Nat.reduceMul, Nat.reduceLeDiff, reduceIte, reduceCtorEq, Nat.reduceBEq, Nat.reduceEqDiff, hd, seqR_exit', outs_normal]
    exact ⟨l, exF rfl⟩
  | succ k ih =>
    intro i H j9 j10 j81 j82 j83 j84 j85 j86 j87 j88 j89 j90 j91 j92 j93 j94 j95 j96 j97 j98 j99 j100 l hi
    have hd : decide ((i : Int) < 5) = true := decide_eq_true (by omega)
    have e2 : IntKind.i64.wrap ((i : Int) + 1) = ((i + 1 : Nat) : Int) := by rw [wrap64 (by omega) (by omega)]; omega
    obtain ⟨v1, v2, v3⟩ := ap_wrap (show i < 5 by omega)
    have e := rinRead l.m 1 (i : Int)
    rw [I.read1 (by omega)] at e
    have w64 : (u8s (fz (50 + (i : Int)))).length = 64 := by rw [u8s_len]; exact v3.1
    have uc := u8s_cell (fz (50 + (i : Int)))
    have sp := splice_u8 (.int .u8 0) v3.1 (by omega)
    have tk := u8s_take v3.1
    have ns := ne_same v3.1
    have fu := fun B => fillU (50 + (i : Int)) (H ++ B)
    have z0 : ((0 : Int) != 0) = false := rfl
    rw [lo]
    unfold l6x2
    simp -implicitDefEqProofs (maxSteps := 5000000) only [go_sem, Nat.reduceShiftRight, Nat.reduceAnd, Nat.reduceBNe, Int.reduceEq, Nat.reduceAdd, Nat.reduceSub, Nat.reduceMul, Nat.reduceLeDiff, reduceIte, reduceCtorEq, Nat.reduceBEq, Nat.reduceEqDiff, wrap64, runC_loop, runC_range, callF_fn, callV_fn, callV_yld, yield_eq, yieldBody, yieldRaw, roundMid, roundEnd, rangeEnd, Bool.not_not, put_cons, put_nil, trim_same, at_zero, at_add, set_zero, set_add, store_one, write_zero, write_add, write_head, write_succ, splice_one, splice_more, List.drop_nil, List.take_nil, cell_int, cell_bool, fillS, splice_one, idxA, Ex.isNormal, List.set_nil, List.length_set, List.all_cons, List.all_nil, Bool.and_self, and_self, true_and, and_true, List.getElem?_nil, Int.reduceLT, Int.reduceLE, Int.reduceToNat, Int.toNat_zero, Int.toNat_one, Int.reduceAdd, Int.reduceSub, Int.reduceMul, Int.reduceNeg, Int.reduceBEq, Int.reduceBNe, Int.reduceGE, Int.reduceGT, Nat.reduceLT, trim_keep, under_fn, under_ptr, under_sl, Nat.lt_irrefl, not_lt_add, trim_tail, keepOk, ABlk.vals, Int.cast_ofNat_Int, decide_true, decide_false, List.all_cons, List.all_nil, Nat.zero_mul, Nat.mul_one, Nat.one_mul, o_call, hd, e2, v1, v2, e, fu, store_one, write_zero, w64, uc, sp, tk, ns, z0, rep_len]
    exact ih (i + 1) _ _ _ _ _ _ _ _ _ _ _ _ _ _ _ _ _ _ _ _ _ _ _ (l.adds _) (by omega)
set_option maxHeartbeats 8000000 in
theorem apartL3 {h0 : AHeap} {p c : Nat} {r : RgS} {F : Nat → Prop} (hr : ∀ i : Nat, i < 5 → r.read 1 (i : Int) = (apW i, 0)) (x0 x1 x4 x5 x6 x7 x8 x9 x10 x15 x16 x17 x18 x19 x20 x21 x22 x23 x24 x25 x26 x27 x28 x29 x30 x31 x32 x33 x34 x35 x36 x37 x38 x39 x40 x41 x42 x43 x44 x45 x46 x47 x48 x49 x50 x51 x52 x53 x54 x55 x56 x57 x58 x59 x60 x61 x62 x63 x64 x65 x66 x67 x68 x69 x70 x71 x72 x73 x74 x75 x76 x77 x78 x79 x80 x81 x82 x83 x84 x85 x86 x87 x88 x89 x90 x91 x92 x93 x94 x95 x96 x97 x98 x99 x100 x101 x102 x103 x104 x133 : AV) : ∀ (k i : Nat) (H : AHeap) (j12 j13 j14 j105 j106 j107 j108 j109 j110 j111 j112 j113 j114 j115 j116 j117 j118 j119 j120 j121 j122 j123 j124 j125 j126 j127 j128 j129 j130 j131 j132 : AV), LI h0 H p c r F → i + k = 5 →
    Outs (LP l6x3 [x0, x1, .bool false, .ptr p 0, x4, x5, x6, x7, x8, x9, x10, .int .i64 (i : Int), j12, j13, j14, x15, x16, x17, x18, x19, x20, x21, x22, x23, x24, x25, x26, x27, x28, x29, x30, x31, x32, x33, x34, x35, x36, x37, x38, x39, x40, x41, x42, x43, x44, x45, x46, x47, x48, x49, x50, x51, x52, x53, x54, x55, x56, x57, x58, x59, x60, x61, x62, x63, x64, x65, x66, x67, x68, x69, x70, x71, x72, x73, x74, x75, x76, x77, x78, x79, x80, x81, x82, x83, x84, x85, x86, x87, x88, x89, x90, x91, x92, x93, x94, x95, x96, x97, x98, x99, x100, x101, x102, x103, x104, j105, j106, j107, j108, j109, j110, j111, j112, j113, j114, j115, j116, j117, j118, j119, j120, j121, j122, j123, j124, j125, j126, j127, j128, j129, j130, j131, j132, x133] H) fun e t H' => e = .exit 6 ∧ ∃ k : Nat → AV, t = [x0, x1, .bool false, .ptr p 0, x4, x5, x6, x7, x8, x9, x10, (k 11), (k 12), (k 13), (k 14), x15, x16, x17, x18, x19, x20, x21, x22, x23, x24, x25, x26, x27, x28, x29, x30, x31, x32, x33, x34, x35, x36, x37, x38, x39, x40, x41, x42, x43, x44, x45, x46, x47, x48, x49, x50, x51, x52, x53, x54, x55, x56, x57, x58, x59, x60, x61, x62, x63, x64, x65, x66, x67, x68, x69, x70, x71, x72, x73, x74, x75, x76, x77, x78, x79, x80, x81, x82, x83, x84, x85, x86, x87, x88, x89, x90, x91, x92, x93, x94, x95, x96, x97, x98, x99, x100, x101, x102, x103, x104, (k 105), (k 106), (k 107), (k 108), (k 109), (k 110), (k 111), (k 112), (k 113), (k 114), (k 115), (k 116), (k 117), (k 118), (k 119), (k 120), (k 121), (k 122), (k 123), (k 124), (k 125), (k 126), (k 127), (k 128), (k 129), (k 130), (k 131), (k 132), x133] := by
  intro k
  obtain ⟨L, hL⟩ : ∃ L, L = LP l6x3 := ⟨_, rfl⟩
  have lo := loop_open hL
  rw [← hL]
  induction k with
  | zero =>
    intro i H j12 j13 j14 j105 j106 j107 j108 j109 j110 j111 j112 j113 j114 j115 j116 j117 j118 j119 j120 j121 j122 j123 j124 j125 j126 j127 j128 j129 j130 j131 j132 l hi
    obtain rfl : i = 5 := by omega
    have hd : decide (((5 : Nat) : Int) < 5) = false := rfl
    rw [lo]
    unfold l6x3
    simp -implicitDefEqProofs (maxSteps := 5000000) only [go_sem, Nat.reduceShiftRight, Nat.reduceAnd, Nat.reduceBNe, Int.reduceEq, Nat.reduceAdd, Nat.reduceSub, Nat.reduceMul, Nat.reduceLeDiff, reduceIte, reduceCtorEq, Nat.reduceBEq, Nat.reduceEqDiff, hd, seqR_exit', outs_normal]
    exact exF rfl
  | succ k ih =>
    intro i H j12 j13 j14 j105 j106 j107 j108 j109 j110 j111 j112 j113 j114 j115 j116 j117 j118 j119 j120 j121 j122 j123 j124 j125 j126 j127 j128 j129 j130 j131 j132 l hi
    have hd : decide ((i : Int) < 5) = true := decide_eq_true (by omega)
    have e2 : IntKind.i64.wrap ((i : Int) + 1) = ((i + 1 : Nat) : Int) := by rw [wrap64 (by omega) (by omega)]; omega
    obtain ⟨v1, v2, v3⟩ := ap_wrap (show i < 5 by omega)
    have hr := hr i (by omega)
    have w64 : (u8s (fz (50 + (i : Int)))).length = 64 := by rw [u8s_len]; exact v3.1
    have uc := u8s_cell (fz (50 + (i : Int)))
    have sp := splice_u8 (.int .u8 0) v3.1 (by omega)
    have tk := u8s_take v3.1
    have ns := ne_same v3.1
    have z1 := rep_cell 64 (.int .u8 0) rfl
    have z2 := splice_rep (rep 64 (.int .u8 0)) 64 (.int .u8 0) (by omega) (rep_len _ _)
    have nz := ne_rep 64 .u8 0
    have z0 : ((0 : Int) != 0) = false := rfl
    have fu := fun B => fillU (50 + (i : Int)) (H ++ B)
    by_cases hw : i = 0 ∨ i = 2
    · have ha : apW i = fz (50 + (i : Int)) := if_pos hw
      rw [ha] at hr
      have e := rinRead (l.adds [.rw (u8s (fz (50 + (i : Int))))]).m 1 (i : Int)
      rw [hr] at e
      have b0 : ((i : Int) == 0 || (i : Int) == 2) = true := by rcases hw with rfl | rfl <;> rfl
      obtain ⟨x0, hx0⟩ : ∃ x, ((i : Int) == 0) = x := ⟨_, rfl⟩
      rw [lo]
      unfold l6x3
      cases x0 with
      | true =>
        simp -implicitDefEqProofs (maxSteps := 5000000) only [go_sem, Nat.reduceShiftRight, Nat.reduceAnd, Nat.reduceBNe, Int.reduceEq, Nat.reduceAdd, Nat.reduceSub, Nat.reduceMul, Nat.reduceLeDiff, reduceIte, reduceCtorEq, Nat.reduceBEq, Nat.reduceEqDiff, wrap64, runC_loop, runC_range, callF_fn, callV_fn, callV_yld, yield_eq, yieldBody, yieldRaw, roundMid, roundEnd, rangeEnd, Bool.not_not, put_cons, put_nil, trim_same, at_zero, at_add, set_zero, set_add, store_one, write_zero, write_add, write_head, write_succ, splice_one, splice_more, List.drop_nil, List.take_nil, cell_int, cell_bool, fillS, splice_one, idxA, Ex.isNormal, List.set_nil, List.length_set, List.all_cons, List.all_nil, Bool.and_self, and_self, true_and, and_true, List.getElem?_nil, Int.reduceLT, Int.reduceLE, Int.reduceToNat, Int.toNat_zero, Int.toNat_one, Int.reduceAdd, Int.reduceSub, Int.reduceMul, Int.reduceNeg, Int.reduceBEq, Int.reduceBNe, Int.reduceGE, Int.reduceGT, Nat.reduceLT, trim_keep, under_fn, under_ptr, under_sl, Nat.lt_irrefl, not_lt_add, trim_tail, keepOk, ABlk.vals, Int.cast_ofNat_Int, decide_true, decide_false, List.all_cons, List.all_nil, Nat.zero_mul, Nat.mul_one, Nat.one_mul, o_call, hd, e2, v1, v2, hx0, e, fu, store_one, write_zero, w64, uc, sp, tk, ns, z0, z1, z2, rep_len]
        exact ih (i + 1) _ _ _ _ _ _ _ _ _ _ _ _ _ _ _ _ _ _ _ _ _ _ _ _ _ _ _ _ _ _ _ _ (l.adds _) (by omega)
      | false =>
        have hx2 : ((i : Int) == 2) = true := by rw [hx0] at b0; simpa using b0
        simp -implicitDefEqProofs (maxSteps := 5000000) only [go_sem, Nat.reduceShiftRight, Nat.reduceAnd, Nat.reduceBNe, Int.reduceEq, Nat.reduceAdd, Nat.reduceSub, Nat.reduceMul, Nat.reduceLeDiff, reduceIte, reduceCtorEq, Nat.reduceBEq, Nat.reduceEqDiff, wrap64, runC_loop, runC_range, callF_fn, callV_fn, callV_yld, yield_eq, yieldBody, yieldRaw, roundMid, roundEnd, rangeEnd, Bool.not_not, put_cons, put_nil, trim_same, at_zero, at_add, set_zero, set_add, store_one, write_zero, write_add, write_head, write_succ, splice_one, splice_more, List.drop_nil, List.take_nil, cell_int, cell_bool, fillS, splice_one, idxA, Ex.isNormal, List.set_nil, List.length_set, List.all_cons, List.all_nil, Bool.and_self, and_self, true_and, and_true, List.getElem?_nil, Int.reduceLT, Int.reduceLE, Int.reduceToNat, Int.toNat_zero, Int.toNat_one, Int.reduceAdd, Int.reduceSub, Int.reduceMul, Int.reduceNeg, Int.reduceBEq, Int.reduceBNe, Int.reduceGE, Int.reduceGT, Nat.reduceLT, trim_keep, under_fn, under_ptr, under_sl, Nat.lt_irrefl, not_lt_add, trim_tail, keepOk, ABlk.vals, Int.cast_ofNat_Int, decide_true, decide_false, List.all_cons, List.all_nil, Nat.zero_mul, Nat.mul_one, Nat.one_mul, o_call, hd, e2, v1, v2, hx0, hx2, e, fu, store_one, write_zero, w64, uc, sp, tk, ns, z0, z1, z2, rep_len]
        exact ih (i + 1) _ _ _ _ _ _ _ _ _ _ _ _ _ _ _ _ _ _ _ _ _ _ _ _ _ _ _ _ _ _ _ _ (l.adds _) (by omega)
    · have ha : apW i = zeros64 := if_neg hw
      have hz : u8s zeros64 = rep 64 (.int .u8 0) := (rep_u8s 64 0).symm
      rw [ha] at hr
      have e := rinRead (l.adds [.rw (rep 64 (.int .u8 0))]).m 1 (i : Int)
      rw [hr] at e
      simp only [hz] at e
      have hx0 : ((i : Int) == 0) = false := by simp; omega
      have hx2 : ((i : Int) == 2) = false := by simp; omega
      rw [lo]
      unfold l6x3
      simp -implicitDefEqProofs (maxSteps := 5000000) only [go_sem, Nat.reduceShiftRight, Nat.reduceAnd, Nat.reduceBNe, Int.reduceEq, Nat.reduceAdd, Nat.reduceSub, Nat.reduceMul, Nat.reduceLeDiff, reduceIte, reduceCtorEq, Nat.reduceBEq, Nat.reduceEqDiff, wrap64, runC_loop, runC_range, callF_fn, callV_fn, callV_yld, yield_eq, yieldBody, yieldRaw, roundMid, roundEnd, rangeEnd, Bool.not_not, put_cons, put_nil, trim_same, at_zero, at_add, set_zero, set_add, store_one, write_zero, write_add, write_head, write_succ, splice_one, splice_more, List.drop_nil, List.take_nil, cell_int, cell_bool, fillS, splice_one, idxA, Ex.isNormal, List.set_nil, List.length_set, List.all_cons, List.all_nil, Bool.and_self, and_self, true_and, and_true, List.getElem?_nil, Int.reduceLT, Int.reduceLE, Int.reduceToNat, Int.toNat_zero, Int.toNat_one, Int.reduceAdd, Int.reduceSub, Int.reduceMul, Int.reduceNeg, Int.reduceBEq, Int.reduceBNe, Int.reduceGE, Int.reduceGT, Nat.reduceLT, trim_keep, under_fn, under_ptr, under_sl, Nat.lt_irrefl, not_lt_add, trim_tail, keepOk, ABlk.vals, Int.cast_ofNat_Int, decide_true, decide_false, List.all_cons, List.all_nil, Nat.zero_mul, Nat.mul_one, Nat.one_mul, o_call, hd, e2, hx0, hx2, e, store_one, write_zero, nz, z0, z1, z2, rep_len]
      exact ih (i + 1) _ _ _ _ _ _ _ _ _ _ _ _ _ _ _ _ _ _ _ _ _ _ _ _ _ _ _ _ _ _ _ _ (l.adds _) (by omega)
end Go.Proofs.Ythjkfincekckhaa.G04

