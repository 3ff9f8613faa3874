/- What the functions that WaysPlays reaches answer, for every argument. No condition but those in each statement. -/
import Derived.Test.YtodoakeifdiidaaW8
set_option linter.unusedSimpArgs false
set_option linter.unusedVariables false
set_option maxRecDepth 10000
namespace Go.Proofs.Ytodoakeifdiidaa.G13
open Go Go.Proofs.Ytodoakeifdiidaa.Eng
noncomputable abbrev LP (l : Env → CT) := (envL prog).loop (runC (envO prog (knows 9)) (l (envO prog (knows 9))))
theorem exF {t : T} {F : (Nat → AV) → T} (h : F (getT t) = t) : ∃ k, t = F k := ⟨_, h.symm⟩
/-- A step's cells. -/
def stepKs : List (Option IntKind) := [some .i64, some .i64, some .i64, none]
theorem step_row {r : List AV} (h : RowOk stepKs r) : ∃ a b c d, r = [.int .i64 a, .int .i64 b, .int .i64 c, .bool d] ∧ IntKind.i64.has a ∧ IntKind.i64.has b ∧ IntKind.i64.has c := by
  obtain ⟨hl, hk⟩ := h
  match r, hl with
  | [x0, x1, x2, x3], _ =>
    obtain ⟨a, rfl, ha⟩ := hk 0 _ _ rfl rfl
    obtain ⟨b, rfl, hb⟩ := hk 1 _ _ rfl rfl
    obtain ⟨c, rfl, hc⟩ := hk 2 _ _ rfl rfl
    obtain ⟨d, rfl⟩ := hk 3 _ _ rfl rfl
    exact ⟨a, b, c, d, rfl, ha, hb, hc⟩

/-- Two maps in a heap, apart from each other and from what was there at first. -/
structure Two (h0 H : AHeap) (ways pa sa xa pb sb xb : Nat) (Sa Sb : List Slot) (ha hb : List Nat) : Prop where
  a : PM H pa sa xa true 2 ways Sa ha
  b : PM H pb sb xb true 2 ways Sb hb
  old : Adds h0 H
  r : Rel0 ways Sa Sb ha hb
theorem Two.la {h0 H : AHeap} {ways pa sa xa pb sb xb : Nat} {Sa Sb : List Slot} {ha hb : List Nat} (t : Two h0 H ways pa sa xa pb sb xb Sa Sb ha hb) : Sa.length = 2 * ways ∧ Sb.length = 2 * ways ∧ ha.length = 2 ∧ hb.length = 2 ∧ 1 ≤ ways ∧ ways ≤ 4 := ⟨t.a.len, t.b.len, t.a.hlen, t.b.hlen, t.a.w1, t.a.w4⟩
/-- The blocks' places. -/
structure Apart (h0 : AHeap) (pa sa xa pb sb xb : Nat) : Prop where
  p : h0.length ≤ pa ∧ h0.length ≤ sa ∧ h0.length ≤ xa ∧ h0.length ≤ pb ∧ h0.length ≤ sb ∧ h0.length ≤ xb
  q : pa ≠ sb ∧ pa ≠ xb ∧ sa ≠ sb ∧ sa ≠ xb ∧ xa ≠ sb ∧ xa ≠ xb ∧ pb ≠ sa ∧ pb ≠ xa
theorem Two.callA {h0 H H' : AHeap} {ways pa sa xa pb sb xb : Nat} {Sa Sb Sa' : List Slot} {ha hb ha' : List Nat} (t : Two h0 H ways pa sa xa pb sb xb Sa Sb ha hb) (ap : Apart h0 pa sa xa pb sb xb) (m : PM H' pa sa xa true 2 ways Sa' ha') (k : KeepB H H' [sa, xa]) : PM H' pb sb xb true 2 ways Sb hb ∧ Adds h0 H' := by
  obtain ⟨p1, p2, p3, p4, p5, p6⟩ := ap.p
  obtain ⟨q1, q2, q3, q4, q5, q6, q7, q8⟩ := ap.q
  exact ⟨t.b.keep k (by simp; omega) (by simp; omega) (by simp; omega), t.old.keep k (by intro b hb; simp at hb; omega)⟩
theorem keepB {h0 H H' : AHeap} {ways pa sa xa pb sb xb : Nat} {Sa : List Slot} {ha : List Nat} (a : PM H pa sa xa true 2 ways Sa ha) (old : Adds h0 H) (ap : Apart h0 pa sa xa pb sb xb) (k : KeepB H H' [sb, xb]) : PM H' pa sa xa true 2 ways Sa ha ∧ Adds h0 H' := by
  obtain ⟨p1, p2, p3, p4, p5, p6⟩ := ap.p
  obtain ⟨q1, q2, q3, q4, q5, q6, q7, q8⟩ := ap.q
  exact ⟨a.keep k (by simp; omega) (by simp; omega) (by simp; omega), old.keep k (by intro b hb; simp at hb; omega)⟩
theorem keepA {h0 H H' : AHeap} {ways pa sa xa pb sb xb : Nat} {Sb : List Slot} {hb : List Nat} (b : PM H pb sb xb true 2 ways Sb hb) (old : Adds h0 H) (ap : Apart h0 pa sa xa pb sb xb) (k : KeepB H H' [sa, xa]) : PM H' pb sb xb true 2 ways Sb hb ∧ Adds h0 H' := by
  obtain ⟨p1, p2, p3, p4, p5, p6⟩ := ap.p
  obtain ⟨q1, q2, q3, q4, q5, q6, q7, q8⟩ := ap.q
  exact ⟨b.keep k (by simp; omega) (by simp; omega) (by simp; omega), old.keep k (by intro b hb; simp at hb; omega)⟩

set_option maxHeartbeats 8000000 in
theorem setsL {h0 : AHeap} {ways pa sa xa pb sb xb : Nat} (ap : Apart h0 pa sa xa pb sb xb) {vl : AV} {rows : List (List AV)} (hn : rows.length ≤ 1000) (rs : RS 4 h0 vl rows) (rk : ∀ r ∈ rows, RowOk stepKs r) (x1 x2 x3 x5 x7 x9 x18 x19 x20 x21 x22 x23 x24 x25 x26 x27 x28 x29 x30 x31 x32 x33 x34 x35 x36 x37 x38 x39 x40 x41 x42 x43 x44 x45 x46 x47 x48 x49 x50 x51 x52 x53 x54 x55 x56 x57 x157 x158 x159 x160 x161 x162 x163 x164 x165 x166 x167 x168 x169 x170 x171 x172 x173 x174 x175 x176 x177 x178 x179 x180 x181 x182 x183 x184 x185 x186 x187 x188 x189 : AV) : ∀ (k i : Nat) (H : AHeap) (Sa Sb : List Slot) (ha hb : List Nat) (j11 j12 j13 j14 j15 j16 j17 j58 j59 j60 j61 j62 j63 j64 j65 j66 j67 j68 j69 j70 j71 j72 j73 j74 j75 j76 j77 j78 j79 j80 j81 j82 j83 j84 j85 j86 j87 j88 j89 j90 j91 j92 j93 j94 j95 j96 j97 j98 j99 j100 j101 j102 j103 j104 j105 j106 j107 j108 j109 j110 j111 j112 j113 j114 j115 j116 j117 j118 j119 j120 j121 j122 j123 j124 j125 j126 j127 j128 j129 j130 j131 j132 j133 j134 j135 j136 j137 j138 j139 j140 j141 j142 j143 j144 j145 j146 j147 j148 j149 j150 j151 j152 j153 j154 j155 j156 : AV), Two h0 H ways pa sa xa pb sb xb Sa Sb ha hb → i + k = rows.length →
    Outs (LP l5x0 [vl, x1, x2, x3, .bool false, x5, .ptr pa 0, x7, .ptr pb 0, x9, .int .i64 (i : Int), j11, j12, j13, j14, j15, j16, j17, x18, x19, x20, x21, x22, x23, x24, x25, x26, x27, x28, x29, x30, x31, x32, x33, x34, x35, x36, x37, x38, x39, x40, x41, x42, x43, x44, x45, x46, x47, x48, x49, x50, x51, x52, x53, x54, x55, x56, x57, j58, j59, j60, j61, j62, j63, j64, j65, j66, j67, j68, j69, j70, j71, j72, j73, j74, j75, j76, j77, j78, j79, j80, j81, j82, j83, j84, j85, j86, j87, j88, j89, j90, j91, j92, j93, j94, j95, j96, j97, j98, j99, j100, j101, j102, j103, j104, j105, j106, j107, j108, j109, j110, j111, j112, j113, j114, j115, j116, j117, j118, j119, j120, j121, j122, j123, j124, j125, j126, j127, j128, j129, j130, j131, j132, j133, j134, j135, j136, j137, j138, j139, j140, j141, j142, j143, j144, j145, j146, j147, j148, j149, j150, j151, j152, j153, j154, j155, j156, x157, x158, x159, x160, x161, x162, x163, x164, x165, x166, x167, x168, x169, x170, x171, x172, x173, x174, x175, x176, x177, x178, x179, x180, x181, x182, x183, x184, x185, x186, x187, x188, x189] H) fun e t H' => e = .exit 0 ∧ ∃ Sa Sb ha hb, Two h0 H' ways pa sa xa pb sb xb Sa Sb ha hb ∧ ∃ k : Nat → AV, t = [vl, x1, x2, x3, .bool false, x5, .ptr pa 0, x7, .ptr pb 0, x9, (k 10), (k 11), (k 12), (k 13), (k 14), (k 15), (k 16), (k 17), x18, x19, x20, x21, x22, x23, x24, x25, x26, x27, x28, x29, x30, x31, x32, x33, x34, x35, x36, x37, x38, x39, x40, x41, x42, x43, x44, x45, x46, x47, x48, x49, x50, x51, x52, x53, x54, x55, x56, x57, (k 58), (k 59), (k 60), (k 61), (k 62), (k 63), (k 64), (k 65), (k 66), (k 67), (k 68), (k 69), (k 70), (k 71), (k 72), (k 73), (k 74), (k 75), (k 76), (k 77), (k 78), (k 79), (k 80), (k 81), (k 82), (k 83), (k 84), (k 85), (k 86), (k 87), (k 88), (k 89), (k 90), (k 91), (k 92), (k 93), (k 94), (k 95), (k 96), (k 97), (k 98), (k 99), (k 100), (k 101), (k 102), (k 103), (k 104), (k 105), (k 106), (k 107), (k 108), (k 109), (k 110), (k 111), (k 112), (k 113), (k 114), (k 115), (k 116), (k 117), (k 118), (k 119), (k 120), (k 121), (k 122), (k 123), (k 124), (k 125), (k 126), (k 127), (k 128), (k 129), (k 130), (k 131), (k 132), (k 133), (k 134), (k 135), (k 136), (k 137), (k 138), (k 139), (k 140), (k 141), (k 142), (k 143), (k 144), (k 145), (k 146), (k 147), (k 148), (k 149), (k 150), (k 151), (k 152), (k 153), (k 154), (k 155), (k 156), x157, x158, x159, x160, x161, x162, x163, x164, x165, x166, x167, x168, x169, x170, x171, x172, x173, x174, x175, x176, x177, x178, x179, x180, x181, x182, x183, x184, x185, x186, x187, x188, x189] := by
  intro k
  obtain ⟨L, hL⟩ : ∃ L, L = LP l5x0 := ⟨_, rfl⟩
  have lo := loop_open hL
  rw [← hL]
  induction k with
  | zero =>
    intro i H Sa Sb ha hb j11 j12 j13 j14 j15 j16 j17 j58 j59 j60 j61 j62 j63 j64 j65 j66 j67 j68 j69 j70 j71 j72 j73 j74 j75 j76 j77 j78 j79 j80 j81 j82 j83 j84 j85 j86 j87 j88 j89 j90 j91 j92 j93 j94 j95 j96 j97 j98 j99 j100 j101 j102 j103 j104 j105 j106 j107 j108 j109 j110 j111 j112 j113 j114 j115 j116 j117 j118 j119 j120 j121 j122 j123 j124 j125 j126 j127 j128 j129 j130 j131 j132 j133 j134 j135 j136 j137 j138 j139 j140 j141 j142 j143 j144 j145 j146 j147 j148 j149 j150 j151 j152 j153 j154 j155 j156 tw hi
    obtain rfl : i = rows.length := by omega
    have hl := rs.len
    have hd : decide ((rows.length : Int) < (rows.length : Int)) = false := by simp
    rw [lo]
    unfold l5x0
    simp -implicitDefEqProofs (maxSteps := 5000000) only [go_sem, Nat.reduceShiftRight, Nat.reduceAnd, Nat.reduceBNe, Int.reduceEq, Nat.reduceAdd, Nat.reduceSub, Nat.reduceMul, Nat.reduceLeDiff, reduceIte, reduceCtorEq, Nat.reduceBEq, Nat.reduceEqDiff, go_sem, hl, hd, seqR_exit', outs_normal]
    exact ⟨Sa, Sb, ha, hb, tw, exF rfl⟩
  | succ k ih =>
    intro i H Sa Sb ha hb j11 j12 j13 j14 j15 j16 j17 j58 j59 j60 j61 j62 j63 j64 j65 j66 j67 j68 j69 j70 j71 j72 j73 j74 j75 j76 j77 j78 j79 j80 j81 j82 j83 j84 j85 j86 j87 j88 j89 j90 j91 j92 j93 j94 j95 j96 j97 j98 j99 j100 j101 j102 j103 j104 j105 j106 j107 j108 j109 j110 j111 j112 j113 j114 j115 j116 j117 j118 j119 j120 j121 j122 j123 j124 j125 j126 j127 j128 j129 j130 j131 j132 j133 j134 j135 j136 j137 j138 j139 j140 j141 j142 j143 j144 j145 j146 j147 j148 j149 j150 j151 j152 j153 j154 j155 j156 tw hi
    have hl := rs.len
    have hd : decide ((i : Int) < (rows.length : Int)) = true := decide_eq_true (by omega)
    have e2 : IntKind.i64.wrap ((i : Int) + 1) = ((i + 1 : Nat) : Int) := by rw [wrap64 (by omega) (by omega)]; omega
    have ih := fun H Sa Sb ha hb j11 j12 j13 j14 j15 j16 j17 j58 j59 j60 j61 j62 j63 j64 j65 j66 j67 j68 j69 j70 j71 j72 j73 j74 j75 j76 j77 j78 j79 j80 j81 j82 j83 j84 j85 j86 j87 j88 j89 j90 j91 j92 j93 j94 j95 j96 j97 j98 j99 j100 j101 j102 j103 j104 j105 j106 j107 j108 j109 j110 j111 j112 j113 j114 j115 j116 j117 j118 j119 j120 j121 j122 j123 j124 j125 j126 j127 j128 j129 j130 j131 j132 j133 j134 j135 j136 j137 j138 j139 j140 j141 j142 j143 j144 j145 j146 j147 j148 j149 j150 j151 j152 j153 j154 j155 j156 tw => ih (i + 1) H Sa Sb ha hb j11 j12 j13 j14 j15 j16 j17 j58 j59 j60 j61 j62 j63 j64 j65 j66 j67 j68 j69 j70 j71 j72 j73 j74 j75 j76 j77 j78 j79 j80 j81 j82 j83 j84 j85 j86 j87 j88 j89 j90 j91 j92 j93 j94 j95 j96 j97 j98 j99 j100 j101 j102 j103 j104 j105 j106 j107 j108 j109 j110 j111 j112 j113 j114 j115 j116 j117 j118 j119 j120 j121 j122 j123 j124 j125 j126 j127 j128 j129 j130 j131 j132 j133 j134 j135 j136 j137 j138 j139 j140 j141 j142 j143 j144 j145 j146 j147 j148 j149 j150 j151 j152 j153 j154 j155 j156 tw (by omega)
    obtain ⟨r, hr⟩ : ∃ r, rows[i]? = some r := ⟨_, List.getElem?_eq_getElem (by omega)⟩
    obtain ⟨s0, s1, s2, s3, rfl, w0, w1, w2⟩ := step_row (rk r (List.mem_of_getElem? hr))
    obtain ⟨b, cs, ix, hc0, hg, _, _, _⟩ := rs.idx (by omega) hr .i64
    have g1 : cs[i * 4 + 1]? = some (.int .i64 s1) := hg 1 (by omega)
    have g3 : cs[i * 4 + 3]? = some (.bool s3) := hg 3 (by omega)
    obtain ⟨la, lb, na, nb, ww1, ww4⟩ := tw.la
    have hx0 := Int.emod_nonneg s1 (show (16 : Int) ≠ 0 by omega)
    have hx1 := Int.emod_lt_of_pos s1 (show (0 : Int) < 16 by omega)
    have md := modC s1 16 (.inr w1) (by omega) (by omega) H
    generalize s1 % 16 = x at *
    have hrem : x.tmod 2 = x % 2 := Int.tmod_eq_emod_of_nonneg hx0
    have r2 := int_rem .none .i64 x 2 (by omega)
    rw [hrem] at r2
    have c0 := tw.old.cells hc0
    obtain ⟨H1, m1, k1, e1⟩ := roomC tw.a x
    obtain ⟨b1, o1⟩ := keepA tw.b tw.old ap k1
    by_cases hev : x % 2 = 0
    · have dv : (x % 2 == 0) = true := by simp [hev]
      obtain ⟨H2, m2, k2, f1⟩ := roomC b1 x
      obtain ⟨a2, o2⟩ := keepB m1 o1 ap k2
      obtain ⟨q1, q2, q3⟩ := room0 ww1 la lb na nb tw.a.hw tw.r hx0 hev
      have la' := (room_len 2 ways Sa ha x).trans la
      have lb' := (room_len 2 ways Sb hb x).trans lb
      have c2 := o2.cells hc0
      rw [← q1] at f1
      cases hp : (roomS 2 ways Sa ha x).2.2 with
      | some p =>
        rw [hp] at e1 f1
        have hp' := q3 p hp
        obtain ⟨H3, m3, k3, e3⟩ := putC a2 p x s3
        obtain ⟨b3, o3⟩ := keepA m2 o2 ap k3
        have c3 := o3.cells hc0
        obtain ⟨H4, m4, k4, e4⟩ := putC b3 p x s3
        obtain ⟨a4, o4⟩ := keepB m3 o3 ap k4
        have ne : ((p : Int) != (p : Int)) = false := by simp
        have ih := fun j11 j12 j13 j14 j15 j16 j17 j58 j59 j60 j61 j62 j63 j64 j65 j66 j67 j68 j69 j70 j71 j72 j73 j74 j75 j76 j77 j78 j79 j80 j81 j82 j83 j84 j85 j86 j87 j88 j89 j90 j91 j92 j93 j94 j95 j96 j97 j98 j99 j100 j101 j102 j103 j104 j105 j106 j107 j108 j109 j110 j111 j112 j113 j114 j115 j116 j117 j118 j119 j120 j121 j122 j123 j124 j125 j126 j127 j128 j129 j130 j131 j132 j133 j134 j135 j136 j137 j138 j139 j140 j141 j142 j143 j144 j145 j146 j147 j148 j149 j150 j151 j152 j153 j154 j155 j156 => ih H4 _ _ _ _ j11 j12 j13 j14 j15 j16 j17 j58 j59 j60 j61 j62 j63 j64 j65 j66 j67 j68 j69 j70 j71 j72 j73 j74 j75 j76 j77 j78 j79 j80 j81 j82 j83 j84 j85 j86 j87 j88 j89 j90 j91 j92 j93 j94 j95 j96 j97 j98 j99 j100 j101 j102 j103 j104 j105 j106 j107 j108 j109 j110 j111 j112 j113 j114 j115 j116 j117 j118 j119 j120 j121 j122 j123 j124 j125 j126 j127 j128 j129 j130 j131 j132 j133 j134 j135 j136 j137 j138 j139 j140 j141 j142 j143 j144 j145 j146 j147 j148 j149 j150 j151 j152 j153 j154 j155 j156 ⟨a4, m4, o4, put0 la' lb' q2 hx0 hev hp' s3⟩
        rw [lo]
        unfold l5x0
        simp -implicitDefEqProofs (maxSteps := 5000000) only [go_sem, Nat.reduceShiftRight, Nat.reduceAnd, Nat.reduceBNe, Int.reduceEq, Nat.reduceAdd, Nat.reduceSub, Nat.reduceMul, Nat.reduceLeDiff, reduceIte, reduceCtorEq, Nat.reduceBEq, Nat.reduceEqDiff, go_sem, o_call, hl, hd, e2, ix, c0, c2, c3, g1, g3, md, r2, dv, e1, f1, optA, e3, e4, ne]
        exact ih ..
      | none =>
        rw [hp] at e1 f1
        obtain ⟨i', hi', d1, d2, d3⟩ := dirty0 ww1 la lb na nb tw.a.hw tw.r hx0 hev hp
        obtain ⟨H3, m3, k3, e3⟩ := dirtiestC a2 x
        rw [d1] at e3
        obtain ⟨b3, o3⟩ := keepA m2 o2 ap k3
        obtain ⟨H4, m4, k4, e4⟩ := dirtiestC b3 x
        rw [d2] at e4
        obtain ⟨a4, o4⟩ := keepB m3 o3 ap k4
        obtain ⟨H5, m5, k5, e5⟩ := cleanC a4 i'
        obtain ⟨b5, o5⟩ := keepA m4 o4 ap k5
        obtain ⟨H6, m6, k6, e6⟩ := cleanC b5 i'
        obtain ⟨a6, o6⟩ := keepB m5 o5 ap k6
        have ne : ((i' : Int) != (i' : Int)) = false := by simp
        have ih := fun j11 j12 j13 j14 j15 j16 j17 j58 j59 j60 j61 j62 j63 j64 j65 j66 j67 j68 j69 j70 j71 j72 j73 j74 j75 j76 j77 j78 j79 j80 j81 j82 j83 j84 j85 j86 j87 j88 j89 j90 j91 j92 j93 j94 j95 j96 j97 j98 j99 j100 j101 j102 j103 j104 j105 j106 j107 j108 j109 j110 j111 j112 j113 j114 j115 j116 j117 j118 j119 j120 j121 j122 j123 j124 j125 j126 j127 j128 j129 j130 j131 j132 j133 j134 j135 j136 j137 j138 j139 j140 j141 j142 j143 j144 j145 j146 j147 j148 j149 j150 j151 j152 j153 j154 j155 j156 => ih H6 _ _ _ _ j11 j12 j13 j14 j15 j16 j17 j58 j59 j60 j61 j62 j63 j64 j65 j66 j67 j68 j69 j70 j71 j72 j73 j74 j75 j76 j77 j78 j79 j80 j81 j82 j83 j84 j85 j86 j87 j88 j89 j90 j91 j92 j93 j94 j95 j96 j97 j98 j99 j100 j101 j102 j103 j104 j105 j106 j107 j108 j109 j110 j111 j112 j113 j114 j115 j116 j117 j118 j119 j120 j121 j122 j123 j124 j125 j126 j127 j128 j129 j130 j131 j132 j133 j134 j135 j136 j137 j138 j139 j140 j141 j142 j143 j144 j145 j146 j147 j148 j149 j150 j151 j152 j153 j154 j155 j156 ⟨a6, m6, o6, clean0 la' lb' ⟨q2.ag, d3⟩ hi'⟩
        rw [lo]
        unfold l5x0
        simp -implicitDefEqProofs (maxSteps := 5000000) only [go_sem, Nat.reduceShiftRight, Nat.reduceAnd, Nat.reduceBNe, Int.reduceEq, Nat.reduceAdd, Nat.reduceSub, Nat.reduceMul, Nat.reduceLeDiff, reduceIte, reduceCtorEq, Nat.reduceBEq, Nat.reduceEqDiff, go_sem, o_call, hl, hd, e2, ix, c0, c2, g1, g3, md, r2, dv, e1, f1, optA, e3, e4, e5, e6, ne]
        exact ih ..
    · have dv : (x % 2 == 0) = false := by simp [hev]
      obtain ⟨q2, q3⟩ := room1 ww1 la na tw.a.hw tw.r hx0 hev
      have c1 := o1.cells hc0
      cases hp : (roomS 2 ways Sa ha x).2.2 with
      | some p =>
        rw [hp] at e1
        have hp' := q3 p hp
        obtain ⟨H3, m3, k3, e3⟩ := putC m1 p x s3
        obtain ⟨b3, o3⟩ := keepA b1 o1 ap k3
        have ih := fun j11 j12 j13 j14 j15 j16 j17 j58 j59 j60 j61 j62 j63 j64 j65 j66 j67 j68 j69 j70 j71 j72 j73 j74 j75 j76 j77 j78 j79 j80 j81 j82 j83 j84 j85 j86 j87 j88 j89 j90 j91 j92 j93 j94 j95 j96 j97 j98 j99 j100 j101 j102 j103 j104 j105 j106 j107 j108 j109 j110 j111 j112 j113 j114 j115 j116 j117 j118 j119 j120 j121 j122 j123 j124 j125 j126 j127 j128 j129 j130 j131 j132 j133 j134 j135 j136 j137 j138 j139 j140 j141 j142 j143 j144 j145 j146 j147 j148 j149 j150 j151 j152 j153 j154 j155 j156 => ih H3 _ _ _ _ j11 j12 j13 j14 j15 j16 j17 j58 j59 j60 j61 j62 j63 j64 j65 j66 j67 j68 j69 j70 j71 j72 j73 j74 j75 j76 j77 j78 j79 j80 j81 j82 j83 j84 j85 j86 j87 j88 j89 j90 j91 j92 j93 j94 j95 j96 j97 j98 j99 j100 j101 j102 j103 j104 j105 j106 j107 j108 j109 j110 j111 j112 j113 j114 j115 j116 j117 j118 j119 j120 j121 j122 j123 j124 j125 j126 j127 j128 j129 j130 j131 j132 j133 j134 j135 j136 j137 j138 j139 j140 j141 j142 j143 j144 j145 j146 j147 j148 j149 j150 j151 j152 j153 j154 j155 j156 ⟨m3, b3, o3, put1 q2 hp' s3⟩
        rw [lo]
        unfold l5x0
        simp -implicitDefEqProofs (maxSteps := 5000000) only [go_sem, Nat.reduceShiftRight, Nat.reduceAnd, Nat.reduceBNe, Int.reduceEq, Nat.reduceAdd, Nat.reduceSub, Nat.reduceMul, Nat.reduceLeDiff, reduceIte, reduceCtorEq, Nat.reduceBEq, Nat.reduceEqDiff, go_sem, o_call, hl, hd, e2, ix, c0, c1, g1, g3, md, r2, dv, e1, optA, e3]
        exact ih ..
      | none =>
        rw [hp] at e1
        have ih := fun j11 j12 j13 j14 j15 j16 j17 j58 j59 j60 j61 j62 j63 j64 j65 j66 j67 j68 j69 j70 j71 j72 j73 j74 j75 j76 j77 j78 j79 j80 j81 j82 j83 j84 j85 j86 j87 j88 j89 j90 j91 j92 j93 j94 j95 j96 j97 j98 j99 j100 j101 j102 j103 j104 j105 j106 j107 j108 j109 j110 j111 j112 j113 j114 j115 j116 j117 j118 j119 j120 j121 j122 j123 j124 j125 j126 j127 j128 j129 j130 j131 j132 j133 j134 j135 j136 j137 j138 j139 j140 j141 j142 j143 j144 j145 j146 j147 j148 j149 j150 j151 j152 j153 j154 j155 j156 => ih H1 _ _ _ _ j11 j12 j13 j14 j15 j16 j17 j58 j59 j60 j61 j62 j63 j64 j65 j66 j67 j68 j69 j70 j71 j72 j73 j74 j75 j76 j77 j78 j79 j80 j81 j82 j83 j84 j85 j86 j87 j88 j89 j90 j91 j92 j93 j94 j95 j96 j97 j98 j99 j100 j101 j102 j103 j104 j105 j106 j107 j108 j109 j110 j111 j112 j113 j114 j115 j116 j117 j118 j119 j120 j121 j122 j123 j124 j125 j126 j127 j128 j129 j130 j131 j132 j133 j134 j135 j136 j137 j138 j139 j140 j141 j142 j143 j144 j145 j146 j147 j148 j149 j150 j151 j152 j153 j154 j155 j156 ⟨m1, b1, o1, q2⟩
        rw [lo]
        unfold l5x0
        simp -implicitDefEqProofs (maxSteps := 5000000) only [go_sem, Nat.reduceShiftRight, Nat.reduceAnd, Nat.reduceBNe, Int.reduceEq, Nat.reduceAdd, Nat.reduceSub, Nat.reduceMul, Nat.reduceLeDiff, reduceIte, reduceCtorEq, Nat.reduceBEq, Nat.reduceEqDiff, go_sem, o_call, hl, hd, e2, ix, c0, c1, g1, g3, md, r2, dv, e1, optA]
        exact ih ..

theorem blockA_tup (S : List Slot) (i : Int) : ∃ b d o, blockA S i = .tup [.int .i64 b, .bool d, .bool o] := by
  unfold blockA; split <;> exact ⟨_, _, _, rfl⟩
set_option maxHeartbeats 8000000 in
theorem setsM {h0 H : AHeap} {ways pa sa xa pb sb xb : Nat} {Sa Sb : List Slot} {ha hb : List Nat} (tw : Two h0 H ways pa sa xa pb sb xb Sa Sb ha hb) (x0 x1 x2 x3 x7 x9 x10 x11 x12 x13 x14 x15 x16 x17 x25 x26 x27 x28 x29 x30 x31 x32 x33 x34 x35 x36 x37 x38 x39 x40 x41 x42 x43 x44 x45 x46 x47 x48 x49 x50 x51 x52 x53 x54 x55 x56 x57 x58 x59 x60 x61 x62 x63 x64 x65 x66 x67 x68 x69 x70 x71 x72 x73 x74 x75 x76 x77 x78 x79 x80 x81 x82 x83 x84 x85 x86 x87 x88 x89 x90 x91 x92 x93 x94 x95 x96 x97 x98 x99 x100 x101 x102 x103 x104 x105 x106 x107 x108 x109 x110 x111 x112 x113 x114 x115 x116 x117 x118 x119 x120 x121 x122 x123 x124 x125 x126 x127 x128 x129 x130 x131 x132 x133 x134 x135 x136 x137 x138 x139 x140 x141 x142 x143 x144 x145 x146 x147 x148 x149 x150 x151 x152 x153 x154 x155 x156 x189 : AV) : ∀ (k i : Nat) (j19 j20 j21 j22 j23 j24 j157 j158 j159 j160 j161 j162 j163 j164 j165 j166 j167 j168 j169 j170 j171 j172 j173 j174 j175 j176 j177 j178 j179 j180 j181 j182 j183 j184 j185 j186 j187 j188 : AV), i + k = ways →
    Outs (LP l5x1 [x0, x1, x2, x3, .bool false, .int .i64 (ways : Int), .ptr pa 0, x7, .ptr pb 0, x9, x10, x11, x12, x13, x14, x15, x16, x17, .int .i64 (i : Int), j19, j20, j21, j22, j23, j24, x25, x26, x27, x28, x29, x30, x31, x32, x33, x34, x35, x36, x37, x38, x39, x40, x41, x42, x43, x44, x45, x46, x47, x48, x49, x50, x51, x52, x53, x54, x55, x56, x57, x58, x59, x60, x61, x62, x63, x64, x65, x66, x67, x68, x69, x70, x71, x72, x73, x74, x75, x76, x77, x78, x79, x80, x81, x82, x83, x84, x85, x86, x87, x88, x89, x90, x91, x92, x93, x94, x95, x96, x97, x98, x99, x100, x101, x102, x103, x104, x105, x106, x107, x108, x109, x110, x111, x112, x113, x114, x115, x116, x117, x118, x119, x120, x121, x122, x123, x124, x125, x126, x127, x128, x129, x130, x131, x132, x133, x134, x135, x136, x137, x138, x139, x140, x141, x142, x143, x144, x145, x146, x147, x148, x149, x150, x151, x152, x153, x154, x155, x156, j157, j158, j159, j160, j161, j162, j163, j164, j165, j166, j167, j168, j169, j170, j171, j172, j173, j174, j175, j176, j177, j178, j179, j180, j181, j182, j183, j184, j185, j186, j187, j188, x189] H) fun e t H' => e = .exit 2 ∧ H' = H ∧ ∃ k : Nat → AV, t = [x0, x1, x2, x3, .bool false, .int .i64 (ways : Int), .ptr pa 0, x7, .ptr pb 0, x9, x10, x11, x12, x13, x14, x15, x16, x17, (k 18), (k 19), (k 20), (k 21), (k 22), (k 23), (k 24), x25, x26, x27, x28, x29, x30, x31, x32, x33, x34, x35, x36, x37, x38, x39, x40, x41, x42, x43, x44, x45, x46, x47, x48, x49, x50, x51, x52, x53, x54, x55, x56, x57, x58, x59, x60, x61, x62, x63, x64, x65, x66, x67, x68, x69, x70, x71, x72, x73, x74, x75, x76, x77, x78, x79, x80, x81, x82, x83, x84, x85, x86, x87, x88, x89, x90, x91, x92, x93, x94, x95, x96, x97, x98, x99, x100, x101, x102, x103, x104, x105, x106, x107, x108, x109, x110, x111, x112, x113, x114, x115, x116, x117, x118, x119, x120, x121, x122, x123, x124, x125, x126, x127, x128, x129, x130, x131, x132, x133, x134, x135, x136, x137, x138, x139, x140, x141, x142, x143, x144, x145, x146, x147, x148, x149, x150, x151, x152, x153, x154, x155, x156, (k 157), (k 158), (k 159), (k 160), (k 161), (k 162), (k 163), (k 164), (k 165), (k 166), (k 167), (k 168), (k 169), (k 170), (k 171), (k 172), (k 173), (k 174), (k 175), (k 176), (k 177), (k 178), (k 179), (k 180), (k 181), (k 182), (k 183), (k 184), (k 185), (k 186), (k 187), (k 188), x189] := by
  intro k
  obtain ⟨L, hL⟩ : ∃ L, L = LP l5x1 := ⟨_, rfl⟩
  have lo := loop_open hL
  rw [← hL]
  obtain ⟨la, lb, na, nb, ww1, ww4⟩ := tw.la
  induction k with
  | zero =>
    intro i j19 j20 j21 j22 j23 j24 j157 j158 j159 j160 j161 j162 j163 j164 j165 j166 j167 j168 j169 j170 j171 j172 j173 j174 j175 j176 j177 j178 j179 j180 j181 j182 j183 j184 j185 j186 j187 j188 hi
    obtain rfl : i = ways := by omega
    have hd : decide ((i : Int) < (i : Int)) = false := by simp
    rw [lo]
    unfold l5x1
    simp -implicitDefEqProofs (maxSteps := 5000000) only [go_sem, Nat.reduceShiftRight, Nat.reduceAnd, Nat.reduceBNe, Int.reduceEq, Nat.reduceAdd, Nat.reduceSub, Nat.reduceMul, Nat.reduceLeDiff, reduceIte, reduceCtorEq, Nat.reduceBEq, Nat.reduceEqDiff, go_sem, hd, seqR_exit', outs_normal]
    exact exF rfl
  | succ k ih =>
    intro i j19 j20 j21 j22 j23 j24 j157 j158 j159 j160 j161 j162 j163 j164 j165 j166 j167 j168 j169 j170 j171 j172 j173 j174 j175 j176 j177 j178 j179 j180 j181 j182 j183 j184 j185 j186 j187 j188 hi
    have hd : decide ((i : Int) < (ways : Int)) = true := decide_eq_true (by omega)
    have e2 : IntKind.i64.wrap ((i : Int) + 1) = ((i + 1 : Nat) : Int) := by rw [wrap64 (by omega) (by omega)]; omega
    have ih := fun j19 j20 j21 j22 j23 j24 j157 j158 j159 j160 j161 j162 j163 j164 j165 j166 j167 j168 j169 j170 j171 j172 j173 j174 j175 j176 j177 j178 j179 j180 j181 j182 j183 j184 j185 j186 j187 j188 => ih (i + 1) j19 j20 j21 j22 j23 j24 j157 j158 j159 j160 j161 j162 j163 j164 j165 j166 j167 j168 j169 j170 j171 j172 j173 j174 j175 j176 j177 j178 j179 j180 j181 j182 j183 j184 j185 j186 j187 j188 (by omega)
    have c1 := blockC tw.a i
    have c2 := blockC tw.b i
    rw [← block0 la lb tw.r.ag (show i < ways by omega)] at c2
    obtain ⟨b, d, o, hb⟩ := blockA_tup Sa i
    rw [hb] at c1 c2
    have n1 : (b != b) = false := by simp
    have n2 : ∀ x : Bool, (x != x) = false := fun x => by cases x <;> rfl
    rw [lo]
    unfold l5x1
    simp -implicitDefEqProofs (maxSteps := 5000000) only [go_sem, Nat.reduceShiftRight, Nat.reduceAnd, Nat.reduceBNe, Int.reduceEq, Nat.reduceAdd, Nat.reduceSub, Nat.reduceMul, Nat.reduceLeDiff, reduceIte, reduceCtorEq, Nat.reduceBEq, Nat.reduceEqDiff, go_sem, o_call, hd, e2, c1, c2, n1, n2]
    exact ih ..

end Go.Proofs.Ytodoakeifdiidaa.G13

