/- What the functions that RigPlays reaches answer, for every argument. No condition but those in each statement. -/
import Derived.Test.YthjkfincekckhaaQ5
import Derived.Test.YthjkfincekckhaaE6
set_option linter.unusedSimpArgs false
set_option linter.unusedVariables false
set_option linter.unusedSectionVars false
set_option maxRecDepth 10000
namespace Go.Proofs.Ythjkfincekckhaa.G04
open Go Go.Proofs.Ythjkfincekckhaa.Eng
/-- What the law sees of the document's rig. -/
structure See (H : AHeap) (pq : Nat) (q : RgS) (q0 q1 : Nat) (v0 v1 : AV) (s0 s1 : Nat) : Prop where
  p : cellsOf H pq = some [.ptr q0 0, .ptr q1 0, .int .i64 q.fuse, .bool q.down, .int .i64 q.done]
  a : cellsOf H q0 = some [.sl s0 0 64 q.a.length q.a.length true, v0]
  b : cellsOf H q1 = some [.sl s1 0 64 q.b.length q.b.length true, v1]
theorem see_of {H : AHeap} {pq c : Nat} {q : RgS} {G : Nat → Prop} (m : RefIn H pq c q G) : ∃ q0 q1 v0 v1 s0 s1, See H pq q q0 q1 v0 v1 s0 s1 := by
  obtain ⟨q0, q1, s0, v0, s1, v1, h1, h2, h3, _⟩ := rqnSee m
  exact ⟨q0, q1, v0, v1, s0, s1, h1, h2, h3⟩
theorem dk_len {r q : RgS} (s : Sim r q) : (r.dk 0).length = q.a.length ∧ (r.dk 1).length = q.b.length ∧ (r.dk 2).length = 0 := by
  refine ⟨by show r.a.length = _; rw [s.a], by show r.b.length = _; rw [s.b], rfl⟩
set_option maxHeartbeats 16000000 in
theorem playsL {h0 : AHeap} {vl : AV} {rows : List (List AV)} (rs : RS 6 h0 vl rows) (rd : ∀ r ∈ rows, DatR h0 stepSh r) (hn : rows.length ≤ 200) (hfr : ∀ r ∈ rows, FairRow r) {p pq : Nat} (x0 x2 x3 x6 x8 x15 x16 x17 x18 x19 x20 x21 x22 x23 x24 x25 x26 x27 x28 x29 x30 x31 x32 x33 x34 x35 x36 x37 x38 x39 x40 x41 x42 x43 x44 x45 x46 x47 x48 x49 x50 x51 x52 x53 x54 x55 x56 x57 x58 x59 x60 x61 x62 x63 x64 x65 x66 x67 x68 x223 x224 x225 x226 x227 x228 x229 x230 x231 x232 x233 x234 x235 x236 x237 x238 x239 x240 x241 x242 x243 x244 x245 x246 x247 x248 x249 x250 x251 x252 x253 x254 x255 x256 x257 x258 x259 x260 x261 x262 x263 x264 x265 x266 x267 x268 x269 x270 x271 x272 x273 : AV) : ∀ (k i : Nat) (H : AHeap) (r q : RgS) (F G : Nat → Prop) (j10 j11 j12 j13 j14 j69 j70 j71 j72 j73 j74 j75 j76 j77 j78 j79 j80 j81 j82 j83 j84 j85 j86 j87 j88 j89 j90 j91 j92 j93 j94 j95 j96 j97 j98 j99 j100 j101 j102 j103 j104 j105 j106 j107 j108 j109 j110 j111 j112 j113 j114 j115 j116 j117 j118 j119 j120 j121 j122 j123 j124 j125 j126 j127 j128 j129 j130 j131 j132 j133 j134 j135 j136 j137 j138 j139 j140 j141 j142 j143 j144 j145 j146 j147 j148 j149 j150 j151 j152 j153 j154 j155 j156 j157 j158 j159 j160 j161 j162 j163 j164 j165 j166 j167 j168 j169 j170 j171 j172 j173 j174 j175 j176 j177 j178 j179 j180 j181 j182 j183 j184 j185 j186 j187 j188 j189 j190 j191 j192 j193 j194 j195 j196 j197 j198 j199 j200 j201 j202 j203 j204 j205 j206 j207 j208 j209 j210 j211 j212 j213 j214 j215 j216 j217 j218 j219 j220 j221 j222 : AV), Both h0 H p pq i r q F G → i + k = rows.length →
    Outs (LP l3x0 [x0, vl, x2, x3, .bool false, .ptr p 0, x6, .ptr pq 0, x8, .int .i64 (i : Int), j10, j11, j12, j13, j14, x15, x16, x17, x18, x19, x20, x21, x22, x23, x24, x25, x26, x27, x28, x29, x30, x31, x32, x33, x34, x35, x36, x37, x38, x39, x40, x41, x42, x43, x44, x45, x46, x47, x48, x49, x50, x51, x52, x53, x54, x55, x56, x57, x58, x59, x60, x61, x62, x63, x64, x65, x66, x67, x68, j69, j70, j71, j72, j73, j74, j75, j76, j77, j78, j79, j80, j81, j82, j83, j84, j85, j86, j87, j88, j89, j90, j91, j92, j93, j94, j95, j96, j97, j98, j99, j100, j101, j102, j103, j104, j105, j106, j107, j108, j109, j110, j111, j112, j113, j114, j115, j116, j117, j118, j119, j120, j121, j122, j123, j124, j125, j126, j127, j128, j129, j130, j131, j132, j133, j134, j135, j136, j137, j138, j139, j140, j141, j142, j143, j144, j145, j146, j147, j148, j149, j150, j151, j152, j153, j154, j155, j156, j157, j158, j159, j160, j161, j162, j163, j164, j165, j166, j167, j168, j169, j170, j171, j172, j173, j174, j175, j176, j177, j178, j179, j180, j181, j182, j183, j184, j185, j186, j187, j188, j189, j190, j191, j192, j193, j194, j195, j196, j197, j198, j199, j200, j201, j202, j203, j204, j205, j206, j207, j208, j209, j210, j211, j212, j213, j214, j215, j216, j217, j218, j219, j220, j221, j222, x223, x224, x225, x226, x227, x228, x229, x230, x231, x232, x233, x234, x235, x236, x237, x238, x239, x240, x241, x242, x243, x244, x245, x246, x247, x248, x249, x250, x251, x252, x253, x254, x255, x256, x257, x258, x259, x260, x261, x262, x263, x264, x265, x266, x267, x268, x269, x270, x271, x272, x273] H) fun e t H' => e = .exit 0 ∧ (∃ r' q' F' G', Both h0 H' p pq rows.length r' q' F' G') ∧ ∃ k : Nat → AV, t = [x0, vl, x2, x3, .bool false, .ptr p 0, x6, .ptr pq 0, x8, (k 9), (k 10), (k 11), (k 12), (k 13), (k 14), x15, x16, x17, x18, x19, x20, x21, x22, x23, x24, x25, x26, x27, x28, x29, x30, x31, x32, x33, x34, x35, x36, x37, x38, x39, x40, x41, x42, x43, x44, x45, x46, x47, x48, x49, x50, x51, x52, x53, x54, x55, x56, x57, x58, x59, x60, x61, x62, x63, x64, x65, x66, x67, x68, (k 69), (k 70), (k 71), (k 72), (k 73), (k 74), (k 75), (k 76), (k 77), (k 78), (k 79), (k 80), (k 81), (k 82), (k 83), (k 84), (k 85), (k 86), (k 87), (k 88), (k 89), (k 90), (k 91), (k 92), (k 93), (k 94), (k 95), (k 96), (k 97), (k 98), (k 99), (k 100), (k 101), (k 102), (k 103), (k 104), (k 105), (k 106), (k 107), (k 108), (k 109), (k 110), (k 111), (k 112), (k 113), (k 114), (k 115), (k 116), (k 117), (k 118), (k 119), (k 120), (k 121), (k 122), (k 123), (k 124), (k 125), (k 126), (k 127), (k 128), (k 129), (k 130), (k 131), (k 132), (k 133), (k 134), (k 135), (k 136), (k 137), (k 138), (k 139), (k 140), (k 141), (k 142), (k 143), (k 144), (k 145), (k 146), (k 147), (k 148), (k 149), (k 150), (k 151), (k 152), (k 153), (k 154), (k 155), (k 156), (k 157), (k 158), (k 159), (k 160), (k 161), (k 162), (k 163), (k 164), (k 165), (k 166), (k 167), (k 168), (k 169), (k 170), (k 171), (k 172), (k 173), (k 174), (k 175), (k 176), (k 177), (k 178), (k 179), (k 180), (k 181), (k 182), (k 183), (k 184), (k 185), (k 186), (k 187), (k 188), (k 189), (k 190), (k 191), (k 192), (k 193), (k 194), (k 195), (k 196), (k 197), (k 198), (k 199), (k 200), (k 201), (k 202), (k 203), (k 204), (k 205), (k 206), (k 207), (k 208), (k 209), (k 210), (k 211), (k 212), (k 213), (k 214), (k 215), (k 216), (k 217), (k 218), (k 219), (k 220), (k 221), (k 222), x223, x224, x225, x226, x227, x228, x229, x230, x231, x232, x233, x234, x235, x236, x237, x238, x239, x240, x241, x242, x243, x244, x245, x246, x247, x248, x249, x250, x251, x252, x253, x254, x255, x256, x257, x258, x259, x260, x261, x262, x263, x264, x265, x266, x267, x268, x269, x270, x271, x272, x273] := by
  intro k
  obtain ⟨L, hL⟩ : ∃ L, L = LP l3x0 := ⟨_, rfl⟩
  have lo := loop_open hL
  rw [← hL]
  induction k with
  | zero =>
    intro i H r q F G j10 j11 j12 j13 j14 j69 j70 j71 j72 j73 j74 j75 j76 j77 j78 j79 j80 j81 j82 j83 j84 j85 j86 j87 j88 j89 j90 j91 j92 j93 j94 j95 j96 j97 j98 j99 j100 j101 j102 j103 j104 j105 j106 j107 j108 j109 j110 j111 j112 j113 j114 j115 j116 j117 j118 j119 j120 j121 j122 j123 j124 j125 j126 j127 j128 j129 j130 j131 j132 j133 j134 j135 j136 j137 j138 j139 j140 j141 j142 j143 j144 j145 j146 j147 j148 j149 j150 j151 j152 j153 j154 j155 j156 j157 j158 j159 j160 j161 j162 j163 j164 j165 j166 j167 j168 j169 j170 j171 j172 j173 j174 j175 j176 j177 j178 j179 j180 j181 j182 j183 j184 j185 j186 j187 j188 j189 j190 j191 j192 j193 j194 j195 j196 j197 j198 j199 j200 j201 j202 j203 j204 j205 j206 j207 j208 j209 j210 j211 j212 j213 j214 j215 j216 j217 j218 j219 j220 j221 j222 bo hi
    obtain rfl : i = rows.length := by omega
    have hl := rs.len
    have hd : decide ((rows.length : Int) < (rows.length : Int)) = false := by simp
    rw [lo]
    unfold l3x0
    simp -implicitDefEqProofs (maxSteps := 5000000) only [go_sem, Nat.reduceShiftRight, Nat.reduceAnd, Nat.reduceBNe, Int.reduceEq, Nat.reduceAdd, Nat.reduceSub, Nat.reduceMul, Nat.reduceLeDiff, reduceIte, reduceCtorEq, Nat.reduceBEq, Nat.reduceEqDiff, hl, hd, seqR_exit', outs_normal]
    exact ⟨⟨r, q, F, G, bo⟩, exF rfl⟩
  | succ k ih =>
    intro i H r q F G j10 j11 j12 j13 j14 j69 j70 j71 j72 j73 j74 j75 j76 j77 j78 j79 j80 j81 j82 j83 j84 j85 j86 j87 j88 j89 j90 j91 j92 j93 j94 j95 j96 j97 j98 j99 j100 j101 j102 j103 j104 j105 j106 j107 j108 j109 j110 j111 j112 j113 j114 j115 j116 j117 j118 j119 j120 j121 j122 j123 j124 j125 j126 j127 j128 j129 j130 j131 j132 j133 j134 j135 j136 j137 j138 j139 j140 j141 j142 j143 j144 j145 j146 j147 j148 j149 j150 j151 j152 j153 j154 j155 j156 j157 j158 j159 j160 j161 j162 j163 j164 j165 j166 j167 j168 j169 j170 j171 j172 j173 j174 j175 j176 j177 j178 j179 j180 j181 j182 j183 j184 j185 j186 j187 j188 j189 j190 j191 j192 j193 j194 j195 j196 j197 j198 j199 j200 j201 j202 j203 j204 j205 j206 j207 j208 j209 j210 j211 j212 j213 j214 j215 j216 j217 j218 j219 j220 j221 j222 bo hi
    have hl := rs.len
    have hd : decide ((i : Int) < (rows.length : Int)) = true := decide_eq_true (by omega)
    have e2 : IntKind.i64.wrap ((i : Int) + 1) = ((i + 1 : Nat) : Int) := by rw [wrap64 (by omega) (by omega)]; omega
    have ih := fun H r q F G j10 j11 j12 j13 j14 j69 j70 j71 j72 j73 j74 j75 j76 j77 j78 j79 j80 j81 j82 j83 j84 j85 j86 j87 j88 j89 j90 j91 j92 j93 j94 j95 j96 j97 j98 j99 j100 j101 j102 j103 j104 j105 j106 j107 j108 j109 j110 j111 j112 j113 j114 j115 j116 j117 j118 j119 j120 j121 j122 j123 j124 j125 j126 j127 j128 j129 j130 j131 j132 j133 j134 j135 j136 j137 j138 j139 j140 j141 j142 j143 j144 j145 j146 j147 j148 j149 j150 j151 j152 j153 j154 j155 j156 j157 j158 j159 j160 j161 j162 j163 j164 j165 j166 j167 j168 j169 j170 j171 j172 j173 j174 j175 j176 j177 j178 j179 j180 j181 j182 j183 j184 j185 j186 j187 j188 j189 j190 j191 j192 j193 j194 j195 j196 j197 j198 j199 j200 j201 j202 j203 j204 j205 j206 j207 j208 j209 j210 j211 j212 j213 j214 j215 j216 j217 j218 j219 j220 j221 j222 bo => ih (i + 1) H r q F G j10 j11 j12 j13 j14 j69 j70 j71 j72 j73 j74 j75 j76 j77 j78 j79 j80 j81 j82 j83 j84 j85 j86 j87 j88 j89 j90 j91 j92 j93 j94 j95 j96 j97 j98 j99 j100 j101 j102 j103 j104 j105 j106 j107 j108 j109 j110 j111 j112 j113 j114 j115 j116 j117 j118 j119 j120 j121 j122 j123 j124 j125 j126 j127 j128 j129 j130 j131 j132 j133 j134 j135 j136 j137 j138 j139 j140 j141 j142 j143 j144 j145 j146 j147 j148 j149 j150 j151 j152 j153 j154 j155 j156 j157 j158 j159 j160 j161 j162 j163 j164 j165 j166 j167 j168 j169 j170 j171 j172 j173 j174 j175 j176 j177 j178 j179 j180 j181 j182 j183 j184 j185 j186 j187 j188 j189 j190 j191 j192 j193 j194 j195 j196 j197 j198 j199 j200 j201 j202 j203 j204 j205 j206 j207 j208 j209 j210 j211 j212 j213 j214 j215 j216 j217 j218 j219 j220 j221 j222 bo (by omega)
    obtain ⟨row, hr⟩ : ∃ r, rows[i]? = some r := ⟨_, List.getElem?_eq_getElem (by omega)⟩
    obtain ⟨s0, s1, s2, s3, s4, s5, rfl, w0, w1, w2, w3, f4, f5⟩ := step_dat (rd row (List.mem_of_getElem? hr))
    obtain ⟨b, cs, ix, hc0, hg, _, hsz, htk⟩ := rs.idx (by omega) hr .i64
    have c0 := bo.l.old.cells hc0
    have c4 := (datc_sl f4).cell
    have c5 := (datc_sl f5).cell
    have hcc : ([.int .i64 s0, .int .i64 s1, .int .i64 s2, .int .u8 s3, s4, s5] : List AV).all AV.isCell = true := by simp only [List.all_cons, List.all_nil, c4, c5, cell_int, Bool.and_self]
    obtain ⟨H0, e0⟩ : ∃ H0, H0 = H ++ [ABlk.rw [.int .i64 s0, .int .i64 s1, .int .i64 s2, .int .u8 s3, s4, s5]] := ⟨_, rfl⟩
    have bo0 : Both h0 H0 p pq i r q F G := by rw [e0]; exact bo.adds _
    have nF : ¬ F H.length := fun h => Nat.lt_irrefl _ (bo.l.m.lt _ h)
    have nG : ¬ G H.length := fun h => Nat.lt_irrefl _ (bo.lq.m.lt _ h)
    have hH0 : H.length < H0.length := by rw [e0]; simp
    have cc : cellsOf H0 H.length = some [.int .i64 s0, .int .i64 s1, .int .i64 s2, .int .u8 s3, s4, s5] := by rw [e0]; unfold cellsOf; simp
    have e0 := e0.symm
    have nn : ∀ x : Int, (x != x) = false := fun x => by simp
    have nb : ∀ x : Bool, (!(x == x)) = false := fun x => by cases x <;> rfl
    have n00 : ((0 : Int) != 0) = false := rfl
    have bo1 : Both h0 H0 p pq (i + 1) r q F G := ⟨⟨RigIn.up bo0.l.m (Nat.le_succ _) (by omega), bo0.l.old, bo0.l.out⟩, ⟨bo0.lq.m.up (Nat.le_succ _) (by omega), bo0.lq.old, bo0.lq.out⟩, bo0.dis, bo0.sim, bo0.la, bo0.lb⟩
    by_cases k0 : s0 = 0
    · subst k0
      obtain ⟨H1, F1, m1, st1, ea⟩ := rinWrite bo0.l.m s1 s2 (fz_ok w3) (by omega)
      obtain ⟨la1, lq1, dis1⟩ := both_a bo0.l bo0.lq bo0.dis m1 st1
      have cc1 := st1.1.cells cc nF
      obtain ⟨H2, G2, m2, st2, eb⟩ := rqnWrite lq1.m s1 s2 (fz_ok w3) (by omega)
      obtain ⟨la2, lq2, dis2⟩ := both_b la1 lq1 dis1 m2 st2
      have cc2 := st2.1.cells cc1 nG
      obtain ⟨sw, sim2⟩ := bo0.sim.write s1 s2 (fz s3)
      rw [← sw] at eb
      have fu := fillU s3 H0
      have fu1 := fillU s3 H1
      have bb : Both h0 H2 p pq (i + 1) _ _ F1 G2 := ⟨la2, lq2, dis2, sim2, by rw [write_len]; exact bo.la, by rw [write_lenb]; exact bo.lb⟩
      have eN := rinDown bb.l.m
      have eD := rinDone bb.l.m
      have eL0 := rinLen bb.l.m 0
      have eL1 := rinLen bb.l.m 1
      have eL2 := rinLen bb.l.m 2
      obtain ⟨g1, g2, g3⟩ := dk_len bb.sim
      rw [bb.sim.down] at eN
      rw [bb.sim.done] at eD
      rw [g1] at eL0
      rw [g2] at eL1
      rw [g3, show ((0 : Nat) : Int) = 0 from rfl] at eL2
      obtain ⟨q0, q1, v0, v1, t0, t1, sp, sa, sb⟩ := see_of bb.lq.m
      have ih := fun j10 j11 j12 j13 j14 j69 j70 j71 j72 j73 j74 j75 j76 j77 j78 j79 j80 j81 j82 j83 j84 j85 j86 j87 j88 j89 j90 j91 j92 j93 j94 j95 j96 j97 j98 j99 j100 j101 j102 j103 j104 j105 j106 j107 j108 j109 j110 j111 j112 j113 j114 j115 j116 j117 j118 j119 j120 j121 j122 j123 j124 j125 j126 j127 j128 j129 j130 j131 j132 j133 j134 j135 j136 j137 j138 j139 j140 j141 j142 j143 j144 j145 j146 j147 j148 j149 j150 j151 j152 j153 j154 j155 j156 j157 j158 j159 j160 j161 j162 j163 j164 j165 j166 j167 j168 j169 j170 j171 j172 j173 j174 j175 j176 j177 j178 j179 j180 j181 j182 j183 j184 j185 j186 j187 j188 j189 j190 j191 j192 j193 j194 j195 j196 j197 j198 j199 j200 j201 j202 j203 j204 j205 j206 j207 j208 j209 j210 j211 j212 j213 j214 j215 j216 j217 j218 j219 j220 j221 j222 => ih H2 _ _ _ _ j10 j11 j12 j13 j14 j69 j70 j71 j72 j73 j74 j75 j76 j77 j78 j79 j80 j81 j82 j83 j84 j85 j86 j87 j88 j89 j90 j91 j92 j93 j94 j95 j96 j97 j98 j99 j100 j101 j102 j103 j104 j105 j106 j107 j108 j109 j110 j111 j112 j113 j114 j115 j116 j117 j118 j119 j120 j121 j122 j123 j124 j125 j126 j127 j128 j129 j130 j131 j132 j133 j134 j135 j136 j137 j138 j139 j140 j141 j142 j143 j144 j145 j146 j147 j148 j149 j150 j151 j152 j153 j154 j155 j156 j157 j158 j159 j160 j161 j162 j163 j164 j165 j166 j167 j168 j169 j170 j171 j172 j173 j174 j175 j176 j177 j178 j179 j180 j181 j182 j183 j184 j185 j186 j187 j188 j189 j190 j191 j192 j193 j194 j195 j196 j197 j198 j199 j200 j201 j202 j203 j204 j205 j206 j207 j208 j209 j210 j211 j212 j213 j214 j215 j216 j217 j218 j219 j220 j221 j222 bb
      rw [lo]
      unfold l3x0
      simp -implicitDefEqProofs (maxSteps := 5000000) only [go_sem, Nat.reduceShiftRight, Nat.reduceAnd, Nat.reduceBNe, Int.reduceEq, Nat.reduceAdd, Nat.reduceSub, Nat.reduceMul, Nat.reduceLeDiff, reduceIte, reduceCtorEq, Nat.reduceBEq, Nat.reduceEqDiff, wrap64, runC_loop, runC_range, callF_fn, callV_fn, callV_yld, yield_eq, yieldBody, yieldRaw, roundMid, roundEnd, rangeEnd, Bool.not_not, put_cons, put_nil, trim_same, at_zero, at_add, set_zero, set_add, store_one, write_zero, write_add, write_head, write_succ, splice_one, splice_more, List.drop_nil, List.take_nil, cell_int, cell_bool, fillS, splice_one, idxA, Ex.isNormal, List.set_nil, List.length_set, List.all_cons, List.all_nil, Bool.and_self, and_self, true_and, and_true, List.getElem?_nil, Int.reduceLT, Int.reduceLE, Int.reduceToNat, Int.toNat_zero, Int.toNat_one, Int.reduceAdd, Int.reduceSub, Int.reduceMul, Int.reduceNeg, Int.reduceBEq, Int.reduceBNe, Int.reduceGE, Int.reduceGT, Nat.reduceLT, trim_keep, under_fn, under_ptr, under_sl, Nat.lt_irrefl, not_lt_add, trim_tail, keepOk, ABlk.vals, Int.cast_ofNat_Int, decide_true, decide_false, List.all_cons, List.all_nil, Nat.zero_mul, Nat.mul_one, Nat.one_mul, o_call, idx_arr, hl, hd, e2, ix, c0, htk, hsz, hcc, c4, c5, e0, cc, nn, nb, n00, eN, eD, eL0, eL1, eL2, sp, sa, sb, fu, fu1, ea, eb, cc1, cc2]
      exact ih ..
    have n0 : (s0 == 0) = false := by simp [k0]
    by_cases k1 : s0 = 1
    · subst k1
      have ea := rinRead bo0.l.m s1 s2
      have eb := fun B => rqnRead (bo0.lq.m.adds B) s1 s2
      rw [← bo0.sim.read] at eb
      have ok := read_ok bo0.l.m s1 s2
      have l64 := ok.1
      have w64 : (u8s (r.read s1 s2).1).length = 64 := by rw [u8s_len]; exact l64
      have uc := u8s_cell (r.read s1 s2).1
      have sp8 := splice_u8 (.int .u8 0) l64 (by omega)
      have tk8 := u8s_take l64
      have ns := ne_same l64
      have cco := fun B => cells_old (x := B) cc
      have bb := bo1.adds [.rw (u8s (r.read s1 s2).1), .rw (u8s (r.read s1 s2).1)]
      have eN := rinDown bb.l.m
      have eD := rinDone bb.l.m
      have eL0 := rinLen bb.l.m 0
      have eL1 := rinLen bb.l.m 1
      have eL2 := rinLen bb.l.m 2
      obtain ⟨g1, g2, g3⟩ := dk_len bb.sim
      rw [bb.sim.down] at eN
      rw [bb.sim.done] at eD
      rw [g1] at eL0
      rw [g2] at eL1
      rw [g3, show ((0 : Nat) : Int) = 0 from rfl] at eL2
      obtain ⟨q0, q1, v0, v1, t0, t1, sp, sa, sb⟩ := see_of bb.lq.m
      have ih := fun j10 j11 j12 j13 j14 j69 j70 j71 j72 j73 j74 j75 j76 j77 j78 j79 j80 j81 j82 j83 j84 j85 j86 j87 j88 j89 j90 j91 j92 j93 j94 j95 j96 j97 j98 j99 j100 j101 j102 j103 j104 j105 j106 j107 j108 j109 j110 j111 j112 j113 j114 j115 j116 j117 j118 j119 j120 j121 j122 j123 j124 j125 j126 j127 j128 j129 j130 j131 j132 j133 j134 j135 j136 j137 j138 j139 j140 j141 j142 j143 j144 j145 j146 j147 j148 j149 j150 j151 j152 j153 j154 j155 j156 j157 j158 j159 j160 j161 j162 j163 j164 j165 j166 j167 j168 j169 j170 j171 j172 j173 j174 j175 j176 j177 j178 j179 j180 j181 j182 j183 j184 j185 j186 j187 j188 j189 j190 j191 j192 j193 j194 j195 j196 j197 j198 j199 j200 j201 j202 j203 j204 j205 j206 j207 j208 j209 j210 j211 j212 j213 j214 j215 j216 j217 j218 j219 j220 j221 j222 => ih _ _ _ _ _ j10 j11 j12 j13 j14 j69 j70 j71 j72 j73 j74 j75 j76 j77 j78 j79 j80 j81 j82 j83 j84 j85 j86 j87 j88 j89 j90 j91 j92 j93 j94 j95 j96 j97 j98 j99 j100 j101 j102 j103 j104 j105 j106 j107 j108 j109 j110 j111 j112 j113 j114 j115 j116 j117 j118 j119 j120 j121 j122 j123 j124 j125 j126 j127 j128 j129 j130 j131 j132 j133 j134 j135 j136 j137 j138 j139 j140 j141 j142 j143 j144 j145 j146 j147 j148 j149 j150 j151 j152 j153 j154 j155 j156 j157 j158 j159 j160 j161 j162 j163 j164 j165 j166 j167 j168 j169 j170 j171 j172 j173 j174 j175 j176 j177 j178 j179 j180 j181 j182 j183 j184 j185 j186 j187 j188 j189 j190 j191 j192 j193 j194 j195 j196 j197 j198 j199 j200 j201 j202 j203 j204 j205 j206 j207 j208 j209 j210 j211 j212 j213 j214 j215 j216 j217 j218 j219 j220 j221 j222 bb
      rw [lo]
      unfold l3x0
      simp -implicitDefEqProofs (maxSteps := 5000000) only [go_sem, Nat.reduceShiftRight, Nat.reduceAnd, Nat.reduceBNe, Int.reduceEq, Nat.reduceAdd, Nat.reduceSub, Nat.reduceMul, Nat.reduceLeDiff, reduceIte, reduceCtorEq, Nat.reduceBEq, Nat.reduceEqDiff, wrap64, runC_loop, runC_range, callF_fn, callV_fn, callV_yld, yield_eq, yieldBody, yieldRaw, roundMid, roundEnd, rangeEnd, Bool.not_not, put_cons, put_nil, trim_same, at_zero, at_add, set_zero, set_add, store_one, write_zero, write_add, write_head, write_succ, splice_one, splice_more, List.drop_nil, List.take_nil, cell_int, cell_bool, fillS, splice_one, idxA, Ex.isNormal, List.set_nil, List.length_set, List.all_cons, List.all_nil, Bool.and_self, and_self, true_and, and_true, List.getElem?_nil, Int.reduceLT, Int.reduceLE, Int.reduceToNat, Int.toNat_zero, Int.toNat_one, Int.reduceAdd, Int.reduceSub, Int.reduceMul, Int.reduceNeg, Int.reduceBEq, Int.reduceBNe, Int.reduceGE, Int.reduceGT, Nat.reduceLT, trim_keep, under_fn, under_ptr, under_sl, Nat.lt_irrefl, not_lt_add, trim_tail, keepOk, ABlk.vals, Int.cast_ofNat_Int, decide_true, decide_false, List.all_cons, List.all_nil, Nat.zero_mul, Nat.mul_one, Nat.one_mul, o_call, idx_arr, hl, hd, e2, ix, c0, htk, hsz, hcc, c4, c5, e0, cc, nn, nb, n00, eN, eD, eL0, eL1, eL2, sp, sa, sb, n0, ea, eb, cco, store_one, write_zero, write_add, write_head, w64, uc, sp8, tk8, ns, rep_len]
      exact ih ..
    have n1 : (s0 == 1) = false := by simp [k1]
    by_cases k2 : s0 = 2
    · subst k2
      obtain ⟨H1, m1, st1, _, ea⟩ := rinFlush bo1.l.m s1
      obtain ⟨la1, lq1, dis1⟩ := both_a bo1.l bo1.lq bo1.dis m1 st1
      have cc1 := st1.1.cells cc nF
      obtain ⟨H2, m2, st2, _, eb⟩ := rqnFlush lq1.m s1
      obtain ⟨la2, lq2, dis2⟩ := both_b la1 lq1 dis1 m2 st2
      have cc2 := st2.1.cells cc1 nG
      obtain ⟨sw, sim2⟩ := bo0.sim.flush s1
      rw [← sw] at eb
      have bb : Both h0 H2 p pq (i + 1) _ _ F G := ⟨la2, lq2, dis2, sim2, by rw [flush_len]; exact bo.la, by rw [flush_lenb]; exact bo.lb⟩
      have eN := rinDown bb.l.m
      have eD := rinDone bb.l.m
      have eL0 := rinLen bb.l.m 0
      have eL1 := rinLen bb.l.m 1
      have eL2 := rinLen bb.l.m 2
      obtain ⟨g1, g2, g3⟩ := dk_len bb.sim
      rw [bb.sim.down] at eN
      rw [bb.sim.done] at eD
      rw [g1] at eL0
      rw [g2] at eL1
      rw [g3, show ((0 : Nat) : Int) = 0 from rfl] at eL2
      obtain ⟨q0, q1, v0, v1, t0, t1, sp, sa, sb⟩ := see_of bb.lq.m
      have ih := fun j10 j11 j12 j13 j14 j69 j70 j71 j72 j73 j74 j75 j76 j77 j78 j79 j80 j81 j82 j83 j84 j85 j86 j87 j88 j89 j90 j91 j92 j93 j94 j95 j96 j97 j98 j99 j100 j101 j102 j103 j104 j105 j106 j107 j108 j109 j110 j111 j112 j113 j114 j115 j116 j117 j118 j119 j120 j121 j122 j123 j124 j125 j126 j127 j128 j129 j130 j131 j132 j133 j134 j135 j136 j137 j138 j139 j140 j141 j142 j143 j144 j145 j146 j147 j148 j149 j150 j151 j152 j153 j154 j155 j156 j157 j158 j159 j160 j161 j162 j163 j164 j165 j166 j167 j168 j169 j170 j171 j172 j173 j174 j175 j176 j177 j178 j179 j180 j181 j182 j183 j184 j185 j186 j187 j188 j189 j190 j191 j192 j193 j194 j195 j196 j197 j198 j199 j200 j201 j202 j203 j204 j205 j206 j207 j208 j209 j210 j211 j212 j213 j214 j215 j216 j217 j218 j219 j220 j221 j222 => ih H2 _ _ _ _ j10 j11 j12 j13 j14 j69 j70 j71 j72 j73 j74 j75 j76 j77 j78 j79 j80 j81 j82 j83 j84 j85 j86 j87 j88 j89 j90 j91 j92 j93 j94 j95 j96 j97 j98 j99 j100 j101 j102 j103 j104 j105 j106 j107 j108 j109 j110 j111 j112 j113 j114 j115 j116 j117 j118 j119 j120 j121 j122 j123 j124 j125 j126 j127 j128 j129 j130 j131 j132 j133 j134 j135 j136 j137 j138 j139 j140 j141 j142 j143 j144 j145 j146 j147 j148 j149 j150 j151 j152 j153 j154 j155 j156 j157 j158 j159 j160 j161 j162 j163 j164 j165 j166 j167 j168 j169 j170 j171 j172 j173 j174 j175 j176 j177 j178 j179 j180 j181 j182 j183 j184 j185 j186 j187 j188 j189 j190 j191 j192 j193 j194 j195 j196 j197 j198 j199 j200 j201 j202 j203 j204 j205 j206 j207 j208 j209 j210 j211 j212 j213 j214 j215 j216 j217 j218 j219 j220 j221 j222 bb
      rw [lo]
      unfold l3x0
      simp -implicitDefEqProofs (maxSteps := 5000000) only [go_sem, Nat.reduceShiftRight, Nat.reduceAnd, Nat.reduceBNe, Int.reduceEq, Nat.reduceAdd, Nat.reduceSub, Nat.reduceMul, Nat.reduceLeDiff, reduceIte, reduceCtorEq, Nat.reduceBEq, Nat.reduceEqDiff, wrap64, runC_loop, runC_range, callF_fn, callV_fn, callV_yld, yield_eq, yieldBody, yieldRaw, roundMid, roundEnd, rangeEnd, Bool.not_not, put_cons, put_nil, trim_same, at_zero, at_add, set_zero, set_add, store_one, write_zero, write_add, write_head, write_succ, splice_one, splice_more, List.drop_nil, List.take_nil, cell_int, cell_bool, fillS, splice_one, idxA, Ex.isNormal, List.set_nil, List.length_set, List.all_cons, List.all_nil, Bool.and_self, and_self, true_and, and_true, List.getElem?_nil, Int.reduceLT, Int.reduceLE, Int.reduceToNat, Int.toNat_zero, Int.toNat_one, Int.reduceAdd, Int.reduceSub, Int.reduceMul, Int.reduceNeg, Int.reduceBEq, Int.reduceBNe, Int.reduceGE, Int.reduceGT, Nat.reduceLT, trim_keep, under_fn, under_ptr, under_sl, Nat.lt_irrefl, not_lt_add, trim_tail, keepOk, ABlk.vals, Int.cast_ofNat_Int, decide_true, decide_false, List.all_cons, List.all_nil, Nat.zero_mul, Nat.mul_one, Nat.one_mul, o_call, idx_arr, hl, hd, e2, ix, c0, htk, hsz, hcc, c4, c5, e0, cc, nn, nb, n00, eN, eD, eL0, eL1, eL2, sp, sa, sb, n0, n1, ea, eb, cc1, cc2]
      exact ih ..
    have n2 : (s0 == 2) = false := by simp [k2]
    by_cases k3 : s0 = 3
    · subst k3
      obtain ⟨za, ba0, ua, _⟩ := f4.bytes
      obtain ⟨zb, bb0, ub, _⟩ := f5.bytes
      have ba := bo0.l.old.bs ba0
      have bb' := bo0.l.old.bs bb0
      have hfx := hfr _ (List.mem_of_getElem? hr)
      have na : za.length ≤ 1000000 := by have := hfx 4 (.inl rfl) _ ba.len; omega
      have nb' : zb.length ≤ 1000000 := by have := hfx 5 (.inr rfl) _ bb'.len; omega
      have oldH := bo0.l.old.len
      have c1h : cellsOf (H0 ++ [ABlk.rw [], .rw []]) H0.length = some [] := by unfold cellsOf; simp
      have c2h : cellsOf (H0 ++ [ABlk.rw [], .rw []]) (H0.length + 1) = some [] := by unfold cellsOf; simp
      obtain ⟨wa, G1, ap1, A1, ba1, la1, pa1⟩ := copy_bytes c1h (ba.mono _) na
      obtain ⟨wb, G2, ap2, A2, bb2, lb2, pb2⟩ := copy_bytes (A1.cells c2h) ((Adds.trans ⟨_, rfl⟩ A1 : Adds H0 G1).bs bb') nb'
      have A12 : Adds H0 G2 := (Adds.trans ⟨_, rfl⟩ A1 : Adds H0 G1).trans A2
      obtain ⟨X, hX⟩ := A12
      have boG := bo1.adds X
      rw [← hX] at boG
      have lenG1 := A1.len
      have lenG2 := A2.len
      simp only [List.length_append, List.length_cons, List.length_nil] at lenG1
      have ltF : ∀ b, F b → b < H0.length := bo1.l.m.lt
      have ltG : ∀ b, G b → b < H0.length := bo1.lq.m.lt
      obtain ⟨H1, m1, st1, _, ea⟩ := rinCrash boG.l.m (A2.bs ba1) bb2 ua ub la1 lb2 (fun b hb => ⟨by have := (pa1 b hb).1; omega, fun hf => by have := ltF b hf; have := (pa1 b hb).2; simp only [List.length_append, List.length_cons, List.length_nil] at this; omega⟩) (fun b hb => ⟨(pb2 b hb).1, fun hf => by have := ltF b hf; have := (pb2 b hb).2; omega⟩)
      obtain ⟨lla, lq1, dis1⟩ := both_a boG.l boG.lq boG.dis m1 st1
      have A0 : Adds H0 G2 := ⟨X, hX⟩
      have cG1 := (Adds.trans ⟨_, rfl⟩ A1 : Adds H0 G1).cells cc
      have cG2 := A0.cells cc
      have cc1 := st1.1.cells cG2 nF
      have bq0 : BS H1 s4 za := lla.old.bs ba0
      have bq1 : BS H1 s5 zb := lla.old.bs bb0
      obtain ⟨H2, m2, st2, _, eb⟩ := rqnCrash lq1.m bq0 bq1 ua ub (fun b hb hg => by have := datc_lt f4 b hb; have := lq1.out b hg; omega) (fun b hb hg => by have := datc_lt f5 b hb; have := lq1.out b hg; omega)
      obtain ⟨la2, lq2, dis2⟩ := both_b lla lq1 dis1 m2 st2
      have cc2 := st2.1.cells cc1 nG
      have bb : Both h0 H2 p pq (i + 1) _ _ F G := ⟨la2, lq2, dis2, bo0.sim.crash za zb, by show (crashS _ _).length ≤ _; rw [crashS_len]; exact bo.la, by show (crashS _ _).length ≤ _; rw [crashS_len]; exact bo.lb⟩
      have eN := rinDown bb.l.m
      have eD := rinDone bb.l.m
      have eL0 := rinLen bb.l.m 0
      have eL1 := rinLen bb.l.m 1
      have eL2 := rinLen bb.l.m 2
      obtain ⟨g1, g2, g3⟩ := dk_len bb.sim
      rw [bb.sim.down] at eN
      rw [bb.sim.done] at eD
      rw [g1] at eL0
      rw [g2] at eL1
      rw [g3, show ((0 : Nat) : Int) = 0 from rfl] at eL2
      obtain ⟨q0, q1, v0, v1, t0, t1, sp, sa, sb⟩ := see_of bb.lq.m
      have ih := fun j10 j11 j12 j13 j14 j69 j70 j71 j72 j73 j74 j75 j76 j77 j78 j79 j80 j81 j82 j83 j84 j85 j86 j87 j88 j89 j90 j91 j92 j93 j94 j95 j96 j97 j98 j99 j100 j101 j102 j103 j104 j105 j106 j107 j108 j109 j110 j111 j112 j113 j114 j115 j116 j117 j118 j119 j120 j121 j122 j123 j124 j125 j126 j127 j128 j129 j130 j131 j132 j133 j134 j135 j136 j137 j138 j139 j140 j141 j142 j143 j144 j145 j146 j147 j148 j149 j150 j151 j152 j153 j154 j155 j156 j157 j158 j159 j160 j161 j162 j163 j164 j165 j166 j167 j168 j169 j170 j171 j172 j173 j174 j175 j176 j177 j178 j179 j180 j181 j182 j183 j184 j185 j186 j187 j188 j189 j190 j191 j192 j193 j194 j195 j196 j197 j198 j199 j200 j201 j202 j203 j204 j205 j206 j207 j208 j209 j210 j211 j212 j213 j214 j215 j216 j217 j218 j219 j220 j221 j222 => ih H2 _ _ _ _ j10 j11 j12 j13 j14 j69 j70 j71 j72 j73 j74 j75 j76 j77 j78 j79 j80 j81 j82 j83 j84 j85 j86 j87 j88 j89 j90 j91 j92 j93 j94 j95 j96 j97 j98 j99 j100 j101 j102 j103 j104 j105 j106 j107 j108 j109 j110 j111 j112 j113 j114 j115 j116 j117 j118 j119 j120 j121 j122 j123 j124 j125 j126 j127 j128 j129 j130 j131 j132 j133 j134 j135 j136 j137 j138 j139 j140 j141 j142 j143 j144 j145 j146 j147 j148 j149 j150 j151 j152 j153 j154 j155 j156 j157 j158 j159 j160 j161 j162 j163 j164 j165 j166 j167 j168 j169 j170 j171 j172 j173 j174 j175 j176 j177 j178 j179 j180 j181 j182 j183 j184 j185 j186 j187 j188 j189 j190 j191 j192 j193 j194 j195 j196 j197 j198 j199 j200 j201 j202 j203 j204 j205 j206 j207 j208 j209 j210 j211 j212 j213 j214 j215 j216 j217 j218 j219 j220 j221 j222 bb
      rw [lo]
      unfold l3x0
      simp -implicitDefEqProofs (maxSteps := 5000000) only [go_sem, Nat.reduceShiftRight, Nat.reduceAnd, Nat.reduceBNe, Int.reduceEq, Nat.reduceAdd, Nat.reduceSub, Nat.reduceMul, Nat.reduceLeDiff, reduceIte, reduceCtorEq, Nat.reduceBEq, Nat.reduceEqDiff, wrap64, runC_loop, runC_range, callF_fn, callV_fn, callV_yld, yield_eq, yieldBody, yieldRaw, roundMid, roundEnd, rangeEnd, Bool.not_not, put_cons, put_nil, trim_same, at_zero, at_add, set_zero, set_add, store_one, write_zero, write_add, write_head, write_succ, splice_one, splice_more, List.drop_nil, List.take_nil, cell_int, cell_bool, fillS, splice_one, idxA, Ex.isNormal, List.set_nil, List.length_set, List.all_cons, List.all_nil, Bool.and_self, and_self, true_and, and_true, List.getElem?_nil, Int.reduceLT, Int.reduceLE, Int.reduceToNat, Int.toNat_zero, Int.toNat_one, Int.reduceAdd, Int.reduceSub, Int.reduceMul, Int.reduceNeg, Int.reduceBEq, Int.reduceBNe, Int.reduceGE, Int.reduceGT, Nat.reduceLT, trim_keep, under_fn, under_ptr, under_sl, Nat.lt_irrefl, not_lt_add, trim_tail, keepOk, ABlk.vals, Int.cast_ofNat_Int, decide_true, decide_false, List.all_cons, List.all_nil, Nat.zero_mul, Nat.mul_one, Nat.one_mul, o_call, idx_arr, hl, hd, e2, ix, c0, htk, hsz, hcc, c4, c5, e0, cc, nn, nb, n00, eN, eD, eL0, eL1, eL2, sp, sa, sb, n0, n1, n2, cells_old cc, ap1, ap2, ea, eb, cG1, cG2, cc1, cc2]
      exact ih ..
    have n3 : (s0 == 3) = false := by simp [k3]
    by_cases k4 : s0 = 4
    · subst k4
      obtain ⟨H1, m1, st1, ea⟩ := rinArm bo1.l.m s2
      obtain ⟨la1, lq1, dis1⟩ := both_a bo1.l bo1.lq bo1.dis m1 st1
      have cc1 := st1.1.cells cc nF
      obtain ⟨H2, m2, st2, _, eb⟩ := rqnFuse lq1.m s2
      obtain ⟨la2, lq2, dis2⟩ := both_b la1 lq1 dis1 m2 st2
      have cc2 := st2.1.cells cc1 nG
      have bb : Both h0 H2 p pq (i + 1) _ _ F G := ⟨la2, lq2, dis2, bo0.sim.arm s2, bo.la, bo.lb⟩
      have eN := rinDown bb.l.m
      have eD := rinDone bb.l.m
      have eL0 := rinLen bb.l.m 0
      have eL1 := rinLen bb.l.m 1
      have eL2 := rinLen bb.l.m 2
      obtain ⟨g1, g2, g3⟩ := dk_len bb.sim
      rw [bb.sim.down] at eN
      rw [bb.sim.done] at eD
      rw [g1] at eL0
      rw [g2] at eL1
      rw [g3, show ((0 : Nat) : Int) = 0 from rfl] at eL2
      obtain ⟨q0, q1, v0, v1, t0, t1, sp, sa, sb⟩ := see_of bb.lq.m
      have ih := fun j10 j11 j12 j13 j14 j69 j70 j71 j72 j73 j74 j75 j76 j77 j78 j79 j80 j81 j82 j83 j84 j85 j86 j87 j88 j89 j90 j91 j92 j93 j94 j95 j96 j97 j98 j99 j100 j101 j102 j103 j104 j105 j106 j107 j108 j109 j110 j111 j112 j113 j114 j115 j116 j117 j118 j119 j120 j121 j122 j123 j124 j125 j126 j127 j128 j129 j130 j131 j132 j133 j134 j135 j136 j137 j138 j139 j140 j141 j142 j143 j144 j145 j146 j147 j148 j149 j150 j151 j152 j153 j154 j155 j156 j157 j158 j159 j160 j161 j162 j163 j164 j165 j166 j167 j168 j169 j170 j171 j172 j173 j174 j175 j176 j177 j178 j179 j180 j181 j182 j183 j184 j185 j186 j187 j188 j189 j190 j191 j192 j193 j194 j195 j196 j197 j198 j199 j200 j201 j202 j203 j204 j205 j206 j207 j208 j209 j210 j211 j212 j213 j214 j215 j216 j217 j218 j219 j220 j221 j222 => ih H2 _ _ _ _ j10 j11 j12 j13 j14 j69 j70 j71 j72 j73 j74 j75 j76 j77 j78 j79 j80 j81 j82 j83 j84 j85 j86 j87 j88 j89 j90 j91 j92 j93 j94 j95 j96 j97 j98 j99 j100 j101 j102 j103 j104 j105 j106 j107 j108 j109 j110 j111 j112 j113 j114 j115 j116 j117 j118 j119 j120 j121 j122 j123 j124 j125 j126 j127 j128 j129 j130 j131 j132 j133 j134 j135 j136 j137 j138 j139 j140 j141 j142 j143 j144 j145 j146 j147 j148 j149 j150 j151 j152 j153 j154 j155 j156 j157 j158 j159 j160 j161 j162 j163 j164 j165 j166 j167 j168 j169 j170 j171 j172 j173 j174 j175 j176 j177 j178 j179 j180 j181 j182 j183 j184 j185 j186 j187 j188 j189 j190 j191 j192 j193 j194 j195 j196 j197 j198 j199 j200 j201 j202 j203 j204 j205 j206 j207 j208 j209 j210 j211 j212 j213 j214 j215 j216 j217 j218 j219 j220 j221 j222 bb
      rw [lo]
      unfold l3x0
      simp -implicitDefEqProofs (maxSteps := 5000000) only [go_sem, Nat.reduceShiftRight, Nat.reduceAnd, Nat.reduceBNe, Int.reduceEq, Nat.reduceAdd, Nat.reduceSub, Nat.reduceMul, Nat.reduceLeDiff, reduceIte, reduceCtorEq, Nat.reduceBEq, Nat.reduceEqDiff, wrap64, runC_loop, runC_range, callF_fn, callV_fn, callV_yld, yield_eq, yieldBody, yieldRaw, roundMid, roundEnd, rangeEnd, Bool.not_not, put_cons, put_nil, trim_same, at_zero, at_add, set_zero, set_add, store_one, write_zero, write_add, write_head, write_succ, splice_one, splice_more, List.drop_nil, List.take_nil, cell_int, cell_bool, fillS, splice_one, idxA, Ex.isNormal, List.set_nil, List.length_set, List.all_cons, List.all_nil, Bool.and_self, and_self, true_and, and_true, List.getElem?_nil, Int.reduceLT, Int.reduceLE, Int.reduceToNat, Int.toNat_zero, Int.toNat_one, Int.reduceAdd, Int.reduceSub, Int.reduceMul, Int.reduceNeg, Int.reduceBEq, Int.reduceBNe, Int.reduceGE, Int.reduceGT, Nat.reduceLT, trim_keep, under_fn, under_ptr, under_sl, Nat.lt_irrefl, not_lt_add, trim_tail, keepOk, ABlk.vals, Int.cast_ofNat_Int, decide_true, decide_false, List.all_cons, List.all_nil, Nat.zero_mul, Nat.mul_one, Nat.one_mul, o_call, idx_arr, hl, hd, e2, ix, c0, htk, hsz, hcc, c4, c5, e0, cc, nn, nb, n00, eN, eD, eL0, eL1, eL2, sp, sa, sb, n0, n1, n2, n3, ea, eb, store_one, cc1, cc2]
      exact ih ..
    have n4 : (s0 == 4) = false := by simp [k4]
    have bb := bo1
    have eN := rinDown bb.l.m
    have eD := rinDone bb.l.m
    have eL0 := rinLen bb.l.m 0
    have eL1 := rinLen bb.l.m 1
    have eL2 := rinLen bb.l.m 2
    obtain ⟨g1, g2, g3⟩ := dk_len bb.sim
    rw [bb.sim.down] at eN
    rw [bb.sim.done] at eD
    rw [g1] at eL0
    rw [g2] at eL1
    rw [g3, show ((0 : Nat) : Int) = 0 from rfl] at eL2
    obtain ⟨q0, q1, v0, v1, t0, t1, sp, sa, sb⟩ := see_of bb.lq.m
    have ih := fun j10 j11 j12 j13 j14 j69 j70 j71 j72 j73 j74 j75 j76 j77 j78 j79 j80 j81 j82 j83 j84 j85 j86 j87 j88 j89 j90 j91 j92 j93 j94 j95 j96 j97 j98 j99 j100 j101 j102 j103 j104 j105 j106 j107 j108 j109 j110 j111 j112 j113 j114 j115 j116 j117 j118 j119 j120 j121 j122 j123 j124 j125 j126 j127 j128 j129 j130 j131 j132 j133 j134 j135 j136 j137 j138 j139 j140 j141 j142 j143 j144 j145 j146 j147 j148 j149 j150 j151 j152 j153 j154 j155 j156 j157 j158 j159 j160 j161 j162 j163 j164 j165 j166 j167 j168 j169 j170 j171 j172 j173 j174 j175 j176 j177 j178 j179 j180 j181 j182 j183 j184 j185 j186 j187 j188 j189 j190 j191 j192 j193 j194 j195 j196 j197 j198 j199 j200 j201 j202 j203 j204 j205 j206 j207 j208 j209 j210 j211 j212 j213 j214 j215 j216 j217 j218 j219 j220 j221 j222 => ih _ _ _ _ _ j10 j11 j12 j13 j14 j69 j70 j71 j72 j73 j74 j75 j76 j77 j78 j79 j80 j81 j82 j83 j84 j85 j86 j87 j88 j89 j90 j91 j92 j93 j94 j95 j96 j97 j98 j99 j100 j101 j102 j103 j104 j105 j106 j107 j108 j109 j110 j111 j112 j113 j114 j115 j116 j117 j118 j119 j120 j121 j122 j123 j124 j125 j126 j127 j128 j129 j130 j131 j132 j133 j134 j135 j136 j137 j138 j139 j140 j141 j142 j143 j144 j145 j146 j147 j148 j149 j150 j151 j152 j153 j154 j155 j156 j157 j158 j159 j160 j161 j162 j163 j164 j165 j166 j167 j168 j169 j170 j171 j172 j173 j174 j175 j176 j177 j178 j179 j180 j181 j182 j183 j184 j185 j186 j187 j188 j189 j190 j191 j192 j193 j194 j195 j196 j197 j198 j199 j200 j201 j202 j203 j204 j205 j206 j207 j208 j209 j210 j211 j212 j213 j214 j215 j216 j217 j218 j219 j220 j221 j222 bb
    rw [lo]
    unfold l3x0
    simp -implicitDefEqProofs (maxSteps := 5000000) only [go_sem, Nat.reduceShiftRight, Nat.reduceAnd, Nat.reduceBNe, Int.reduceEq, Nat.reduceAdd, Nat.reduceSub, Nat.reduceMul, Nat.reduceLeDiff, reduceIte, reduceCtorEq, Nat.reduceBEq, Nat.reduceEqDiff, wrap64, runC_loop, runC_range, callF_fn, callV_fn, callV_yld, yield_eq, yieldBody, yieldRaw, roundMid, roundEnd, rangeEnd, Bool.not_not, put_cons, put_nil, trim_same, at_zero, at_add, set_zero, set_add, store_one, write_zero, write_add, write_head, write_succ, splice_one, splice_more, List.drop_nil, List.take_nil, cell_int, cell_bool, fillS, splice_one, idxA, Ex.isNormal, List.set_nil, List.length_set, List.all_cons, List.all_nil, Bool.and_self, and_self, true_and, and_true, List.getElem?_nil, Int.reduceLT, Int.reduceLE, Int.reduceToNat, Int.toNat_zero, Int.toNat_one, Int.reduceAdd, Int.reduceSub, Int.reduceMul, Int.reduceNeg, Int.reduceBEq, Int.reduceBNe, Int.reduceGE, Int.reduceGT, Nat.reduceLT, trim_keep, under_fn, under_ptr, under_sl, Nat.lt_irrefl, not_lt_add, trim_tail, keepOk, ABlk.vals, Int.cast_ofNat_Int, decide_true, decide_false, List.all_cons, List.all_nil, Nat.zero_mul, Nat.mul_one, Nat.one_mul, o_call, idx_arr, hl, hd, e2, ix, c0, htk, hsz, hcc, c4, c5, e0, cc, nn, nb, n00, eN, eD, eL0, eL1, eL2, sp, sa, sb, n0, n1, n2, n3, n4]
    exact ih ..
end Go.Proofs.Ythjkfincekckhaa.G04

