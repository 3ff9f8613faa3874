/- What the functions that RigPlays reaches answer, for every argument. No condition but those in each statement. -/
import Derived.Test.YthjkfincekckhaaQ6
set_option linter.unusedSimpArgs false
set_option linter.unusedVariables false
set_option linter.unusedSectionVars false
set_option maxRecDepth 10000
namespace Go.Proofs.Ythjkfincekckhaa.G04
open Go Go.Proofs.Ythjkfincekckhaa.Eng
/-- Both behind a crash: nothing is loose any more. -/
structure End (h0 H : AHeap) (p pq c : Nat) (r q : RgS) (F G : Nat → Prop) : Prop where
  b : Both h0 H p pq c r q F G
  va : ∀ s ∈ q.a, s.vers = []
  vb : ∀ s ∈ q.b, s.vers = []
  dn : r.down = false
/-- What both tell of a sector. -/
theorem End.see {h0 H : AHeap} {p pq c : Nat} {r q : RgS} {F G : Nat → Prop} (e : End h0 H p pq c r q F G) {dev : Int} (hd : dev = 0 ∨ dev = 1) : ∃ q0 q1 o qd s0 v0, cellsOf H pq = some [.ptr q0 0, .ptr q1 0, .int .i64 q.fuse, .bool q.down, .int .i64 q.done] ∧ idxAddrA 2 1 (.ptr pq 0) (.int .i64 dev) = some (.ptr pq o) ∧ ([.ptr q0 0, .ptr q1 0, .int .i64 q.fuse, .bool q.down, .int .i64 q.done] : List AV)[o]? = some (.ptr qd 0) ∧ cellsOf H qd = some [.sl s0 0 64 (r.dk dev).length (r.dk dev).length true, v0] ∧ (r.dk dev).length ≤ 60 ∧
    ∀ n : Nat, n < (r.dk dev).length → ∃ z cs, r.read dev (n : Int) = (z, 0) ∧ z.length = 64 ∧ cellsOf H s0 = some cs ∧ n * 64 + 64 ≤ cs.length ∧ (cs.drop (n * 64)).take 64 = u8s z := by
  obtain ⟨q0, q1, s0, v0, s1, v1, h1, h2, h3, h4, h5⟩ := rqnSee e.b.lq.m
  have ok := e.b.l.m.ok
  rcases hd with rfl | rfl
  · have ek : r.dk 0 = q.a := by show r.a = _; exact e.b.sim.a
    refine ⟨q0, q1, 0, q0, s0, v0, h1, rfl, rfl, by rw [ek]; exact h2, by rw [ek, ← e.b.sim.a]; exact e.b.la, fun n hn => ?_⟩
    have hn' : n < q.a.length := by rw [← ek]; exact hn
    obtain ⟨cs, c1, c2, c3⟩ := h4 n hn' (e.va _ (List.getElem_mem hn'))
    have er : r.read 0 (n : Int) = ((q.a[n]'hn').last, 0) := by
      unfold RgS.read
      rw [if_pos ⟨by omega, by omega⟩, e.dn, ek, Int.toNat_natCast, List.getElem?_eq_getElem hn']; rfl
    refine ⟨_, cs, er, ?_, c1, c2, c3⟩
    have := (ok.1 (q.a[n]'hn') (by rw [e.b.sim.a]; exact List.getElem_mem hn')).last.1
    exact this
  · have ek : r.dk 1 = q.b := by show r.b = _; exact e.b.sim.b
    refine ⟨q0, q1, 1, q1, s1, v1, h1, rfl, rfl, by rw [ek]; exact h3, by rw [ek, ← e.b.sim.b]; exact e.b.lb, fun n hn => ?_⟩
    have hn' : n < q.b.length := by rw [← ek]; exact hn
    obtain ⟨cs, c1, c2, c3⟩ := h5 n hn' (e.vb _ (List.getElem_mem hn'))
    have er : r.read 1 (n : Int) = ((q.b[n]'hn').last, 0) := by
      unfold RgS.read
      rw [if_pos ⟨by omega, by omega⟩, e.dn, ek, Int.toNat_natCast, List.getElem?_eq_getElem hn']; rfl
    refine ⟨_, cs, er, ?_, c1, c2, c3⟩
    exact (ok.2.1 (q.b[n]'hn') (by rw [e.b.sim.b]; exact List.getElem_mem hn')).last.1
theorem End.adds {h0 H : AHeap} {p pq c : Nat} {r q : RgS} {F G : Nat → Prop} (e : End h0 H p pq c r q F G) (B : AHeap) : End h0 (H ++ B) p pq c r q F G := ⟨e.b.adds B, e.va, e.vb, e.dn⟩
set_option maxHeartbeats 8000000 in
theorem playsL1 {h0 : AHeap} {p pq c : Nat} {r q : RgS} {F G : Nat → Prop} {dev : Int} (hdev : dev = 0 ∨ dev = 1) (x0 x1 x2 x3 x6 x8 x9 x10 x11 x12 x13 x14 x19 x20 x21 x22 x23 x24 x25 x26 x27 x28 x29 x30 x31 x32 x33 x34 x35 x36 x37 x38 x39 x40 x41 x42 x43 x44 x45 x46 x47 x48 x49 x50 x51 x52 x53 x54 x55 x56 x57 x58 x59 x60 x61 x62 x63 x64 x65 x66 x67 x68 x69 x70 x71 x72 x73 x74 x75 x76 x77 x78 x79 x80 x81 x82 x83 x84 x85 x86 x87 x88 x89 x90 x91 x92 x93 x94 x95 x96 x97 x98 x99 x100 x101 x102 x103 x104 x105 x106 x107 x108 x109 x110 x111 x112 x113 x114 x115 x116 x117 x118 x119 x120 x121 x122 x123 x124 x125 x126 x127 x128 x129 x130 x131 x132 x133 x134 x135 x136 x137 x138 x139 x140 x141 x142 x143 x144 x145 x146 x147 x148 x149 x150 x151 x152 x153 x154 x155 x156 x157 x158 x159 x160 x161 x162 x163 x164 x165 x166 x167 x168 x169 x170 x171 x172 x173 x174 x175 x176 x177 x178 x179 x180 x181 x182 x183 x184 x185 x186 x187 x188 x189 x190 x191 x192 x193 x194 x195 x196 x197 x198 x199 x200 x201 x202 x203 x204 x205 x206 x207 x208 x209 x210 x211 x212 x213 x214 x215 x216 x217 x218 x219 x220 x221 x222 x223 x224 x225 x226 x227 x228 x229 x230 x231 x232 x233 x273 : AV) : ∀ (k i : Nat) (H : AHeap) (j17 j18 j234 j235 j236 j237 j238 j239 j240 j241 j242 j243 j244 j245 j246 j247 j248 j249 j250 j251 j252 j253 j254 j255 j256 j257 j258 j259 j260 j261 j262 j263 j264 j265 j266 j267 j268 j269 j270 j271 j272 : AV), End h0 H p pq c r q F G → i + k = (r.dk dev).length →
    Outs (LP l3x1 [x0, x1, x2, x3, .bool false, .ptr p 0, x6, .ptr pq 0, x8, x9, x10, x11, x12, x13, x14, .int .i64 dev, .int .i64 (i : Int), j17, j18, x19, x20, x21, x22, x23, x24, x25, x26, x27, x28, x29, x30, x31, x32, x33, x34, x35, x36, x37, x38, x39, x40, x41, x42, x43, x44, x45, x46, x47, x48, x49, x50, x51, x52, x53, x54, x55, x56, x57, x58, x59, x60, x61, x62, x63, x64, x65, x66, x67, x68, x69, x70, x71, x72, x73, x74, x75, x76, x77, x78, x79, x80, x81, x82, x83, x84, x85, x86, x87, x88, x89, x90, x91, x92, x93, x94, x95, x96, x97, x98, x99, x100, x101, x102, x103, x104, x105, x106, x107, x108, x109, x110, x111, x112, x113, x114, x115, x116, x117, x118, x119, x120, x121, x122, x123, x124, x125, x126, x127, x128, x129, x130, x131, x132, x133, x134, x135, x136, x137, x138, x139, x140, x141, x142, x143, x144, x145, x146, x147, x148, x149, x150, x151, x152, x153, x154, x155, x156, x157, x158, x159, x160, x161, x162, x163, x164, x165, x166, x167, x168, x169, x170, x171, x172, x173, x174, x175, x176, x177, x178, x179, x180, x181, x182, x183, x184, x185, x186, x187, x188, x189, x190, x191, x192, x193, x194, x195, x196, x197, x198, x199, x200, x201, x202, x203, x204, x205, x206, x207, x208, x209, x210, x211, x212, x213, x214, x215, x216, x217, x218, x219, x220, x221, x222, x223, x224, x225, x226, x227, x228, x229, x230, x231, x232, x233, j234, j235, j236, j237, j238, j239, j240, j241, j242, j243, j244, j245, j246, j247, j248, j249, j250, j251, j252, j253, j254, j255, j256, j257, j258, j259, j260, j261, j262, j263, j264, j265, j266, j267, j268, j269, j270, j271, j272, x273] H) fun e t H' => e = .exit 5 ∧ End h0 H' p pq c r q F G ∧ ∃ k : Nat → AV, t = [x0, x1, x2, x3, .bool false, .ptr p 0, x6, .ptr pq 0, x8, x9, x10, x11, x12, x13, x14, .int .i64 dev, (k 16), (k 17), (k 18), x19, x20, x21, x22, x23, x24, x25, x26, x27, x28, x29, x30, x31, x32, x33, x34, x35, x36, x37, x38, x39, x40, x41, x42, x43, x44, x45, x46, x47, x48, x49, x50, x51, x52, x53, x54, x55, x56, x57, x58, x59, x60, x61, x62, x63, x64, x65, x66, x67, x68, x69, x70, x71, x72, x73, x74, x75, x76, x77, x78, x79, x80, x81, x82, x83, x84, x85, x86, x87, x88, x89, x90, x91, x92, x93, x94, x95, x96, x97, x98, x99, x100, x101, x102, x103, x104, x105, x106, x107, x108, x109, x110, x111, x112, x113, x114, x115, x116, x117, x118, x119, x120, x121, x122, x123, x124, x125, x126, x127, x128, x129, x130, x131, x132, x133, x134, x135, x136, x137, x138, x139, x140, x141, x142, x143, x144, x145, x146, x147, x148, x149, x150, x151, x152, x153, x154, x155, x156, x157, x158, x159, x160, x161, x162, x163, x164, x165, x166, x167, x168, x169, x170, x171, x172, x173, x174, x175, x176, x177, x178, x179, x180, x181, x182, x183, x184, x185, x186, x187, x188, x189, x190, x191, x192, x193, x194, x195, x196, x197, x198, x199, x200, x201, x202, x203, x204, x205, x206, x207, x208, x209, x210, x211, x212, x213, x214, x215, x216, x217, x218, x219, x220, x221, x222, x223, x224, x225, x226, x227, x228, x229, x230, x231, x232, x233, (k 234), (k 235), (k 236), (k 237), (k 238), (k 239), (k 240), (k 241), (k 242), (k 243), (k 244), (k 245), (k 246), (k 247), (k 248), (k 249), (k 250), (k 251), (k 252), (k 253), (k 254), (k 255), (k 256), (k 257), (k 258), (k 259), (k 260), (k 261), (k 262), (k 263), (k 264), (k 265), (k 266), (k 267), (k 268), (k 269), (k 270), (k 271), (k 272), x273] := by
  intro k
  obtain ⟨L, hL⟩ : ∃ L, L = LP l3x1 := ⟨_, rfl⟩
  have lo := loop_open hL
  rw [← hL]
  induction k with
  | zero =>
    intro i H j17 j18 j234 j235 j236 j237 j238 j239 j240 j241 j242 j243 j244 j245 j246 j247 j248 j249 j250 j251 j252 j253 j254 j255 j256 j257 j258 j259 j260 j261 j262 j263 j264 j265 j266 j267 j268 j269 j270 j271 j272 e hi
    obtain rfl : i = (r.dk dev).length := by omega
    obtain ⟨q0, q1, o, qd, s0, v0, p1, p2, p3, p4, p5, p6⟩ := e.see hdev
    have hd : decide (((r.dk dev).length : Int) < ((r.dk dev).length : Int)) = false := by simp
    rw [lo]
    unfold l3x1
    simp -implicitDefEqProofs (maxSteps := 5000000) only [go_sem, Nat.reduceShiftRight, Nat.reduceAnd, Nat.reduceBNe, Int.reduceEq, Nat.reduceAdd, Nat.reduceSub, Nat.reduceMul, Nat.reduceLeDiff, reduceIte, reduceCtorEq, Nat.reduceBEq, Nat.reduceEqDiff, p1, p2, p3, p4, hd, seqR_exit', outs_normal]
    exact ⟨e, exF rfl⟩
  | succ k ih =>
    intro i H j17 j18 j234 j235 j236 j237 j238 j239 j240 j241 j242 j243 j244 j245 j246 j247 j248 j249 j250 j251 j252 j253 j254 j255 j256 j257 j258 j259 j260 j261 j262 j263 j264 j265 j266 j267 j268 j269 j270 j271 j272 e hi
    obtain ⟨q0, q1, o, qd, s0, v0, p1, p2, p3, p4, p5, p6⟩ := e.see hdev
    obtain ⟨z, cs, er, l64, c1, c2, c3⟩ := p6 i (by omega)
    have hd : decide ((i : Int) < ((r.dk dev).length : Int)) = true := decide_eq_true (by omega)
    have e2 : IntKind.i64.wrap ((i : Int) + 1) = ((i + 1 : Nat) : Int) := by rw [wrap64 (by omega) (by omega)]; omega
    have ea := rinRead e.b.l.m dev (i : Int)
    rw [er] at ea
    have w64 : (u8s z).length = 64 := by rw [u8s_len]; exact l64
    have uc := u8s_cell z
    have sp8 := splice_u8 (.int .u8 0) l64 (by omega)
    have tk8 := u8s_take l64
    have ns := ne_same l64
    have ix := idx_nat s0 64 (r.dk dev).length (r.dk dev).length i true .i64 (by omega) (by omega)
    have n00 : ((0 : Int) != 0) = false := rfl
    rw [lo]
    unfold l3x1
    simp -implicitDefEqProofs (maxSteps := 5000000) only [go_sem, Nat.reduceShiftRight, Nat.reduceAnd, Nat.reduceBNe, Int.reduceEq, Nat.reduceAdd, Nat.reduceSub, Nat.reduceMul, Nat.reduceLeDiff, reduceIte, reduceCtorEq, Nat.reduceBEq, Nat.reduceEqDiff, o_call, p1, p2, p3, p4, cells_old p1, cells_old p4, cells_old c1, c2, c3, ix, hd, e2, ea, store_one, write_zero, w64, uc, sp8, tk8, ns, n00, rep_len]
    exact ih (i + 1) _ _ _ _ _ _ _ _ _ _ _ _ _ _ _ _ _ _ _ _ _ _ _ _ _ _ _ _ _ _ _ _ _ _ _ _ _ _ _ _ _ _ (e.adds _) (by omega)
end Go.Proofs.Ythjkfincekckhaa.G04

