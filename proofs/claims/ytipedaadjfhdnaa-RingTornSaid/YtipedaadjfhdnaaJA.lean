/- What the functions that RingTorn reaches answer, for every argument. No condition but those in each statement. -/
import Derived.Test.YtipedaadjfhdnaaIB
import Derived.Test.YtipedaadjfhdnaaGA
import Derived.Test.YtipedaadjfhdnaaRA
import Derived.Test.YtipedaadjfhdnaaE6
set_option linter.unusedSimpArgs false
set_option linter.unusedVariables false
set_option linter.unusedSectionVars false
set_option maxRecDepth 10000
section
namespace Go.Proofs.Ytipedaadjfhdnaa.G06
open Go Go.Proofs.Ytipedaadjfhdnaa.Eng
structure TS (H : AHeap) (v : AV) (L : List (List PrS)) : Prop where
 len : lenSl v = some (.int .i64 L.length)
 row : ∀ (i : Nat) (l : List PrS), L[i]? = some l → ∃ a b cs, idxAddrS 1 v (.int .i64 (i : Int)) = some (.ptr b i) ∧ cellsOf H b = some cs ∧ cs[i]? = some a ∧ i + 1 ≤ cs.length ∧ PS H a l ∧ l.length ≤ 9223372036854775807
 sz : L.length ≤ 9223372036854775807
theorem TS.adds {H H' : AHeap} {v : AV} {L : List (List PrS)} (t : TS H v L) (a : Adds H H') : TS H' v L :=
 ⟨t.len, fun i l hl => by obtain ⟨x, b, cs, h1, h2, h3, h4, h5, h6⟩ := t.row i l hl; exact ⟨x, b, cs, h1, a.cells h2, h3, h4, h5.adds a, h6⟩, t.sz⟩
theorem txns_of {h : AHeap} : ∀ {rows : List (List AV)}, (∀ r ∈ rows, DatR h [.sl [.int .i64, .int .i64]] r) → ∃ (L : List (List PrS)), L.length = rows.length ∧ ∀ (i : Nat) (l : List PrS), L[i]? = some l → ∃ a, rows[i]? = some [a] ∧ PS h a l ∧ l.length ≤ 9223372036854775807
 | [], _ => ⟨[], rfl, fun i l hl => by simp at hl⟩
 | r :: rows, hr => by
  obtain ⟨L, e, hL⟩ := txns_of (rows := rows) fun r hm => hr r (by simp [hm])
  have hd := hr r (by simp)
  cases hd with
  | cons d1 t => cases t with
   | nil =>
    obtain ⟨l, ps, hl, _⟩ := pairs_dat d1
    refine ⟨l :: L, by simp [e], fun i x hx => ?_⟩
    cases i with
    | zero =>
     have : l = x := by simpa using hx
     subst this
     exact ⟨_, rfl, ps, hl⟩
    | succ i => exact hL i x (by simpa using hx)
theorem txns_dat {h : AHeap} {v : AV} (d : DatC h (.sl [.sl [.int .i64, .int .i64]]) v) : ∃ L, TS h v L := by
 obtain ⟨rows, rs, rd, hn⟩ := d.rows
 have rs : RS 1 h v rows := rs
 obtain ⟨L, e, hL⟩ := txns_of rd
 refine ⟨L, by rw [e]; exact rs.len, fun i l hl => ?_, by omega⟩
 obtain ⟨a, ha, ps, hl2⟩ := hL i l hl
 obtain ⟨b, cs, ix, hc, hg, _, hle, _⟩ := RS.idx (by omega) rs ha .i64
 rw [Nat.mul_one] at ix hg hle
 exact ⟨a, b, cs, ix, hc, by have := hg 0 (by omega); simpa using this, hle, ps, hl2⟩
def txI (L : List (List PrS)) : List (List ImS) := L.map fun l => l.map prI
theorem txI_len (L : List (List PrS)) : (txI L).length = L.length := by simp [txI]
theorem txI_get {L : List (List PrS)} {i : Nat} {l : List PrS} (h : L[i]? = some l) : (txI L)[i]? = some (l.map prI) := by unfold txI; rw [List.getElem?_map, h]; rfl
theorem right_good {l : List PrS} {c : Nat} (h : rightS l 5 = true) (hc : 6 ≤ c) : GoodT c (l.map prI) ∧ l.length ≤ 5 := by
 unfold rightS at h
 simp only [Bool.and_eq_true, decide_eq_true_eq] at h
 obtain ⟨h1, h2, h3⟩ := h
 have h3 : l.length ≤ 5 := by omega
 refine ⟨⟨by rw [List.length_map]; exact h2, ?_, prI_b48 l, by rw [List.length_map]; omega⟩, h3⟩
 rw [List.all_map]; exact h1
theorem tot_le : ∀ (T : List (List ImS)), (∀ t ∈ T, t.length ≤ 5) → tot T ≤ 6 * T.length
 | [], _ => Nat.le_refl _
 | t :: T, h => by
  have := h t (by simp)
  have := tot_le T fun x hx => h x (by simp [hx])
  rw [tot_cons, List.length_cons]; omega
section
variable {h0 H : AHeap} {p c : Nat} {r : RgS} {F : Nat → Prop} (li : LI h0 H p c r F)
include li
theorem LI.add {K : AHeap} (a : Adds H K) : LI h0 K p c r F := by obtain ⟨X, rfl⟩ := a; exact li.adds X
theorem LI.up {c' : Nat} (h : c ≤ c') (hb : c' ≤ 1000000000) : LI h0 H p c' r F := ⟨RigIn.up li.m h hb, li.old, li.out⟩
theorem LI.fr {H' : AHeap} {P : Nat → Prop} (a : Fr H H' P) (n : ∀ x, P x → h0.length ≤ x ∧ ¬ F x) : LI h0 H' p c r F :=
 ⟨li.m.fr a fun x hx hp => (n x hp).2 hx, a.old li.old fun x hx hp => (by have := (n x hp).1; omega), li.out⟩
theorem oneRepl (f cc a s : Int) : ∃ v vs K, Adds H K ∧ LI h0 K p c r F ∧ LogH K H.length v (replayS r f cc a s).1.t vs ∧
  (envL prog).call 8 [.ptr p 0, .int .i64 f, .int .i64 cc, .int .i64 a, .int .u32 s] H = some (.tup [.agg [v, .int .i64 (replayS r f cc a s).1.at_, .int .u32 (replayS r f cc a s).1.seq], .int .i64 (replayS r f cc a s).2], K) := by
 obtain ⟨x, rfl, m⟩ := li.m.at
 obtain ⟨v, vs, K1, a1, l1, e1⟩ := replayC m f cc a s
 exact ⟨v, vs, _, a1, li.add a1, l1, e1⟩
theorem oneAppd {f cc a s : Int} (hs : 0 ≤ s ∧ s < 4294967296) {v w : AV} {l : List ImS} {H1 : AHeap} (tw : Two H H1 v w l) (h48 : ∀ x ∈ l, B48 x.b) (hl : l.length ≤ 300) (hn : c + 400 ≤ 1000000000) :
  ∃ H2 F', LI h0 H2 p (c + 400) (appdS r f cc a s l).1 F' ∧ (∀ b, b < H1.length → ¬ F b → H2[b]? = H1[b]?) ∧ H1.length ≤ H2.length ∧ (∀ b, F' b → F b ∨ H1.length ≤ b) ∧
  (envL prog).call 9 [.ptr p 0, .int .i64 f, .int .i64 cc, .int .i64 a, .int .u32 s, v] H1 = some (.tup [.int .i64 (appdS r f cc a s l).2.1, .int .i64 (appdS r f cc a s l).2.2], H2) := by
 have lF := li.m.lt
 have l1 := li.add tw.old
 obtain ⟨x, rfl, m⟩ := l1.m.at
 obtain ⟨n2, H2, F2, hn2, m2, st2, e2⟩ := appdC m (f := f) (c := cc) (a := a) hs tw.ga (fun b hb hf => by have := (tw.ga.out b hb).1; have := lF b hf; omega) h48 (by omega) (by omega)
 have l2 := l1.step m2.rin st2
 exact ⟨H2, F2, LI.up l2 (by omega) hn, fun b hb hf => st2.1.2 b hb hf, st2.1.1, st2.2, e2⟩
end
end Go.Proofs.Ytipedaadjfhdnaa.G06
end
section
namespace Go.Proofs.Ytipedaadjfhdnaa.G06
open Go Go.Proofs.Ytipedaadjfhdnaa.Eng
def secP (p0 : Nat) (L : List (List PrS)) : Nat → Int
 | 0 => (p0 : Int)
 | _ + 1 => (((p0 + tot (txI (L.take 1))) % 50 : Nat) : Int)
theorem take_more {L : List (List PrS)} {i : Nat} {l : List PrS} (h : L[i]? = some l) : txI (L.take (i + 1)) = txI (L.take i) ++ [l.map prI] := by
 unfold txI; rw [List.take_add_one, h, List.map_append]; rfl
theorem take_len (L : List (List PrS)) {i : Nat} (h : i ≤ L.length) : (txI (L.take i)).length = i := by rw [txI_len, List.length_take]; omega
theorem five {L : List (List PrS)} {i : Nat} (h : ∀ l ∈ L.take i, l.length ≤ 5) : ∀ t ∈ txI (L.take i), t.length ≤ 5 := fun t ht => by
 obtain ⟨l, hl, rfl⟩ := List.mem_map.1 ht
 rw [List.length_map]; exact h l hl
end Go.Proofs.Ytipedaadjfhdnaa.G06
end
section
namespace Go.Proofs.Ytipedaadjfhdnaa.G06
open Go Go.Proofs.Ytipedaadjfhdnaa.Eng
theorem copy_b {G : AHeap} {b : Nat} (hb : cellsOf G b = some []) {v : AV} {zs : List Int} (h : BS G v zs) (hn : zs.length ≤ 1000000) : ∃ w G', app (ty 1 false 1 [.int .u8 0]) (.sl b 0 1 0 0 true) v G = some (w, G') ∧ Adds G G' ∧ BS G' w zs ∧ (∀ b o s n l e, w = .sl b o s n l e → n ≤ l) ∧ ∀ b', slb w = some b' → b' < G'.length ∧ (b' = b ∨ G.length ≤ b') := by
 have s := h.src
 have rd : readN G b 0 (0 * 1) = some [] := by unfold readN; rw [hb]; rfl
 obtain ⟨d, hd⟩ : ∃ d, d = ty 1 false 1 [.int .u8 0] := ⟨_, rfl⟩
 have d1 : d.size = 1 := by rw [hd]; rfl
 have d2 : d.bytes = 1 := by rw [hd]; rfl
 rw [← hd]
 cases zs with
 | nil =>
  refine ⟨.sl b 0 1 0 0 true, G, ?_, Adds.refl G, .inr ⟨b, 0, 0, true, [], rfl, hb, fun i z hz => by simp at hz, by simp⟩, fun b o s n l e h => by injection h; omega, fun b' hb' => by injection hb' with hb'; subst hb'; exact ⟨lt_of_cells hb, .inl rfl⟩⟩
  unfold app
  rw [s.sl]
  have sc := s.cells
  simp only [List.length_nil] at sc ⊢
  simp only [Option.bind_some, d1, sc]
  unfold appendV
  simp only [d1]
  rw [if_neg (by omega), if_pos trivial]
 | cons z zs =>
  refine ⟨.sl G.length 0 1 (z :: zs).length (z :: zs).length false, G ++ [.rw (u8s (z :: zs))], ?_, ⟨_, rfl⟩, BS.block (by simp), fun b o s n l e h => by injection h; omega, fun b' hb' => by injection hb' with hb'; subst hb'; exact ⟨by simp, .inr (Nat.le_refl _)⟩⟩
  unfold app
  rw [s.sl]
  have sc := s.cells
  simp only [List.length_cons] at sc hn ⊢
  simp only [Option.bind_some, d1, sc]
  unfold appendV
  simp only [d1, d2]
  rw [if_neg (by omega), if_neg (by omega), if_neg (by omega), if_pos (by unfold roomy; omega), rd]
  simp
section
variable {h0 H : AHeap} {p c : Nat} {r : RgS} {F : Nat → Prop} (li : LI h0 H p c r F)
include li
theorem oneAppd2 {f cc a s : Int} (hs : 0 ≤ s ∧ s < 4294967296) {B : Nat} {w : AV} {l : List ImS} (g : GR 49 H B w (imRows l)) (gF : ∀ b, slb w = some b → ¬ F b) (h48 : ∀ x ∈ l, B48 x.b) (hl : l.length ≤ 300) (hn : c + 400 ≤ 1000000000) :
  ∃ H2 F', LI h0 H2 p (c + 400) (appdS r f cc a s l).1 F' ∧ RStep H F H2 F' ∧
  (envL prog).call 9 [.ptr p 0, .int .i64 f, .int .i64 cc, .int .i64 a, .int .u32 s, w] H = some (.tup [.int .i64 (appdS r f cc a s l).2.1, .int .i64 (appdS r f cc a s l).2.2], H2) := by
 obtain ⟨x, rfl, m⟩ := li.m.at
 obtain ⟨n2, H2, F2, hn2, m2, st2, e2⟩ := appdC m (f := f) (c := cc) (a := a) hs g gF h48 (by omega) (by omega)
 have l2 := li.step m2.rin st2
 exact ⟨H2, F2, LI.up l2 (by omega) hn, st2, e2⟩
end
set_option maxHeartbeats 16000000 in
theorem tornL0 {h0 : AHeap} {v y1 y2 y3 y4 : AV} {bx : Nat} (hb : cellsOf h0 bx = some [v, y1, y2, y3, y4]) {L : List (List PrS)} (ts : TS h0 v L) (hL : L.length ≤ 8) {rp : Nat} (x0 x4 x12 x13 x14 x15 x16 x17 x18 x19 x20 x21 x22 x23 x24 x25 x26 x27 x28 x29 x30 x31 x32 x33 x34 x35 x36 x37 x38 x39 x40 x41 x42 x43 x44 x45 x46 x47 x48 x49 x50 x51 x52 x53 x54 x55 x56 x57 x58 x59 x97 x98 x99 x100 x101 x102 x103 x104 x105 x106 x107 x108 x109 x110 x111 x112 x113 x114 x115 x116 x117 x118 x119 x120 x121 x122 x123 x124 x125 x126 x127 x128 x129 x130 x131 x132 x133 x134 x135 x136 x137 x138 x139 x140 x141 x142 x143 x144 x145 x146 x147 x148 x149 x150 x151 x152 x153 x154 x155 x156 x157 x158 x159 x160 x161 x162 x163 x164 x165 x166 x167 x168 x169 x170 x171 x172 x173 x174 x175 x176 x177 x178 x179 x180 x181 x182 x183 x184 x185 x186 x187 x188 x189 x190 x191 x192 x193 x194 x195 x196 x197 x198 x199 x200 x201 x202 x203 x204 x205 x206 x207 x208 x209 x210 x211 x212 x213 x214 x215 x216 x217 x218 x219 x220 x221 x222 x223 x224 x225 x226 x227 x228 x229 x230 x231 x232 x233 x234 x235 x236 x237 x238 x239 x240 x241 x242 x243 x244 x245 x246 x247 x248 x249 x250 x251 x252 x253 x254 x255 : AV) : ∀ (k i : Nat) (H : AHeap) (r : RgS) (F : Nat → Prop) (j8 j9 j10 j11 j60 j61 j62 j63 j64 j65 j66 j67 j68 j69 j70 j71 j72 j73 j74 j75 j76 j77 j78 j79 j80 j81 j82 j83 j84 j85 j86 j87 j88 j89 j90 j91 j92 j93 j94 j95 j96 : AV), LI h0 H rp (i * 400) r F → Frs r 4 60 50 9 (txI (L.take i)) → (∀ l ∈ L.take i, l.length ≤ 5) → i + k = L.length →
  Outs (LP l7x0 [x0, .ptr bx 0, .bool false, .ptr rp 0, x4, .int .i64 (((50 + tot (txI (L.take i))) % 60 : Nat) : Int), .int .u32 (9 + (i : Int)), .int .i64 (i : Int), j8, j9, j10, j11, x12, x13, x14, x15, x16, x17, x18, x19, x20, x21, x22, x23, x24, x25, x26, x27, x28, x29, x30, x31, x32, x33, x34, x35, x36, x37, x38, x39, x40, x41, x42, x43, x44, x45, x46, x47, x48, x49, x50, x51, x52, x53, x54, x55, x56, x57, x58, x59, j60, j61, j62, j63, j64, j65, j66, j67, j68, j69, j70, j71, j72, j73, j74, j75, j76, j77, j78, j79, j80, j81, j82, j83, j84, j85, j86, j87, j88, j89, j90, j91, j92, j93, j94, j95, j96, x97, x98, x99, x100, x101, x102, x103, x104, x105, x106, x107, x108, x109, x110, x111, x112, x113, x114, x115, x116, x117, x118, x119, x120, x121, x122, x123, x124, x125, x126, x127, x128, x129, x130, x131, x132, x133, x134, x135, x136, x137, x138, x139, x140, x141, x142, x143, x144, x145, x146, x147, x148, x149, x150, x151, x152, x153, x154, x155, x156, x157, x158, x159, x160, x161, x162, x163, x164, x165, x166, x167, x168, x169, x170, x171, x172, x173, x174, x175, x176, x177, x178, x179, x180, x181, x182, x183, x184, x185, x186, x187, x188, x189, x190, x191, x192, x193, x194, x195, x196, x197, x198, x199, x200, x201, x202, x203, x204, x205, x206, x207, x208, x209, x210, x211, x212, x213, x214, x215, x216, x217, x218, x219, x220, x221, x222, x223, x224, x225, x226, x227, x228, x229, x230, x231, x232, x233, x234, x235, x236, x237, x238, x239, x240, x241, x242, x243, x244, x245, x246, x247, x248, x249, x250, x251, x252, x253, x254, x255] H) fun e t H' => (e = .exit 0 ∧ ∃ r' F', LI h0 H' rp (L.length * 400) r' F' ∧ Frs r' 4 60 50 9 (txI L) ∧ (∀ l ∈ L, l.length ≤ 5) ∧ ∃ fv : Nat → AV, t = [x0, .ptr bx 0, (fv 2), .ptr rp 0, x4, .int .i64 (((50 + tot (txI L)) % 60 : Nat) : Int), .int .u32 (9 + (L.length : Int)), (fv 7), (fv 8), (fv 9), (fv 10), (fv 11), x12, x13, x14, x15, x16, x17, x18, x19, x20, x21, x22, x23, x24, x25, x26, x27, x28, x29, x30, x31, x32, x33, x34, x35, x36, x37, x38, x39, x40, x41, x42, x43, x44, x45, x46, x47, x48, x49, x50, x51, x52, x53, x54, x55, x56, x57, x58, x59, (fv 60), (fv 61), (fv 62), (fv 63), (fv 64), (fv 65), (fv 66), (fv 67), (fv 68), (fv 69), (fv 70), (fv 71), (fv 72), (fv 73), (fv 74), (fv 75), (fv 76), (fv 77), (fv 78), (fv 79), (fv 80), (fv 81), (fv 82), (fv 83), (fv 84), (fv 85), (fv 86), (fv 87), (fv 88), (fv 89), (fv 90), (fv 91), (fv 92), (fv 93), (fv 94), (fv 95), (fv 96), x97, x98, x99, x100, x101, x102, x103, x104, x105, x106, x107, x108, x109, x110, x111, x112, x113, x114, x115, x116, x117, x118, x119, x120, x121, x122, x123, x124, x125, x126, x127, x128, x129, x130, x131, x132, x133, x134, x135, x136, x137, x138, x139, x140, x141, x142, x143, x144, x145, x146, x147, x148, x149, x150, x151, x152, x153, x154, x155, x156, x157, x158, x159, x160, x161, x162, x163, x164, x165, x166, x167, x168, x169, x170, x171, x172, x173, x174, x175, x176, x177, x178, x179, x180, x181, x182, x183, x184, x185, x186, x187, x188, x189, x190, x191, x192, x193, x194, x195, x196, x197, x198, x199, x200, x201, x202, x203, x204, x205, x206, x207, x208, x209, x210, x211, x212, x213, x214, x215, x216, x217, x218, x219, x220, x221, x222, x223, x224, x225, x226, x227, x228, x229, x230, x231, x232, x233, x234, x235, x236, x237, x238, x239, x240, x241, x242, x243, x244, x245, x246, x247, x248, x249, x250, x251, x252, x253, x254, x255]) ∨ (e = .ret ∧ ∃ fv : Nat → AV, t = [x0, .ptr bx 0, (fv 2), .ptr rp 0, x4, (fv 5), (fv 6), (fv 7), (fv 8), (fv 9), (fv 10), (fv 11), x12, x13, x14, x15, x16, x17, x18, x19, x20, x21, x22, x23, x24, x25, x26, x27, x28, x29, x30, x31, x32, x33, x34, x35, x36, x37, x38, x39, x40, x41, x42, x43, x44, x45, x46, x47, x48, x49, x50, x51, x52, x53, x54, x55, x56, x57, x58, x59, (fv 60), (fv 61), (fv 62), (fv 63), (fv 64), (fv 65), (fv 66), (fv 67), (fv 68), (fv 69), (fv 70), (fv 71), (fv 72), (fv 73), (fv 74), (fv 75), (fv 76), (fv 77), (fv 78), (fv 79), (fv 80), (fv 81), (fv 82), (fv 83), (fv 84), (fv 85), (fv 86), (fv 87), (fv 88), (fv 89), (fv 90), (fv 91), (fv 92), (fv 93), (fv 94), (fv 95), (fv 96), x97, x98, x99, x100, x101, x102, x103, x104, x105, x106, x107, x108, x109, x110, x111, x112, x113, x114, x115, x116, x117, x118, x119, x120, x121, x122, x123, x124, x125, x126, x127, x128, x129, x130, x131, x132, x133, x134, x135, x136, x137, x138, x139, x140, x141, x142, x143, x144, x145, x146, x147, x148, x149, x150, x151, x152, x153, x154, x155, x156, x157, x158, x159, x160, x161, x162, x163, x164, x165, x166, x167, x168, x169, x170, x171, x172, x173, x174, x175, x176, x177, x178, x179, x180, x181, x182, x183, x184, x185, x186, x187, x188, x189, x190, x191, x192, x193, x194, x195, x196, x197, x198, x199, x200, x201, x202, x203, x204, x205, x206, x207, x208, x209, x210, x211, x212, x213, x214, x215, x216, x217, x218, x219, x220, x221, x222, x223, x224, x225, x226, x227, x228, x229, x230, x231, x232, x233, x234, x235, x236, x237, x238, x239, x240, x241, x242, x243, x244, x245, x246, x247, x248, x249, x250, x251, x252, x253, x254, x255] ∧ fv 2 = .bool true) := by
 intro k
 obtain ⟨L0, hL0⟩ : ∃ L, L = LP l7x0 := ⟨_, rfl⟩
 have lo := loop_open hL0
 have wl := ts.len
 rw [← hL0]
 induction k with
 | zero =>
  intro i H r F j8 j9 j10 j11 j60 j61 j62 j63 j64 j65 j66 j67 j68 j69 j70 j71 j72 j73 j74 j75 j76 j77 j78 j79 j80 j81 j82 j83 j84 j85 j86 j87 j88 j89 j90 j91 j92 j93 j94 j95 j96 li fr h5 hi
  obtain rfl : i = L.length := by omega
  have hd : decide ((L.length : Int) < (L.length : Int)) = false := by simp
  rw [List.take_length] at fr h5
  rw [List.take_length, lo]
  unfold l7x0
  have hx1 := li.old.cells hb
  simp -implicitDefEqProofs (maxSteps := 5000000) only [go_sem, Nat.reduceShiftRight, Nat.reduceAnd, Nat.reduceBNe, Int.reduceEq, Nat.reduceAdd, Nat.reduceSub, Nat.reduceMul, Nat.reduceLeDiff, reduceIte, reduceCtorEq, Nat.reduceBEq, Nat.reduceEqDiff, hx1, wl, hd, seqR_exit', outs_normal]
  exact .inl ⟨r, F, li, fr, h5, exF rfl⟩
 | succ k ih =>
  intro i H r F j8 j9 j10 j11 j60 j61 j62 j63 j64 j65 j66 j67 j68 j69 j70 j71 j72 j73 j74 j75 j76 j77 j78 j79 j80 j81 j82 j83 j84 j85 j86 j87 j88 j89 j90 j91 j92 j93 j94 j95 j96 li fr h5 hi
  have hlt : i < L.length := by omega
  have hd : decide ((i : Int) < (L.length : Int)) = true := decide_eq_true (by omega)
  have e2 : IntKind.i64.wrap ((i : Int) + 1) = ((i + 1 : Nat) : Int) := by rw [wrap64 (by omega) (by omega)]; omega
  have hx := List.getElem?_eq_getElem hlt
  generalize L[i] = l at hx
  obtain ⟨a, b, cs, ix, hc0, ha, hle, ps, pn⟩ := ts.row i l hx
  have hc := li.old.cells hc0
  have hx1 := li.old.cells hb
  have psH := ps.adds li.old
  have er := rightC psH pn 5
  have wl2 := psH.len
  by_cases hr : rightS l 5 = true
  ·rw [hr] at er
   obtain ⟨g, l5⟩ := right_good (c := 60) hr (by omega)
   obtain ⟨u, u', K, tw, ei⟩ := imagesC psH (by omega)
   have tl := tot_le _ (five h5)
   rw [take_len L (by omega)] at tl
   obtain ⟨H2, F2, l2, keep, len2, new2, ea⟩ := oneAppd li (f := ((4 : Nat) : Int)) (cc := ((60 : Nat) : Int)) (a := (((50 + tot (txI (L.take i))) % 60 : Nat) : Int)) (s := 9 + (i : Int)) (by omega) tw (prI_b48 l) (by rw [List.length_map]; omega) (by omega)
   have ap := append_frs fr g (by rw [List.length_map]; omega)
   rw [take_len L (by omega)] at ap
   obtain ⟨ap1, ap2⟩ := ap
   rw [← take_more hx] at ap1 ap2
   generalize appdS r ((4 : Nat) : Int) ((60 : Nat) : Int) (((50 + tot (txI (L.take i))) % 60 : Nat) : Int) (9 + (i : Int)) (l.map prI) = A at *
   obtain ⟨A1, A2, A3⟩ := A
   simp only [Prod.mk.injEq] at ap1 ap2 ea l2
   obtain ⟨rfl, rfl⟩ := ap1
   rw [show ((4 : Nat) : Int) = 4 from rfl, show ((60 : Nat) : Int) = 60 from rfl] at ea
   have hc2 := l2.old.cells hc0
   have hck := (tw.old.cells hc)
   have hxk := tw.old.cells hx1
   have hx2 := l2.old.cells hb
   have n00 : ((0 : Int) != 0) = false := rfl
   have w3 : IntKind.u32.wrap (9 + (i : Int) + 1) = 9 + ((i + 1 : Nat) : Int) := by show (9 + (i : Int) + 1) % 4294967296 = _; omega
   have h5' : ∀ x ∈ L.take (i + 1), x.length ≤ 5 := fun x hx2 => by
    rw [List.take_add_one, hx] at hx2
    rcases List.mem_append.1 hx2 with q | q
    ·exact h5 x q
    ·rw [show x = l by simpa using q]; exact l5
   have l2' : LI h0 H2 rp ((i + 1) * 400) A1 F2 := l2.up (by omega) (by omega)
   have key := fun j8 j9 j10 j11 j60 j61 j62 j63 j64 j65 j66 j67 j68 j69 j70 j71 j72 j73 j74 j75 j76 j77 j78 j79 j80 j81 j82 j83 j84 j85 j86 j87 j88 j89 j90 j91 j92 j93 j94 j95 j96 => ih (i + 1) H2 A1 F2 j8 j9 j10 j11 j60 j61 j62 j63 j64 j65 j66 j67 j68 j69 j70 j71 j72 j73 j74 j75 j76 j77 j78 j79 j80 j81 j82 j83 j84 j85 j86 j87 j88 j89 j90 j91 j92 j93 j94 j95 j96 l2' ap2 h5' (by omega)
   generalize (((50 + tot (txI (L.take (i + 1)))) % 60 : Nat) : Int) = pe at *
   generalize (((50 + tot (txI (L.take i))) % 60 : Nat) : Int) = pb at *
   rw [lo]
   unfold l7x0
   simp -implicitDefEqProofs (maxSteps := 5000000) only [go_sem, Nat.reduceShiftRight, Nat.reduceAnd, Nat.reduceBNe, Int.reduceEq, Nat.reduceAdd, Nat.reduceSub, Nat.reduceMul, Nat.reduceLeDiff, reduceIte, reduceCtorEq, Nat.reduceBEq, Nat.reduceEqDiff, wrap64, runC_loop, runC_range, callF_fn, callV_fn, callV_yld, yield_eq, yieldBody, yieldRaw, roundMid, roundEnd, rangeEnd, Bool.not_not, put_cons, put_nil, trim_same, at_zero, at_add, set_zero, set_add, store_one, write_zero, write_add, write_head, write_succ, splice_one, splice_more, List.drop_nil, List.take_nil, cell_int, cell_bool, fillS, splice_one, idxA, Ex.isNormal, List.set_nil, List.length_set, List.all_cons, List.all_nil, Bool.and_self, and_self, true_and, and_true, List.getElem?_nil, Int.reduceLT, Int.reduceLE, Int.reduceToNat, Int.toNat_zero, Int.toNat_one, Int.reduceAdd, Int.reduceSub, Int.reduceMul, Int.reduceNeg, Int.reduceBEq, Int.reduceBNe, Int.reduceGE, Int.reduceGT, Nat.reduceLT, trim_keep, under_fn, under_ptr, under_sl, Nat.lt_irrefl, not_lt_add, trim_tail, keepOk, ABlk.vals, Int.cast_ofNat_Int, decide_true, decide_false, List.all_cons, List.all_nil, Nat.zero_mul, Nat.mul_one, Nat.one_mul, o_call, o_wakes, hx1, hxk, hx2, wl, hd, e2, ix, hc, ha, er, ei, hck, hc2, ea, wl2, n00, w3]
   exact key ..
  ·have hr := Bool.eq_false_iff.2 hr
   rw [hr] at er
   rw [lo]
   unfold l7x0
   simp -implicitDefEqProofs (maxSteps := 5000000) only [go_sem, Nat.reduceShiftRight, Nat.reduceAnd, Nat.reduceBNe, Int.reduceEq, Nat.reduceAdd, Nat.reduceSub, Nat.reduceMul, Nat.reduceLeDiff, reduceIte, reduceCtorEq, Nat.reduceBEq, Nat.reduceEqDiff, wrap64, runC_loop, runC_range, callF_fn, callV_fn, callV_yld, yield_eq, yieldBody, yieldRaw, roundMid, roundEnd, rangeEnd, Bool.not_not, put_cons, put_nil, trim_same, at_zero, at_add, set_zero, set_add, store_one, write_zero, write_add, write_head, write_succ, splice_one, splice_more, List.drop_nil, List.take_nil, cell_int, cell_bool, fillS, splice_one, idxA, Ex.isNormal, List.set_nil, List.length_set, List.all_cons, List.all_nil, Bool.and_self, and_self, true_and, and_true, List.getElem?_nil, Int.reduceLT, Int.reduceLE, Int.reduceToNat, Int.toNat_zero, Int.toNat_one, Int.reduceAdd, Int.reduceSub, Int.reduceMul, Int.reduceNeg, Int.reduceBEq, Int.reduceBNe, Int.reduceGE, Int.reduceGT, Nat.reduceLT, trim_keep, under_fn, under_ptr, under_sl, Nat.lt_irrefl, not_lt_add, trim_tail, keepOk, ABlk.vals, Int.cast_ofNat_Int, decide_true, decide_false, List.all_cons, List.all_nil, Nat.zero_mul, Nat.mul_one, Nat.one_mul, o_call, o_wakes, hx1, wl, hd, e2, ix, hc, ha, er, seqR_ret, outs_normal]
   exact .inr (exF2 rfl rfl)
end Go.Proofs.Ytipedaadjfhdnaa.G06
end
section
namespace Go.Proofs.Ytipedaadjfhdnaa.G06
open Go Go.Proofs.Ytipedaadjfhdnaa.Eng
theorem ne_im {x : ImS} (h : x.b.length = 48) : binV .neq (.flat 49) (.agg x.cells) (.agg x.cells) = some (.bool false) := by
 have l : x.cells.length = 49 := by simp [ImS.cells, u8s_len, h]
 have := eqCells_refl x.cells (fun v hv => by
  unfold ImS.cells at hv
  rcases List.mem_cons.1 hv with rfl | hv
  ·exact ⟨_, _, rfl⟩
  ·unfold u8s at hv
   obtain ⟨z, _, rfl⟩ := List.mem_map.1 hv
   exact ⟨_, _, rfl⟩)
 simp [binV, eqV, l, this]
set_option maxHeartbeats 8000000 in
theorem tornL1 {H : AHeap} {B B2 bm : Nat} {vm x y w : AV} {U : List (List ImS)} {vs : List AV} (lg : LogH H B vm U vs) (cm : cellsOf H bm = some [vm, x, y]) {i : Nat} {t : List ImS} (ht : U[i]? = some t) (g : GR 49 H B2 w (imRows t)) (h48 : ∀ x ∈ t, x.b.length = 48) (htl : t.length ≤ 1000) (hi0 : i ≤ 1000) (x0 x1 x3 x4 x5 x6 x7 x8 x9 x10 x11 x12 x13 x14 x15 x16 x17 x18 x19 x20 x21 x23 x27 x28 x29 x30 x31 x32 x33 x34 x35 x36 x37 x38 x39 x40 x41 x42 x43 x44 x45 x46 x47 x48 x49 x50 x51 x52 x53 x54 x55 x56 x57 x58 x59 x60 x61 x62 x63 x64 x65 x66 x67 x68 x69 x70 x71 x72 x73 x74 x75 x76 x77 x78 x79 x80 x81 x82 x83 x84 x85 x86 x87 x88 x89 x90 x91 x92 x93 x94 x95 x96 x97 x98 x99 x100 x101 x102 x103 x104 x105 x106 x107 x108 x109 x110 x111 x112 x113 x114 x115 x116 x117 x118 x119 x120 x121 x122 x123 x124 x125 x126 x127 x128 x129 x130 x131 x132 x133 x134 x135 x136 x137 x138 x139 x140 x141 x142 x143 x144 x145 x146 x147 x148 x149 x150 x151 x152 x153 x154 x155 x156 x157 x158 x159 x160 x161 x162 x163 x164 x165 x166 x167 x168 x169 x170 x171 x172 x173 x174 x175 x176 x177 x178 x179 x180 x181 x182 x183 x184 x185 x186 x187 x188 x189 x190 x191 x192 x193 x194 x195 x196 x197 x198 x199 x200 x201 x202 x203 x204 x205 x206 x207 x208 x209 x210 x211 x212 x213 x214 x215 x216 x217 x218 x219 x220 x221 x222 x223 x224 x225 x226 x227 x228 x229 x230 x231 x232 x233 x234 x235 x255 : AV) : ∀ (k j : Nat) (j2 j236 j237 j238 j239 j240 j241 j242 j243 j244 j245 j246 j247 j248 j249 j250 j251 j252 j253 j254 : AV), j + k = t.length →
  Outs (LP l7x1 [x0, x1, j2, x3, x4, x5, x6, x7, x8, x9, x10, x11, x12, x13, x14, x15, x16, x17, x18, x19, x20, x21, .ptr bm 0, x23, .int .i64 (i : Int), w, .int .i64 (j : Int), x27, x28, x29, x30, x31, x32, x33, x34, x35, x36, x37, x38, x39, x40, x41, x42, x43, x44, x45, x46, x47, x48, x49, x50, x51, x52, x53, x54, x55, x56, x57, x58, x59, x60, x61, x62, x63, x64, x65, x66, x67, x68, x69, x70, x71, x72, x73, x74, x75, x76, x77, x78, x79, x80, x81, x82, x83, x84, x85, x86, x87, x88, x89, x90, x91, x92, x93, x94, x95, x96, x97, x98, x99, x100, x101, x102, x103, x104, x105, x106, x107, x108, x109, x110, x111, x112, x113, x114, x115, x116, x117, x118, x119, x120, x121, x122, x123, x124, x125, x126, x127, x128, x129, x130, x131, x132, x133, x134, x135, x136, x137, x138, x139, x140, x141, x142, x143, x144, x145, x146, x147, x148, x149, x150, x151, x152, x153, x154, x155, x156, x157, x158, x159, x160, x161, x162, x163, x164, x165, x166, x167, x168, x169, x170, x171, x172, x173, x174, x175, x176, x177, x178, x179, x180, x181, x182, x183, x184, x185, x186, x187, x188, x189, x190, x191, x192, x193, x194, x195, x196, x197, x198, x199, x200, x201, x202, x203, x204, x205, x206, x207, x208, x209, x210, x211, x212, x213, x214, x215, x216, x217, x218, x219, x220, x221, x222, x223, x224, x225, x226, x227, x228, x229, x230, x231, x232, x233, x234, x235, j236, j237, j238, j239, j240, j241, j242, j243, j244, j245, j246, j247, j248, j249, j250, j251, j252, j253, j254, x255] H) fun e t H' => e = .exit 4 ∧ H' = H ∧ ∃ k : Nat → AV, t = [x0, x1, (k 2), x3, x4, x5, x6, x7, x8, x9, x10, x11, x12, x13, x14, x15, x16, x17, x18, x19, x20, x21, .ptr bm 0, x23, .int .i64 (i : Int), w, (k 26), x27, x28, x29, x30, x31, x32, x33, x34, x35, x36, x37, x38, x39, x40, x41, x42, x43, x44, x45, x46, x47, x48, x49, x50, x51, x52, x53, x54, x55, x56, x57, x58, x59, x60, x61, x62, x63, x64, x65, x66, x67, x68, x69, x70, x71, x72, x73, x74, x75, x76, x77, x78, x79, x80, x81, x82, x83, x84, x85, x86, x87, x88, x89, x90, x91, x92, x93, x94, x95, x96, x97, x98, x99, x100, x101, x102, x103, x104, x105, x106, x107, x108, x109, x110, x111, x112, x113, x114, x115, x116, x117, x118, x119, x120, x121, x122, x123, x124, x125, x126, x127, x128, x129, x130, x131, x132, x133, x134, x135, x136, x137, x138, x139, x140, x141, x142, x143, x144, x145, x146, x147, x148, x149, x150, x151, x152, x153, x154, x155, x156, x157, x158, x159, x160, x161, x162, x163, x164, x165, x166, x167, x168, x169, x170, x171, x172, x173, x174, x175, x176, x177, x178, x179, x180, x181, x182, x183, x184, x185, x186, x187, x188, x189, x190, x191, x192, x193, x194, x195, x196, x197, x198, x199, x200, x201, x202, x203, x204, x205, x206, x207, x208, x209, x210, x211, x212, x213, x214, x215, x216, x217, x218, x219, x220, x221, x222, x223, x224, x225, x226, x227, x228, x229, x230, x231, x232, x233, x234, x235, (k 236), (k 237), (k 238), (k 239), (k 240), (k 241), (k 242), (k 243), (k 244), (k 245), (k 246), (k 247), (k 248), (k 249), (k 250), (k 251), (k 252), (k 253), (k 254), x255] := by
 intro k
 obtain ⟨L0, hL0⟩ : ∃ L, L = LP l7x1 := ⟨_, rfl⟩
 have lo := loop_open hL0
 have wl := im_len g
 obtain ⟨a, b, cs, _, _, ix, hc, ha, hle, ga, _⟩ := lg.row ht
 rw [← hL0]
 induction k with
 | zero =>
  intro j j2 j236 j237 j238 j239 j240 j241 j242 j243 j244 j245 j246 j247 j248 j249 j250 j251 j252 j253 j254 hj
  obtain rfl : j = t.length := by omega
  have hd : decide ((t.length : Int) < (t.length : Int)) = false := by simp
  rw [lo]
  unfold l7x1
  simp -implicitDefEqProofs (maxSteps := 5000000) only [go_sem, Nat.reduceShiftRight, Nat.reduceAnd, Nat.reduceBNe, Int.reduceEq, Nat.reduceAdd, Nat.reduceSub, Nat.reduceMul, Nat.reduceLeDiff, reduceIte, reduceCtorEq, Nat.reduceBEq, Nat.reduceEqDiff, wl, hd, seqR_exit', outs_normal]
  exact exF rfl
 | succ k ih =>
  intro j j2 j236 j237 j238 j239 j240 j241 j242 j243 j244 j245 j246 j247 j248 j249 j250 j251 j252 j253 j254 hj
  have hlt : j < t.length := by omega
  have hd : decide ((j : Int) < (t.length : Int)) = true := decide_eq_true (by omega)
  have e2 : IntKind.i64.wrap ((j : Int) + 1) = ((j + 1 : Nat) : Int) := by rw [wrap64 (by omega) (by omega)]; omega
  have hx := List.getElem?_eq_getElem hlt
  have x48 := h48 _ (List.getElem_mem hlt)
  generalize t[j] = z at *
  obtain ⟨b1, c1, _, i1, h1, _, _, t1, l1⟩ := im_read ga h48 hx
  obtain ⟨b2, c2, _, i2, h2, _, _, t2, l2⟩ := im_read g h48 hx
  have ne := ne_im x48
  rw [lo]
  unfold l7x1
  simp -implicitDefEqProofs (maxSteps := 5000000) only [go_sem, Nat.reduceShiftRight, Nat.reduceAnd, Nat.reduceBNe, Int.reduceEq, Nat.reduceAdd, Nat.reduceSub, Nat.reduceMul, Nat.reduceLeDiff, reduceIte, reduceCtorEq, Nat.reduceBEq, Nat.reduceEqDiff, wrap64, runC_loop, runC_range, callF_fn, callV_fn, callV_yld, yield_eq, yieldBody, yieldRaw, roundMid, roundEnd, rangeEnd, Bool.not_not, put_cons, put_nil, trim_same, at_zero, at_add, set_zero, set_add, store_one, write_zero, write_add, write_head, write_succ, splice_one, splice_more, List.drop_nil, List.take_nil, cell_int, cell_bool, fillS, splice_one, idxA, Ex.isNormal, List.set_nil, List.length_set, List.all_cons, List.all_nil, Bool.and_self, and_self, true_and, and_true, List.getElem?_nil, Int.reduceLT, Int.reduceLE, Int.reduceToNat, Int.toNat_zero, Int.toNat_one, Int.reduceAdd, Int.reduceSub, Int.reduceMul, Int.reduceNeg, Int.reduceBEq, Int.reduceBNe, Int.reduceGE, Int.reduceGT, Nat.reduceLT, trim_keep, under_fn, under_ptr, under_sl, Nat.lt_irrefl, not_lt_add, trim_tail, keepOk, ABlk.vals, Int.cast_ofNat_Int, decide_true, decide_false, List.all_cons, List.all_nil, Nat.zero_mul, Nat.mul_one, Nat.one_mul, cm, wl, hd, e2, ix, hc, ha, i1, h1, t1, l1, i2, h2, t2, l2, ne]
  exact ih (j + 1) _ _ _ _ _ _ _ _ _ _ _ _ _ _ _ _ _ _ _ _ (by omega)
set_option maxHeartbeats 16000000 in
theorem tornL2 {H : AHeap} {v y1 y2 y3 y4 : AV} {bx : Nat} (hb : cellsOf H bx = some [v, y1, y2, y3, y4]) {L : List (List PrS)} (ts : TS H v L) (hL : L.length ≤ 8) (h5 : ∀ l ∈ L, l.length ≤ 5) {B B2 B3 bm : Nat} {vm x y wl wt : AV} {U : List (List ImS)} {vs : List AV} (lg : LogH H B vm U vs) (cm : cellsOf H bm = some [vm, x, y])
  {tl tt : List ImS} (gl : GR 49 H B2 wl (imRows tl)) (gt : GR 49 H B3 wt (imRows tt)) (hU : U.length ≤ 20) (U5 : ∀ t ∈ U, t.length ≤ 5) (c1 : ∀ (i : Nat) (l : List PrS), L[i]? = some l → U[i]? = some (l.map prI)) (c2 : ∀ (i : Nat) (t : List ImS), U[i]? = some t → L.length ≤ i → i + 1 < U.length → t = tl) (c3 : ∀ (i : Nat) (t : List ImS), U[i]? = some t → L.length ≤ i → ¬ i + 1 < U.length → t = tt)
  (x0 x3 x4 x5 x6 x7 x8 x9 x10 x11 x13 x14 x15 x16 x17 x19 x20 x21 x23 x27 x28 x29 x30 x31 x32 x33 x34 x35 x36 x37 x38 x39 x40 x41 x42 x43 x44 x45 x46 x47 x48 x49 x50 x51 x52 x53 x54 x55 x56 x57 x58 x59 x60 x61 x62 x63 x64 x65 x66 x67 x68 x69 x70 x71 x72 x73 x74 x75 x76 x77 x78 x79 x80 x81 x82 x83 x84 x85 x86 x87 x88 x89 x90 x91 x92 x93 x94 x95 x96 x97 x98 x99 x100 x101 x102 x103 x104 x105 x106 x107 x108 x109 x110 x111 x112 x113 x114 x115 x116 x117 x118 x119 x120 x121 x122 x123 x124 x125 x126 x127 x128 x129 x130 x131 x132 x133 x134 x135 x136 x137 x138 x139 x140 x141 x142 x143 x144 x145 x146 x147 x148 x149 x150 x151 x152 x153 x154 x155 x156 x157 x158 x159 x160 x161 x162 x163 x164 x165 x166 x167 x168 x169 x170 x171 x172 x173 x174 x175 x176 x177 x178 x179 x180 x181 x182 x183 x184 x185 x186 x187 x188 x189 x190 x191 x192 x193 x194 x195 x196 x197 x255 : AV) : ∀ (k i : Nat) (K : AHeap) (j2 j25 j26 j198 j199 j200 j201 j202 j203 j204 j205 j206 j207 j208 j209 j210 j211 j212 j213 j214 j215 j216 j217 j218 j219 j220 j221 j222 j223 j224 j225 j226 j227 j228 j229 j230 j231 j232 j233 j234 j235 j236 j237 j238 j239 j240 j241 j242 j243 j244 j245 j246 j247 j248 j249 j250 j251 j252 j253 j254 : AV), Adds H K → i + k = U.length →
  Outs (LP l7x2 [x0, .ptr bx 0, j2, x3, x4, x5, x6, x7, x8, x9, x10, x11, wl, x13, x14, x15, x16, x17, wt, x19, x20, x21, .ptr bm 0, x23, .int .i64 (i : Int), j25, j26, x27, x28, x29, x30, x31, x32, x33, x34, x35, x36, x37, x38, x39, x40, x41, x42, x43, x44, x45, x46, x47, x48, x49, x50, x51, x52, x53, x54, x55, x56, x57, x58, x59, x60, x61, x62, x63, x64, x65, x66, x67, x68, x69, x70, x71, x72, x73, x74, x75, x76, x77, x78, x79, x80, x81, x82, x83, x84, x85, x86, x87, x88, x89, x90, x91, x92, x93, x94, x95, x96, x97, x98, x99, x100, x101, x102, x103, x104, x105, x106, x107, x108, x109, x110, x111, x112, x113, x114, x115, x116, x117, x118, x119, x120, x121, x122, x123, x124, x125, x126, x127, x128, x129, x130, x131, x132, x133, x134, x135, x136, x137, x138, x139, x140, x141, x142, x143, x144, x145, x146, x147, x148, x149, x150, x151, x152, x153, x154, x155, x156, x157, x158, x159, x160, x161, x162, x163, x164, x165, x166, x167, x168, x169, x170, x171, x172, x173, x174, x175, x176, x177, x178, x179, x180, x181, x182, x183, x184, x185, x186, x187, x188, x189, x190, x191, x192, x193, x194, x195, x196, x197, j198, j199, j200, j201, j202, j203, j204, j205, j206, j207, j208, j209, j210, j211, j212, j213, j214, j215, j216, j217, j218, j219, j220, j221, j222, j223, j224, j225, j226, j227, j228, j229, j230, j231, j232, j233, j234, j235, j236, j237, j238, j239, j240, j241, j242, j243, j244, j245, j246, j247, j248, j249, j250, j251, j252, j253, j254, x255] K) fun e t H' => e = .exit 2 ∧ ∃ k : Nat → AV, t = [x0, .ptr bx 0, (k 2), x3, x4, x5, x6, x7, x8, x9, x10, x11, wl, x13, x14, x15, x16, x17, wt, x19, x20, x21, .ptr bm 0, x23, (k 24), (k 25), (k 26), x27, x28, x29, x30, x31, x32, x33, x34, x35, x36, x37, x38, x39, x40, x41, x42, x43, x44, x45, x46, x47, x48, x49, x50, x51, x52, x53, x54, x55, x56, x57, x58, x59, x60, x61, x62, x63, x64, x65, x66, x67, x68, x69, x70, x71, x72, x73, x74, x75, x76, x77, x78, x79, x80, x81, x82, x83, x84, x85, x86, x87, x88, x89, x90, x91, x92, x93, x94, x95, x96, x97, x98, x99, x100, x101, x102, x103, x104, x105, x106, x107, x108, x109, x110, x111, x112, x113, x114, x115, x116, x117, x118, x119, x120, x121, x122, x123, x124, x125, x126, x127, x128, x129, x130, x131, x132, x133, x134, x135, x136, x137, x138, x139, x140, x141, x142, x143, x144, x145, x146, x147, x148, x149, x150, x151, x152, x153, x154, x155, x156, x157, x158, x159, x160, x161, x162, x163, x164, x165, x166, x167, x168, x169, x170, x171, x172, x173, x174, x175, x176, x177, x178, x179, x180, x181, x182, x183, x184, x185, x186, x187, x188, x189, x190, x191, x192, x193, x194, x195, x196, x197, (k 198), (k 199), (k 200), (k 201), (k 202), (k 203), (k 204), (k 205), (k 206), (k 207), (k 208), (k 209), (k 210), (k 211), (k 212), (k 213), (k 214), (k 215), (k 216), (k 217), (k 218), (k 219), (k 220), (k 221), (k 222), (k 223), (k 224), (k 225), (k 226), (k 227), (k 228), (k 229), (k 230), (k 231), (k 232), (k 233), (k 234), (k 235), (k 236), (k 237), (k 238), (k 239), (k 240), (k 241), (k 242), (k 243), (k 244), (k 245), (k 246), (k 247), (k 248), (k 249), (k 250), (k 251), (k 252), (k 253), (k 254), x255] := by
 intro k
 obtain ⟨L0, hL0⟩ : ∃ L, L = LP l7x2 := ⟨_, rfl⟩
 have lo := loop_open hL0
 have wU := lg.lenSl
 have wL := ts.len
 rw [← hL0]
 induction k with
 | zero =>
  intro i K j2 j25 j26 j198 j199 j200 j201 j202 j203 j204 j205 j206 j207 j208 j209 j210 j211 j212 j213 j214 j215 j216 j217 j218 j219 j220 j221 j222 j223 j224 j225 j226 j227 j228 j229 j230 j231 j232 j233 j234 j235 j236 j237 j238 j239 j240 j241 j242 j243 j244 j245 j246 j247 j248 j249 j250 j251 j252 j253 j254 aK hi
  obtain rfl : i = U.length := by omega
  have hd : decide ((U.length : Int) < (U.length : Int)) = false := by simp
  have cmK := aK.cells cm
  rw [lo]
  unfold l7x2
  simp -implicitDefEqProofs (maxSteps := 5000000) only [go_sem, Nat.reduceShiftRight, Nat.reduceAnd, Nat.reduceBNe, Int.reduceEq, Nat.reduceAdd, Nat.reduceSub, Nat.reduceMul, Nat.reduceLeDiff, reduceIte, reduceCtorEq, Nat.reduceBEq, Nat.reduceEqDiff, cmK, wU, hd, seqR_exit', outs_normal]
  exact exF rfl
 | succ k ih =>
  intro i K j2 j25 j26 j198 j199 j200 j201 j202 j203 j204 j205 j206 j207 j208 j209 j210 j211 j212 j213 j214 j215 j216 j217 j218 j219 j220 j221 j222 j223 j224 j225 j226 j227 j228 j229 j230 j231 j232 j233 j234 j235 j236 j237 j238 j239 j240 j241 j242 j243 j244 j245 j246 j247 j248 j249 j250 j251 j252 j253 j254 aK hi
  have hlt : i < U.length := by omega
  have hd : decide ((i : Int) < (U.length : Int)) = true := decide_eq_true (by omega)
  have e2 : IntKind.i64.wrap ((i : Int) + 1) = ((i + 1 : Nat) : Int) := by rw [wrap64 (by omega) (by omega)]; omega
  have cmK := aK.cells cm
  have hbK := aK.cells hb
  have lgK := lg.fr (Fr.adds aK (fun _ => False)) fun _ _ h => h
  have hx := List.getElem?_eq_getElem hlt
  have t5 := U5 _ (List.getElem_mem hlt)
  generalize U[i] = t at *
  have t48 := lg.b48 t (List.mem_of_getElem? hx)
  have nn : ∀ x : Int, (x != x) = false := fun x => by simp
  by_cases hiL : i < L.length
  ·have dL : decide ((i : Int) < (L.length : Int)) = true := decide_eq_true (by omega)
   have hl := List.getElem?_eq_getElem hiL
   have l5 := h5 _ (List.getElem_mem hiL)
   generalize L[i] = l at *
   have et : t = l.map prI := by have := c1 i l hl; rw [hx] at this; exact Option.some.inj this
   obtain ⟨a, b, cs, ix, hc, ha, hle, ps, pn⟩ := ts.row i l hl
   have hcK := aK.cells hc
   obtain ⟨u, u', K2, tw, ei⟩ := imagesC (ps.adds aK) (by omega)
   rw [← et] at tw
   have a2 := aK.trans tw.old
   have lg2 := lg.fr (Fr.adds a2 (fun _ => False)) fun _ _ h => h
   have cm2 := a2.cells cm
   obtain ⟨a1, b1, cs1, _, _, ix1, hc1, ha1, hle1, ga1, _⟩ := lg2.row hx
   have w1 := im_len ga1
   have w2 := im_len tw.ga
   have l1 := tornL1 lg2 cm2 hx tw.ga t48 (by omega) (by omega) (k := t.length) (j := 0)
   rw [show ((0 : Nat) : Int) = 0 from rfl] at l1
   rw [lo]
   unfold l7x2
   simp -implicitDefEqProofs (maxSteps := 5000000) only [go_sem, Nat.reduceShiftRight, Nat.reduceAnd, Nat.reduceBNe, Int.reduceEq, Nat.reduceAdd, Nat.reduceSub, Nat.reduceMul, Nat.reduceLeDiff, reduceIte, reduceCtorEq, Nat.reduceBEq, Nat.reduceEqDiff, wrap64, runC_loop, runC_range, callF_fn, callV_fn, callV_yld, yield_eq, yieldBody, yieldRaw, roundMid, roundEnd, rangeEnd, Bool.not_not, put_cons, put_nil, trim_same, at_zero, at_add, set_zero, set_add, store_one, write_zero, write_add, write_head, write_succ, splice_one, splice_more, List.drop_nil, List.take_nil, cell_int, cell_bool, fillS, splice_one, idxA, Ex.isNormal, List.set_nil, List.length_set, List.all_cons, List.all_nil, Bool.and_self, and_self, true_and, and_true, List.getElem?_nil, Int.reduceLT, Int.reduceLE, Int.reduceToNat, Int.toNat_zero, Int.toNat_one, Int.reduceAdd, Int.reduceSub, Int.reduceMul, Int.reduceNeg, Int.reduceBEq, Int.reduceBNe, Int.reduceGE, Int.reduceGT, Nat.reduceLT, trim_keep, under_fn, under_ptr, under_sl, Nat.lt_irrefl, not_lt_add, trim_tail, keepOk, ABlk.vals, Int.cast_ofNat_Int, decide_true, decide_false, List.all_cons, List.all_nil, Nat.zero_mul, Nat.mul_one, Nat.one_mul, runC_loop, o_loop, o_call, cmK, hbK, wU, wL, hd, dL, ix, hcK, ha, ei, cm2, ix1, hc1, ha1, w1, w2, nn]
   unfold LP at l1
   generalize (envL prog).loop (runC (envO prog (knows 12)) (l7x1 (envO prog (knows 12)))) = LL at l1 ⊢
   refine outs_ctx (fun x => seqR (seqR (blockR 3 (blockR 4 x)) _) _) (l1 _ _ _ _ _ _ _ _ _ _ _ _ _ _ _ _ _ _ _ _ _ _ _ _ _ _ _ _ _ _ _ _ _ _ _ _ _ _ _ _ _ _ _ _ _ _ _ _ _ _ _ _ _ _ _ _ _ _ _ _ _ _ _ _ _ _ _ _ _ _ _ _ _ _ _ _ _ _ _ _ _ _ _ _ _ _ _ _ _ _ _ _ _ _ _ _ _ _ _ _ _ _ _ _ _ _ _ _ _ _ _ _ _ _ _ _ _ _ _ _ _ _ _ _ _ _ _ _ _ _ _ _ _ _ _ _ _ _ _ _ _ _ _ _ _ _ _ _ _ _ _ _ _ _ _ _ _ _ _ _ _ _ _ _ _ _ _ _ _ _ _ _ _ _ _ _ _ _ _ _ _ _ _ _ _ _ _ _ _ _ _ _ _ _ _ _ _ _ _ _ _ _ _ _ _ _ _ _ _ _ _ _ _ _ _ _ _ _ _ _ _ _ _ _ _ _ _ _ _ _ _ _ _ _ _ _ _ _ _ _ _ _ _ _ _ _ _ _ _ _ _ _ (by omega)) ?_
   rintro e t' K' ⟨rfl, rfl, fv, rfl⟩
   simp -implicitDefEqProofs (maxSteps := 5000000) only [go_sem, Nat.reduceShiftRight, Nat.reduceAnd, Nat.reduceBNe, Int.reduceEq, Nat.reduceAdd, Nat.reduceSub, Nat.reduceMul, Nat.reduceLeDiff, reduceIte, reduceCtorEq, Nat.reduceBEq, Nat.reduceEqDiff, e2]
   exact ih (i + 1) K' _ _ _ _ _ _ _ _ _ _ _ _ _ _ _ _ _ _ _ _ _ _ _ _ _ _ _ _ _ _ _ _ _ _ _ _ _ _ _ _ _ _ _ _ _ _ _ _ _ _ _ _ _ _ _ _ _ _ _ _ a2 (by omega)
  ·have dL : decide ((i : Int) < (L.length : Int)) = false := decide_eq_false (by omega)
   obtain ⟨a1, b1, cs1, _, _, ix1, hc1, ha1, hle1, ga1, _⟩ := lgK.row hx
   have w1 := im_len ga1
   by_cases hiU : i + 1 < U.length
   ·have dU : decide (((i + 1 : Nat) : Int) < (U.length : Int)) = true := decide_eq_true (by omega)
    have et := c2 i t hx (by omega) hiU
    have glK := gl.frS (Fr.adds aK (fun _ => False)) fun _ _ h => h
    rw [← et] at glK
    have w2 := im_len glK
    have l1 := tornL1 lgK cmK hx glK t48 (by omega) (by omega) (k := t.length) (j := 0)
    rw [show ((0 : Nat) : Int) = 0 from rfl] at l1
    rw [lo]
    unfold l7x2
    simp -implicitDefEqProofs (maxSteps := 5000000) only [go_sem, Nat.reduceShiftRight, Nat.reduceAnd, Nat.reduceBNe, Int.reduceEq, Nat.reduceAdd, Nat.reduceSub, Nat.reduceMul, Nat.reduceLeDiff, reduceIte, reduceCtorEq, Nat.reduceBEq, Nat.reduceEqDiff, wrap64, runC_loop, runC_range, callF_fn, callV_fn, callV_yld, yield_eq, yieldBody, yieldRaw, roundMid, roundEnd, rangeEnd, Bool.not_not, put_cons, put_nil, trim_same, at_zero, at_add, set_zero, set_add, store_one, write_zero, write_add, write_head, write_succ, splice_one, splice_more, List.drop_nil, List.take_nil, cell_int, cell_bool, fillS, splice_one, idxA, Ex.isNormal, List.set_nil, List.length_set, List.all_cons, List.all_nil, Bool.and_self, and_self, true_and, and_true, List.getElem?_nil, Int.reduceLT, Int.reduceLE, Int.reduceToNat, Int.toNat_zero, Int.toNat_one, Int.reduceAdd, Int.reduceSub, Int.reduceMul, Int.reduceNeg, Int.reduceBEq, Int.reduceBNe, Int.reduceGE, Int.reduceGT, Nat.reduceLT, trim_keep, under_fn, under_ptr, under_sl, Nat.lt_irrefl, not_lt_add, trim_tail, keepOk, ABlk.vals, Int.cast_ofNat_Int, decide_true, decide_false, List.all_cons, List.all_nil, Nat.zero_mul, Nat.mul_one, Nat.one_mul, runC_loop, o_loop, o_call, cmK, hbK, wU, wL, hd, dL, e2, dU, ix1, hc1, ha1, w1, w2, nn]
    unfold LP at l1
    generalize (envL prog).loop (runC (envO prog (knows 12)) (l7x1 (envO prog (knows 12)))) = LL at l1 ⊢
    refine outs_ctx (fun x => seqR (seqR (blockR 3 (blockR 4 x)) _) _) (l1 _ _ _ _ _ _ _ _ _ _ _ _ _ _ _ _ _ _ _ _ _ _ _ _ _ _ _ _ _ _ _ _ _ _ _ _ _ _ _ _ _ _ _ _ _ _ _ _ _ _ _ _ _ _ _ _ _ _ _ _ _ _ _ _ _ _ _ _ _ _ _ _ _ _ _ _ _ _ _ _ _ _ _ _ _ _ _ _ _ _ _ _ _ _ _ _ _ _ _ _ _ _ _ _ _ _ _ _ _ _ _ _ _ _ _ _ _ _ _ _ _ _ _ _ _ _ _ _ _ _ _ _ _ _ _ _ _ _ _ _ _ _ _ _ _ _ _ _ _ _ _ _ _ _ _ _ _ _ _ _ _ _ _ _ _ _ _ _ _ _ _ _ _ _ _ _ _ _ _ _ _ _ _ _ _ _ _ _ _ _ _ _ _ _ _ _ _ _ _ _ _ _ _ _ _ _ _ _ _ _ _ _ _ _ _ _ _ _ _ _ _ _ _ _ _ _ _ _ _ _ _ _ _ _ _ _ _ _ _ _ _ _ _ _ _ _ _ _ _ _ _ _ (by omega)) ?_
    rintro e t' K' ⟨rfl, rfl, fv, rfl⟩
    simp -implicitDefEqProofs (maxSteps := 5000000) only [go_sem, Nat.reduceShiftRight, Nat.reduceAnd, Nat.reduceBNe, Int.reduceEq, Nat.reduceAdd, Nat.reduceSub, Nat.reduceMul, Nat.reduceLeDiff, reduceIte, reduceCtorEq, Nat.reduceBEq, Nat.reduceEqDiff, e2]
    exact ih (i + 1) K' _ _ _ _ _ _ _ _ _ _ _ _ _ _ _ _ _ _ _ _ _ _ _ _ _ _ _ _ _ _ _ _ _ _ _ _ _ _ _ _ _ _ _ _ _ _ _ _ _ _ _ _ _ _ _ _ _ _ _ _ aK (by omega)
   ·have dU : decide (((i + 1 : Nat) : Int) < (U.length : Int)) = false := decide_eq_false (by omega)
    have et := c3 i t hx (by omega) hiU
    have gtK := gt.frS (Fr.adds aK (fun _ => False)) fun _ _ h => h
    rw [← et] at gtK
    have w2 := im_len gtK
    have l1 := tornL1 lgK cmK hx gtK t48 (by omega) (by omega) (k := t.length) (j := 0)
    rw [show ((0 : Nat) : Int) = 0 from rfl] at l1
    rw [lo]
    unfold l7x2
    simp -implicitDefEqProofs (maxSteps := 5000000) only [go_sem, Nat.reduceShiftRight, Nat.reduceAnd, Nat.reduceBNe, Int.reduceEq, Nat.reduceAdd, Nat.reduceSub, Nat.reduceMul, Nat.reduceLeDiff, reduceIte, reduceCtorEq, Nat.reduceBEq, Nat.reduceEqDiff, wrap64, runC_loop, runC_range, callF_fn, callV_fn, callV_yld, yield_eq, yieldBody, yieldRaw, roundMid, roundEnd, rangeEnd, Bool.not_not, put_cons, put_nil, trim_same, at_zero, at_add, set_zero, set_add, store_one, write_zero, write_add, write_head, write_succ, splice_one, splice_more, List.drop_nil, List.take_nil, cell_int, cell_bool, fillS, splice_one, idxA, Ex.isNormal, List.set_nil, List.length_set, List.all_cons, List.all_nil, Bool.and_self, and_self, true_and, and_true, List.getElem?_nil, Int.reduceLT, Int.reduceLE, Int.reduceToNat, Int.toNat_zero, Int.toNat_one, Int.reduceAdd, Int.reduceSub, Int.reduceMul, Int.reduceNeg, Int.reduceBEq, Int.reduceBNe, Int.reduceGE, Int.reduceGT, Nat.reduceLT, trim_keep, under_fn, under_ptr, under_sl, Nat.lt_irrefl, not_lt_add, trim_tail, keepOk, ABlk.vals, Int.cast_ofNat_Int, decide_true, decide_false, List.all_cons, List.all_nil, Nat.zero_mul, Nat.mul_one, Nat.one_mul, runC_loop, o_loop, o_call, cmK, hbK, wU, wL, hd, dL, e2, dU, ix1, hc1, ha1, w1, w2, nn]
    unfold LP at l1
    generalize (envL prog).loop (runC (envO prog (knows 12)) (l7x1 (envO prog (knows 12)))) = LL at l1 ⊢
    refine outs_ctx (fun x => seqR (seqR (blockR 3 (blockR 4 x)) _) _) (l1 _ _ _ _ _ _ _ _ _ _ _ _ _ _ _ _ _ _ _ _ _ _ _ _ _ _ _ _ _ _ _ _ _ _ _ _ _ _ _ _ _ _ _ _ _ _ _ _ _ _ _ _ _ _ _ _ _ _ _ _ _ _ _ _ _ _ _ _ _ _ _ _ _ _ _ _ _ _ _ _ _ _ _ _ _ _ _ _ _ _ _ _ _ _ _ _ _ _ _ _ _ _ _ _ _ _ _ _ _ _ _ _ _ _ _ _ _ _ _ _ _ _ _ _ _ _ _ _ _ _ _ _ _ _ _ _ _ _ _ _ _ _ _ _ _ _ _ _ _ _ _ _ _ _ _ _ _ _ _ _ _ _ _ _ _ _ _ _ _ _ _ _ _ _ _ _ _ _ _ _ _ _ _ _ _ _ _ _ _ _ _ _ _ _ _ _ _ _ _ _ _ _ _ _ _ _ _ _ _ _ _ _ _ _ _ _ _ _ _ _ _ _ _ _ _ _ _ _ _ _ _ _ _ _ _ _ _ _ _ _ _ _ _ _ _ _ _ _ _ _ _ _ (by omega)) ?_
    rintro e t' K' ⟨rfl, rfl, fv, rfl⟩
    simp -implicitDefEqProofs (maxSteps := 5000000) only [go_sem, Nat.reduceShiftRight, Nat.reduceAnd, Nat.reduceBNe, Int.reduceEq, Nat.reduceAdd, Nat.reduceSub, Nat.reduceMul, Nat.reduceLeDiff, reduceIte, reduceCtorEq, Nat.reduceBEq, Nat.reduceEqDiff, e2]
    exact ih (i + 1) K' _ _ _ _ _ _ _ _ _ _ _ _ _ _ _ _ _ _ _ _ _ _ _ _ _ _ _ _ _ _ _ _ _ _ _ _ _ _ _ _ _ _ _ _ _ _ _ _ _ _ _ _ _ _ _ _ _ _ _ _ aK (by omega)
end Go.Proofs.Ytipedaadjfhdnaa.G06
end
section
namespace Go.Proofs.Ytipedaadjfhdnaa.G06
open Go Go.Proofs.Ytipedaadjfhdnaa.Eng
theorem datc_sl {h : AHeap} {e : List Sh} {v : AV} (d : DatC h (.sl e) v) : IsSl v := by
 cases d with
 | nil => exact .inl rfl
 | sl => exact .inr ⟨_, _, _, _, _, _, rfl⟩
theorem get_snoc {L : List (List PrS)} {i : Nat} {l : List PrS} (h : L[i]? = some l) (T : List (List ImS)) : (txI L ++ T)[i]? = some (l.map prI) := by
 have lt := (List.getElem?_eq_some_iff.1 h).1
 rw [List.getElem?_append_left (by rw [txI_len]; exact lt)]; exact txI_get h
set_option maxHeartbeats 64000000 in
theorem ringTorn (va vl : AV) (at_ : Int) (vp vt : AV) (ka : 0 ≤ at_ ∧ at_ ≤ 255) (h : AHeap) (d0 : DatC h (.sl [.sl [.int .i64, .int .i64]]) va) (d1 : DatC h (.sl [.int .i64, .int .i64]) vl) (d3 : DatC h (.sl [.int .u8]) vp) (d4 : DatC h (.sl [.int .i64, .int .i64]) vt) : ∃ h', callBody prog EO 7 [.agg [va, vl, .int .u8 at_, vp, vt]] h = some (.bool true, h') := by
 obtain ⟨L, ts0⟩ := txns_dat d0
 obtain ⟨la, psl0, pnl, _⟩ := pairs_dat d1
 obtain ⟨tl, pst0, pnt, _⟩ := pairs_dat d4
 obtain ⟨zs, bs0, us, ls⟩ := d3.bytes
 have ca := (datc_sl d0).cell
 have cl := (datc_sl d1).cell
 have cp := (datc_sl d3).cell
 have ct := (datc_sl d4).cell
 have hcc : ([va, vl, .int .u8 at_, vp, vt] : List AV).all AV.isCell = true := by simp only [List.all_cons, List.all_nil, ca, cl, cp, ct, cell_int, Bool.and_self]
 obtain ⟨h0, e0⟩ : ∃ h0, h0 = h ++ [ABlk.rw [va, vl, .int .u8 at_, vp, vt]] := ⟨_, rfl⟩
 have a0 : Adds h h0 := ⟨_, e0⟩
 have hb : cellsOf h0 h.length = some [va, vl, .int .u8 at_, vp, vt] := by rw [e0]; unfold cellsOf; simp
 have e0 := e0.symm
 have ts := ts0.adds a0
 have psl := psl0.adds a0
 have pst := pst0.adds a0
 have bs := a0.bs bs0
 have wA := ts.len
 have wP := bs.len
 have rl := rightC psl pnl 5
 have rt := rightC pst pnt 5
 rw [d7]
 unfold b7 EO
 refine of_outs ?_
 generalize hQ : (fun (e : Ex) (t : T) (h1 : AHeap) => fin [.tmp 2] (some (e, t, h1)) = some (AV.bool true, h1)) = Q
 by_cases h8 : (L.length : Int) > 8
 ·have d8 := decide_eq_true h8
  simp -implicitDefEqProofs (maxSteps := 5000000) only [go_sem, Nat.reduceShiftRight, Nat.reduceAnd, Nat.reduceBNe, Int.reduceEq, Nat.reduceAdd, Nat.reduceSub, Nat.reduceMul, Nat.reduceLeDiff, reduceIte, reduceCtorEq, Nat.reduceBEq, Nat.reduceEqDiff, wrap64, runC_loop, runC_range, callF_fn, callV_fn, callV_yld, yield_eq, yieldBody, yieldRaw, roundMid, roundEnd, rangeEnd, Bool.not_not, put_cons, put_nil, trim_same, at_zero, at_add, set_zero, set_add, store_one, write_zero, write_add, write_head, write_succ, splice_one, splice_more, List.drop_nil, List.take_nil, cell_int, cell_bool, fillS, splice_one, idxA, Ex.isNormal, List.set_nil, List.length_set, List.all_cons, List.all_nil, Bool.and_self, and_self, true_and, and_true, List.getElem?_nil, Int.reduceLT, Int.reduceLE, Int.reduceToNat, Int.toNat_zero, Int.toNat_one, Int.reduceAdd, Int.reduceSub, Int.reduceMul, Int.reduceNeg, Int.reduceBEq, Int.reduceBNe, Int.reduceGE, Int.reduceGT, Nat.reduceLT, trim_keep, under_fn, under_ptr, under_sl, Nat.lt_irrefl, not_lt_add, trim_tail, keepOk, ABlk.vals, Int.cast_ofNat_Int, decide_true, decide_false, List.all_cons, List.all_nil, Nat.zero_mul, Nat.mul_one, Nat.one_mul, o_wakes, o_call, hcc, e0, hb, wA, d8, outs_normal]
  subst hQ
  simp -implicitDefEqProofs (maxSteps := 5000000) only [go_sem, Nat.reduceShiftRight, Nat.reduceAnd, Nat.reduceBNe, Int.reduceEq, Nat.reduceAdd, Nat.reduceSub, Nat.reduceMul, Nat.reduceLeDiff, reduceIte, reduceCtorEq, Nat.reduceBEq, Nat.reduceEqDiff]
 have d8 := decide_eq_false h8
 by_cases hrl : rightS la 5 = false
 ·rw [hrl] at rl
  simp -implicitDefEqProofs (maxSteps := 5000000) only [go_sem, Nat.reduceShiftRight, Nat.reduceAnd, Nat.reduceBNe, Int.reduceEq, Nat.reduceAdd, Nat.reduceSub, Nat.reduceMul, Nat.reduceLeDiff, reduceIte, reduceCtorEq, Nat.reduceBEq, Nat.reduceEqDiff, wrap64, runC_loop, runC_range, callF_fn, callV_fn, callV_yld, yield_eq, yieldBody, yieldRaw, roundMid, roundEnd, rangeEnd, Bool.not_not, put_cons, put_nil, trim_same, at_zero, at_add, set_zero, set_add, store_one, write_zero, write_add, write_head, write_succ, splice_one, splice_more, List.drop_nil, List.take_nil, cell_int, cell_bool, fillS, splice_one, idxA, Ex.isNormal, List.set_nil, List.length_set, List.all_cons, List.all_nil, Bool.and_self, and_self, true_and, and_true, List.getElem?_nil, Int.reduceLT, Int.reduceLE, Int.reduceToNat, Int.toNat_zero, Int.toNat_one, Int.reduceAdd, Int.reduceSub, Int.reduceMul, Int.reduceNeg, Int.reduceBEq, Int.reduceBNe, Int.reduceGE, Int.reduceGT, Nat.reduceLT, trim_keep, under_fn, under_ptr, under_sl, Nat.lt_irrefl, not_lt_add, trim_tail, keepOk, ABlk.vals, Int.cast_ofNat_Int, decide_true, decide_false, List.all_cons, List.all_nil, Nat.zero_mul, Nat.mul_one, Nat.one_mul, o_wakes, o_call, hcc, e0, hb, wA, d8, rl, outs_normal]
  subst hQ
  simp -implicitDefEqProofs (maxSteps := 5000000) only [go_sem, Nat.reduceShiftRight, Nat.reduceAnd, Nat.reduceBNe, Int.reduceEq, Nat.reduceAdd, Nat.reduceSub, Nat.reduceMul, Nat.reduceLeDiff, reduceIte, reduceCtorEq, Nat.reduceBEq, Nat.reduceEqDiff]
 have hrl : rightS la 5 = true := by simpa using hrl
 rw [hrl] at rl
 by_cases hrt : rightS tl 5 = false
 ·rw [hrt] at rt
  simp -implicitDefEqProofs (maxSteps := 5000000) only [go_sem, Nat.reduceShiftRight, Nat.reduceAnd, Nat.reduceBNe, Int.reduceEq, Nat.reduceAdd, Nat.reduceSub, Nat.reduceMul, Nat.reduceLeDiff, reduceIte, reduceCtorEq, Nat.reduceBEq, Nat.reduceEqDiff, wrap64, runC_loop, runC_range, callF_fn, callV_fn, callV_yld, yield_eq, yieldBody, yieldRaw, roundMid, roundEnd, rangeEnd, Bool.not_not, put_cons, put_nil, trim_same, at_zero, at_add, set_zero, set_add, store_one, write_zero, write_add, write_head, write_succ, splice_one, splice_more, List.drop_nil, List.take_nil, cell_int, cell_bool, fillS, splice_one, idxA, Ex.isNormal, List.set_nil, List.length_set, List.all_cons, List.all_nil, Bool.and_self, and_self, true_and, and_true, List.getElem?_nil, Int.reduceLT, Int.reduceLE, Int.reduceToNat, Int.toNat_zero, Int.toNat_one, Int.reduceAdd, Int.reduceSub, Int.reduceMul, Int.reduceNeg, Int.reduceBEq, Int.reduceBNe, Int.reduceGE, Int.reduceGT, Nat.reduceLT, trim_keep, under_fn, under_ptr, under_sl, Nat.lt_irrefl, not_lt_add, trim_tail, keepOk, ABlk.vals, Int.cast_ofNat_Int, decide_true, decide_false, List.all_cons, List.all_nil, Nat.zero_mul, Nat.mul_one, Nat.one_mul, o_wakes, o_call, hcc, e0, hb, wA, d8, rl, rt, outs_normal]
  subst hQ
  simp -implicitDefEqProofs (maxSteps := 5000000) only [go_sem, Nat.reduceShiftRight, Nat.reduceAnd, Nat.reduceBNe, Int.reduceEq, Nat.reduceAdd, Nat.reduceSub, Nat.reduceMul, Nat.reduceLeDiff, reduceIte, reduceCtorEq, Nat.reduceBEq, Nat.reduceEqDiff]
 have hrt : rightS tl 5 = true := by simpa using hrt
 rw [hrt] at rt
 by_cases hz : (zs.length : Int) > 100
 ·have dz := decide_eq_true hz
  simp -implicitDefEqProofs (maxSteps := 5000000) only [go_sem, Nat.reduceShiftRight, Nat.reduceAnd, Nat.reduceBNe, Int.reduceEq, Nat.reduceAdd, Nat.reduceSub, Nat.reduceMul, Nat.reduceLeDiff, reduceIte, reduceCtorEq, Nat.reduceBEq, Nat.reduceEqDiff, wrap64, runC_loop, runC_range, callF_fn, callV_fn, callV_yld, yield_eq, yieldBody, yieldRaw, roundMid, roundEnd, rangeEnd, Bool.not_not, put_cons, put_nil, trim_same, at_zero, at_add, set_zero, set_add, store_one, write_zero, write_add, write_head, write_succ, splice_one, splice_more, List.drop_nil, List.take_nil, cell_int, cell_bool, fillS, splice_one, idxA, Ex.isNormal, List.set_nil, List.length_set, List.all_cons, List.all_nil, Bool.and_self, and_self, true_and, and_true, List.getElem?_nil, Int.reduceLT, Int.reduceLE, Int.reduceToNat, Int.toNat_zero, Int.toNat_one, Int.reduceAdd, Int.reduceSub, Int.reduceMul, Int.reduceNeg, Int.reduceBEq, Int.reduceBNe, Int.reduceGE, Int.reduceGT, Nat.reduceLT, trim_keep, under_fn, under_ptr, under_sl, Nat.lt_irrefl, not_lt_add, trim_tail, keepOk, ABlk.vals, Int.cast_ofNat_Int, decide_true, decide_false, List.all_cons, List.all_nil, Nat.zero_mul, Nat.mul_one, Nat.one_mul, o_wakes, o_call, hcc, e0, hb, wA, d8, rl, rt, wP, dz, outs_normal]
  subst hQ
  simp -implicitDefEqProofs (maxSteps := 5000000) only [go_sem, Nat.reduceShiftRight, Nat.reduceAnd, Nat.reduceBNe, Int.reduceEq, Nat.reduceAdd, Nat.reduceSub, Nat.reduceMul, Nat.reduceLeDiff, reduceIte, reduceCtorEq, Nat.reduceBEq, Nat.reduceEqDiff]
 have dz := decide_eq_false hz
 obtain ⟨gl, ll5⟩ := right_good (c := 60) hrl (by omega)
 obtain ⟨gt, tt5⟩ := right_good (c := 60) hrt (by omega)
 obtain ⟨H1, F, lA, ea⟩ := rinNew (n0 := 70) (n1 := 1) (by omega) (by omega) (by omega) (by omega) h0
 rw [show ((70 : Nat) : Int) = 70 from rfl, show ((1 : Nat) : Int) = 1 from rfl] at ea
 have fr0 : Frs (newRg 70 1) 4 60 50 9 (txI (L.take 0)) := Frs.new (n := 70) rfl ⟨rfl, rfl⟩ (by omega) (by omega) (by omega)
 have pL := tornL0 hb ts (by omega) (rp := h0.length) (k := L.length) (i := 0) (H := H1) (r := newRg 70 1) (F := F)
 have e01 : (((50 + tot (txI (L.take 0))) % 60 : Nat) : Int) = 50 := by rw [List.take_zero]; rfl
 rw [e01, show ((0 : Nat) : Int) = 0 from rfl, show (9 : Int) + 0 = 9 from rfl] at pL
 have n00 : ((0 : Int) != 0) = false := rfl
 simp -implicitDefEqProofs (maxSteps := 5000000) only [go_sem, Nat.reduceShiftRight, Nat.reduceAnd, Nat.reduceBNe, Int.reduceEq, Nat.reduceAdd, Nat.reduceSub, Nat.reduceMul, Nat.reduceLeDiff, reduceIte, reduceCtorEq, Nat.reduceBEq, Nat.reduceEqDiff, wrap64, runC_loop, runC_range, callF_fn, callV_fn, callV_yld, yield_eq, yieldBody, yieldRaw, roundMid, roundEnd, rangeEnd, Bool.not_not, put_cons, put_nil, trim_same, at_zero, at_add, set_zero, set_add, store_one, write_zero, write_add, write_head, write_succ, splice_one, splice_more, List.drop_nil, List.take_nil, cell_int, cell_bool, fillS, splice_one, idxA, Ex.isNormal, List.set_nil, List.length_set, List.all_cons, List.all_nil, Bool.and_self, and_self, true_and, and_true, List.getElem?_nil, Int.reduceLT, Int.reduceLE, Int.reduceToNat, Int.toNat_zero, Int.toNat_one, Int.reduceAdd, Int.reduceSub, Int.reduceMul, Int.reduceNeg, Int.reduceBEq, Int.reduceBNe, Int.reduceGE, Int.reduceGT, Nat.reduceLT, trim_keep, under_fn, under_ptr, under_sl, Nat.lt_irrefl, not_lt_add, trim_tail, keepOk, ABlk.vals, Int.cast_ofNat_Int, decide_true, decide_false, List.all_cons, List.all_nil, Nat.zero_mul, Nat.mul_one, Nat.one_mul, runC_loop, o_wakes, o_call, hcc, e0, hb, wA, d8, rl, rt, wP, dz, ea, n00]
 unfold LP at pL
 generalize (envL prog).loop (runC (envO prog (knows 12)) (l7x0 (envO prog (knows 12)))) = LL at pL ⊢
 refine outs_ctx (fun r => seqR (blockR 0 r) _) (pL _ _ _ _ _ _ _ _ _ _ _ _ _ _ _ _ _ _ _ _ _ _ _ _ _ _ _ _ _ _ _ _ _ _ _ _ _ _ _ _ _ _ _ _ _ _ _ _ _ _ _ _ _ _ _ _ _ _ _ _ _ _ _ _ _ _ _ _ _ _ _ _ _ _ _ _ _ _ _ _ _ _ _ _ _ _ _ _ _ _ _ _ _ _ _ _ _ _ _ _ _ _ _ _ _ _ _ _ _ _ _ _ _ _ _ _ _ _ _ _ _ _ _ _ _ _ _ _ _ _ _ _ _ _ _ _ _ _ _ _ _ _ _ _ _ _ _ _ _ _ _ _ _ _ _ _ _ _ _ _ _ _ _ _ _ _ _ _ _ _ _ _ _ _ _ _ _ _ _ _ _ _ _ _ _ _ _ _ _ _ _ _ _ _ _ _ _ _ _ _ _ _ _ _ _ _ _ _ _ _ _ _ _ _ _ _ _ _ _ _ _ _ _ _ _ _ _ _ _ _ _ _ _ _ _ _ _ _ _ _ _ _ _ _ _ _ _ _ _ _ (lA.up (by omega) (by omega)) fr0 (fun l hl => by simp at hl) (by omega)) ?_
 rintro e t H3 (⟨rfl, r', F', li, fr, h5, fv, rfl⟩ | ⟨rfl, fv, rfl, f6⟩)
 ·have h5' : ∀ t ∈ txI L, t.length ≤ 5 := fun t ht => by
   obtain ⟨l, hl, rfl⟩ := List.mem_map.1 ht
   rw [List.length_map]; exact h5 l hl
  have tl8 := tot_le _ h5'
  have tlen := txI_len L
  rw [tlen] at tl8
  have sq : 9 + ((txI L).length : Int) = 9 + (L.length : Int) := by rw [tlen]
  have hb3 := li.old.cells hb
  obtain ⟨w1, w1', K1, tw1, ei1⟩ := imagesC (psl.adds li.old) (by omega)
  have li1 := li.add tw1.old
  have hbK1 := li1.old.cells hb
  have lF := li.m.lt
  obtain ⟨n, hn⟩ : ∃ n : Int, n = at_.tmod 12 := ⟨_, rfl⟩
  have w0 : IntKind.i64.wrap at_ = at_ := wrap64 (by omega) (by omega)
  have rm := int_rem .none .i64 at_ 12 (by omega)
  rw [← hn] at rm
  obtain ⟨K2, m2, st2, ea2⟩ := rinArm li1.m n
  have li2 := li1.step m2 st2
  have g1K2 : GR 49 K2 H3.length w1 _ := tw1.ga.frS st2.1 fun b hb2 hf => by have := (tw1.ga.out b hb2).1; have := lF b hf; omega
  have hbK2 := li2.old.cells hb
  obtain ⟨K3, F3, li3, st3, ea3⟩ := oneAppd2 li2 (f := ((4 : Nat) : Int)) (cc := ((60 : Nat) : Int)) (a := (((50 + tot (txI L)) % 60 : Nat) : Int)) (s := 9 + ((txI L).length : Int)) (by rw [sq]; omega) g1K2 (fun b hb2 hf => by have := (tw1.ga.out b hb2).1; have := lF b hf; omega) (prI_b48 la) (by rw [List.length_map]; omega) (by omega)
  have tc := append_torn fr (by omega) (by rw [sq]; omega) gl (by rw [List.length_map]; omega) n zs []
  have g1K3 : GR 49 K3 H3.length w1 _ := g1K2.frS st3.1 fun b hb2 hf => by have := (tw1.ga.out b hb2).1; have := lF b hf; omega
  have nF3 : ∀ b, slb w1 = some b → ¬ F3 b := fun b hb2 hf => by
   have h1 := tw1.ga.out b hb2
   have hk := st2.1.1
   rcases st3.2 b hf with q | q
   ·have := lF b q; omega
   ·omega
  rw [show (((50 + tot (txI L)) % 60 : Nat) : Int) = (((50 + tot (txI L)) % 60 : Nat) : Int) from rfl] at ea3
  generalize appdS (r'.arm n) ((4 : Nat) : Int) ((60 : Nat) : Int) (((50 + tot (txI L)) % 60 : Nat) : Int) (9 + ((txI L).length : Int)) (la.map prI) = A at *
  obtain ⟨A1, A2, A3⟩ := A
  simp only at ea3 li3 tc
  rw [show ((4 : Nat) : Int) = 4 from rfl, show ((60 : Nat) : Int) = 60 from rfl, sq] at ea3
  have hbK3 := li3.old.cells hb
  have bs3 : BS K3 vp zs := li3.old.bs bs
  have c1h : cellsOf (K3 ++ [ABlk.rw []]) K3.length = some [] := by unfold cellsOf; simp
  obtain ⟨wc, G1, ap1, B1, bc, lc, pc⟩ := copy_b c1h (bs3.mono _) (by omega)
  have A31 : Adds K3 G1 := (Adds.trans ⟨_, rfl⟩ B1)
  have liG := li3.add A31
  have ltF3 := li3.m.lt
  have u0 : IsU8 [] := fun z hz => by cases hz
  obtain ⟨K4, m4, st4, l4, ea4⟩ := rinCrash liG.m bc (BS.nil _) us u0 lc (fun b o s n l e h => by cases h) (fun b hb2 => ⟨(pc b hb2).1, fun hf => by have := ltF3 b hf; have := (pc b hb2).2; simp only [List.length_append, List.length_cons, List.length_nil] at this; omega⟩) (fun b hb2 => by cases hb2)
  have li4 := liG.step m4 st4
  have g1K4 : GR 49 K4 H3.length w1 _ := (g1K3.frS (Fr.adds A31 (fun _ => False)) fun _ _ h => h).frS st4.1 fun b hb2 hf => nF3 b hb2 hf
  have hbG1 := liG.old.cells hb
  have hbK4 := li4.old.cells hb
  obtain ⟨T2, hT2, wk⟩ : ∃ T2, ((T2 = txI L ++ [la.map prI]) ∨ (T2 = txI L ∧ A3 ≠ 0)) ∧ Wk (A1.crash zs []) 4 60 50 9 T2 := by
   rcases tc with q | ⟨q1, q2⟩
   ·exact ⟨_, .inl rfl, q.wk (by omega) (by rw [List.length_append, tlen]; simp; omega)⟩
   ·exact ⟨_, .inr ⟨rfl, q1⟩, q2⟩
  have T25 : ∀ t ∈ T2, t.length ≤ 5 := fun t ht => by
   rcases hT2 with rfl | ⟨rfl, _⟩
   ·rcases List.mem_append.1 ht with q | q
    ·exact h5' t q
    ·rw [List.mem_singleton.1 q, List.length_map]; exact ll5
   ·exact h5' t ht
  have T2l : (T2.length = L.length + 1) ∨ (T2.length = L.length ∧ A3 ≠ 0) := by
   rcases hT2 with rfl | ⟨rfl, q⟩
   ·left; rw [List.length_append, tlen]; rfl
   ·right; exact ⟨tlen, q⟩
  have tT2 := tot_le _ T25
  have r1 := replay_told wk.toTold (by omega) (by omega) (by omega)
  obtain ⟨v5, vs5, K5, a5, li5, g5, ea5⟩ := oneRepl li4 4 60 50 9
  rw [show replayS (A1.crash zs []) 4 60 50 9 = _ from r1] at g5 ea5
  obtain ⟨X5, hX5⟩ : ∃ X5, X5 = K5 ++ [ABlk.rw [v5, .int .i64 (((50 + tot T2) % 60 : Nat) : Int), .int .u32 (9 + (T2.length : Int))]] := ⟨_, rfl⟩
  have A5 : Adds K5 X5 := ⟨_, hX5⟩
  have cx5 : cellsOf X5 K5.length = some [v5, .int .i64 (((50 + tot T2) % 60 : Nat) : Int), .int .u32 (9 + (T2.length : Int))] := by rw [hX5]; unfold cellsOf; simp
  have li5' := li5.add A5
  have hbX5 := li5'.old.cells hb
  obtain ⟨w6, w6', K6, tw6, ei6⟩ := imagesC (pst.adds li5'.old) (by omega)
  have li6 := li5'.add tw6.old
  have hbK6 := li6.old.cells hb
  have cx6 := tw6.old.cells cx5
  have lF5 := li5'.m.lt
  obtain ⟨K7, F7, li7, st7, ea7⟩ := oneAppd2 li6 (f := ((4 : Nat) : Int)) (cc := ((60 : Nat) : Int)) (a := (((50 + tot T2) % 60 : Nat) : Int)) (s := 9 + (T2.length : Int)) (by omega) tw6.ga (fun b hb2 hf => by have := (tw6.ga.out b hb2).1; have := lF5 b hf; omega) (prI_b48 tl) (by rw [List.length_map]; omega) (by omega)
  obtain ⟨at1, td7⟩ := append_told wk (by omega) (by omega) gt (by rw [List.length_map]; omega)
  generalize appdS (A1.crash zs []) ((4 : Nat) : Int) ((60 : Nat) : Int) (((50 + tot T2) % 60 : Nat) : Int) (9 + (T2.length : Int)) (tl.map prI) = C at *
  obtain ⟨C1, C2, C3⟩ := C
  simp only [Prod.mk.injEq] at ea7 li7 at1 td7
  obtain ⟨rfl, rfl⟩ := at1
  rw [show ((4 : Nat) : Int) = 4 from rfl, show ((60 : Nat) : Int) = 60 from rfl] at ea7
  have hbK7 := li7.old.cells hb
  have nb5 : ¬ F3 K5.length := fun hf => by have := li4.m.lt _ hf; have := a5.len; omega
  have cx7 := st7.1.cells cx6 nb5
  have g6K7 : GR 49 K7 X5.length w6 _ := tw6.ga.frS st7.1 fun b hb2 hf => by have := (tw6.ga.out b hb2).1; have := lF5 b hf; omega
  have g1K7 : GR 49 K7 H3.length w1 _ := ((g1K4.frS (Fr.adds (a5.trans (A5.trans tw6.old)) (fun _ => False)) fun _ _ h => h)).frS st7.1 fun b hb2 hf => nF3 b hb2 hf
  have T3len : (T2 ++ [tl.map prI]).length = T2.length + 1 := by rw [List.length_append]; rfl
  have r2 := replay_told td7 (by omega) (by omega) (by rw [T3len]; omega)
  obtain ⟨v8, vs8, K8, a8, li8, g8, ea8⟩ := oneRepl li7 4 60 50 9
  rw [show replayS C1 4 60 50 9 = _ from r2] at g8 ea8
  obtain ⟨X8, hX8⟩ : ∃ X8, X8 = K8 ++ [ABlk.rw [v8, .int .i64 (((50 + tot (T2 ++ [tl.map prI])) % 60 : Nat) : Int), .int .u32 (9 + ((T2 ++ [tl.map prI]).length : Int))]] := ⟨_, rfl⟩
  have A8 : Adds K8 X8 := ⟨_, hX8⟩
  have cx8 : cellsOf X8 K8.length = some [v8, .int .i64 (((50 + tot (T2 ++ [tl.map prI])) % 60 : Nat) : Int), .int .u32 (9 + ((T2 ++ [tl.map prI]).length : Int))] := by rw [hX8]; unfold cellsOf; simp
  have a78 := a8.trans A8
  have cy8 := a78.cells cx7
  have hbX8 := a78.cells hbK7
  have li8' := li8.add A8
  have tsX := ts.adds li8'.old
  have q5 := g5.lenSl
  have q8 := g8.lenSl
  simp only at q5 q8
  have l2 := tornL2 hbX8 tsX (by omega) h5 (g8.fr (Fr.adds A8 (fun _ => False)) fun _ _ h => h) cx8 (g1K7.frS (Fr.adds a78 (fun _ => False)) fun _ _ h => h) (g6K7.frS (Fr.adds a78 (fun _ => False)) fun _ _ h => h) (by simp only; rw [T3len]; omega) (fun t ht => by
    rcases List.mem_append.1 ht with q | q
    ·exact T25 t q
    ·rw [List.mem_singleton.1 q, List.length_map]; exact tt5) (fun i l hl => by
    rcases hT2 with rfl | ⟨rfl, _⟩
    ·rw [List.append_assoc]; exact get_snoc hl _
    ·exact get_snoc hl _) (fun i t ht h1 h2 => by
    simp only at ht h2
    rw [T3len] at h2
    rcases hT2 with rfl | ⟨rfl, _⟩
    ·rw [List.length_append, tlen] at h2
     have : i = L.length := by simp at h2; omega
     subst this
     rw [List.append_assoc, List.getElem?_append_right (by rw [tlen]; exact Nat.le_refl _), tlen, Nat.sub_self] at ht
     exact (Option.some.inj ht).symm
    ·rw [tlen] at h2; omega) (fun i t ht h1 h2 => by
    simp only at ht h2
    have lt := (List.getElem?_eq_some_iff.1 ht).1
    rw [T3len] at h2 lt
    have : i = T2.length := by omega
    subst this
    rw [List.getElem?_append_right (Nat.le_refl _), Nat.sub_self] at ht
    exact (Option.some.inj ht).symm) (k := (T2 ++ [tl.map prI]).length) (i := 0) (K := X8)
  rw [show ((0 : Nat) : Int) = 0 from rfl] at l2
  have cv5 := g5.g.cells.2
  have cv8 := g8.g.cells.2
  have hX5 := hX5.symm
  have hX8 := hX8.symm
  have bb : ∀ q : Int, (q == q) = true := fun q => by simp
  have nn : ∀ q : Int, (q != q) = false := fun q => by simp
  have wL1 : IntKind.i64.wrap ((L.length : Int) + 1) = (L.length : Int) + 1 := wrap64 (by omega) (by omega)
  have wT1 : IntKind.i64.wrap ((T2.length : Int) + 1) = (T2.length : Int) + 1 := wrap64 (by omega) (by omega)
  have q9 : lenSl v8 = some (.int .i64 ((T2.length : Int) + 1)) := by rw [q8, T3len]; push_cast; rfl
  obtain ⟨b1, hb1⟩ : ∃ b, (((T2.length : Int)) != (L.length : Int)) = b := ⟨_, rfl⟩
  obtain ⟨b2, hb2⟩ : ∃ b, (((T2.length : Int)) != (L.length : Int) + 1) = b := ⟨_, rfl⟩
  obtain ⟨b3, hb3'⟩ : ∃ b, (A3 == 0) = b := ⟨_, rfl⟩
  have hcase : (b1 = false ∧ b3 = false) ∨ b2 = false := by
   rcases T2l with e | ⟨e, ne⟩
   ·right; rw [← hb2, e]; push_cast; simp
   ·left; exact ⟨by rw [← hb1, e]; simp, by rw [← hb3']; simpa using ne⟩
  unfold LP at l2
  generalize (((50 + tot (txI L)) % 60 : Nat) : Int) = pe0 at *
  generalize (((50 + tot T2) % 60 : Nat) : Int) = pe2 at *
  generalize (((50 + tot (T2 ++ [tl.map prI])) % 60 : Nat) : Int) = pe3 at *
  generalize ((T2 ++ [tl.map prI]).length : Int) = n3 at *
  clear T25 hT2 wk r1 r2 td7 fr tc
  rcases hcase with ⟨rfl, rfl⟩ | rfl
  ·simp -implicitDefEqProofs (maxSteps := 5000000) only [go_sem, Nat.reduceShiftRight, Nat.reduceAnd, Nat.reduceBNe, Int.reduceEq, Nat.reduceAdd, Nat.reduceSub, Nat.reduceMul, Nat.reduceLeDiff, reduceIte, reduceCtorEq, Nat.reduceBEq, Nat.reduceEqDiff, wrap64, runC_loop, runC_range, callF_fn, callV_fn, callV_yld, yield_eq, yieldBody, yieldRaw, roundMid, roundEnd, rangeEnd, Bool.not_not, put_cons, put_nil, trim_same, at_zero, at_add, set_zero, set_add, store_one, write_zero, write_add, write_head, write_succ, splice_one, splice_more, List.drop_nil, List.take_nil, cell_int, cell_bool, fillS, splice_one, idxA, Ex.isNormal, List.set_nil, List.length_set, List.all_cons, List.all_nil, Bool.and_self, and_self, true_and, and_true, List.getElem?_nil, Int.reduceLT, Int.reduceLE, Int.reduceToNat, Int.toNat_zero, Int.toNat_one, Int.reduceAdd, Int.reduceSub, Int.reduceMul, Int.reduceNeg, Int.reduceBEq, Int.reduceBNe, Int.reduceGE, Int.reduceGT, Nat.reduceLT, trim_keep, under_fn, under_ptr, under_sl, Nat.lt_irrefl, not_lt_add, trim_tail, keepOk, ABlk.vals, Int.cast_ofNat_Int, decide_true, decide_false, List.all_cons, List.all_nil, Nat.zero_mul, Nat.mul_one, Nat.one_mul, runC_loop, o_wakes, o_call, hb3, ei1, hbK1, w0, rm, ea2, hbK2, ea3, hbK3, cells_old hbK3, ap1, hbG1, ea4, hbK4, ea5, hX5, cv5, cx5, hbX5, q5, hb1, hb3', wA, n00, ei6, hbK6, cx6, ea7, hbK7, cx7, ea8, hX8, cv8, cx8, cy8, hbX8, q9, wT1, nn]
   generalize (envL prog).loop (runC (envO prog (knows 12)) (l7x2 (envO prog (knows 12)))) = LL at l2 ⊢
   refine outs_ctx (fun r => seqR (blockR 2 r) _) (l2 _ _ _ _ _ _ _ _ _ _ _ _ _ _ _ _ _ _ _ _ _ _ _ _ _ _ _ _ _ _ _ _ _ _ _ _ _ _ _ _ _ _ _ _ _ _ _ _ _ _ _ _ _ _ _ _ _ _ _ _ _ _ _ _ _ _ _ _ _ _ _ _ _ _ _ _ _ _ _ _ _ _ _ _ _ _ _ _ _ _ _ _ _ _ _ _ _ _ _ _ _ _ _ _ _ _ _ _ _ _ _ _ _ _ _ _ _ _ _ _ _ _ _ _ _ _ _ _ _ _ _ _ _ _ _ _ _ _ _ _ _ _ _ _ _ _ _ _ _ _ _ _ _ _ _ _ _ _ _ _ _ _ _ _ _ _ _ _ _ _ _ _ _ _ _ _ _ _ _ _ _ _ _ _ _ _ _ _ _ _ _ _ _ _ _ _ _ _ _ _ _ _ _ _ _ _ _ _ _ _ _ _ _ _ _ _ _ _ _ _ _ _ _ _ _ _ _ _ _ _ _ _ _ _ _ _ _ _ _ _ _ _ _ _ _ _ _ _ _ _ _ (Adds.refl _) (Nat.zero_add _)) ?_
   rintro e t H6 ⟨rfl, fv, rfl⟩
   simp -implicitDefEqProofs (maxSteps := 5000000) only [go_sem, Nat.reduceShiftRight, Nat.reduceAnd, Nat.reduceBNe, Int.reduceEq, Nat.reduceAdd, Nat.reduceSub, Nat.reduceMul, Nat.reduceLeDiff, reduceIte, reduceCtorEq, Nat.reduceBEq, Nat.reduceEqDiff, wrap64, runC_loop, runC_range, callF_fn, callV_fn, callV_yld, yield_eq, yieldBody, yieldRaw, roundMid, roundEnd, rangeEnd, Bool.not_not, put_cons, put_nil, trim_same, at_zero, at_add, set_zero, set_add, store_one, write_zero, write_add, write_head, write_succ, splice_one, splice_more, List.drop_nil, List.take_nil, cell_int, cell_bool, fillS, splice_one, idxA, Ex.isNormal, List.set_nil, List.length_set, List.all_cons, List.all_nil, Bool.and_self, and_self, true_and, and_true, List.getElem?_nil, Int.reduceLT, Int.reduceLE, Int.reduceToNat, Int.toNat_zero, Int.toNat_one, Int.reduceAdd, Int.reduceSub, Int.reduceMul, Int.reduceNeg, Int.reduceBEq, Int.reduceBNe, Int.reduceGE, Int.reduceGT, Nat.reduceLT, trim_keep, under_fn, under_ptr, under_sl, Nat.lt_irrefl, not_lt_add, trim_tail, keepOk, ABlk.vals, Int.cast_ofNat_Int, decide_true, decide_false, List.all_cons, List.all_nil, Nat.zero_mul, Nat.mul_one, Nat.one_mul, o_wakes, o_call, outs_normal]
   subst hQ
   simp -implicitDefEqProofs (maxSteps := 5000000) only [go_sem, Nat.reduceShiftRight, Nat.reduceAnd, Nat.reduceBNe, Int.reduceEq, Nat.reduceAdd, Nat.reduceSub, Nat.reduceMul, Nat.reduceLeDiff, reduceIte, reduceCtorEq, Nat.reduceBEq, Nat.reduceEqDiff]
  ·cases b1 <;> cases b3 <;>
   ·simp -implicitDefEqProofs (maxSteps := 5000000) only [go_sem, Nat.reduceShiftRight, Nat.reduceAnd, Nat.reduceBNe, Int.reduceEq, Nat.reduceAdd, Nat.reduceSub, Nat.reduceMul, Nat.reduceLeDiff, reduceIte, reduceCtorEq, Nat.reduceBEq, Nat.reduceEqDiff, wrap64, runC_loop, runC_range, callF_fn, callV_fn, callV_yld, yield_eq, yieldBody, yieldRaw, roundMid, roundEnd, rangeEnd, Bool.not_not, put_cons, put_nil, trim_same, at_zero, at_add, set_zero, set_add, store_one, write_zero, write_add, write_head, write_succ, splice_one, splice_more, List.drop_nil, List.take_nil, cell_int, cell_bool, fillS, splice_one, idxA, Ex.isNormal, List.set_nil, List.length_set, List.all_cons, List.all_nil, Bool.and_self, and_self, true_and, and_true, List.getElem?_nil, Int.reduceLT, Int.reduceLE, Int.reduceToNat, Int.toNat_zero, Int.toNat_one, Int.reduceAdd, Int.reduceSub, Int.reduceMul, Int.reduceNeg, Int.reduceBEq, Int.reduceBNe, Int.reduceGE, Int.reduceGT, Nat.reduceLT, trim_keep, under_fn, under_ptr, under_sl, Nat.lt_irrefl, not_lt_add, trim_tail, keepOk, ABlk.vals, Int.cast_ofNat_Int, decide_true, decide_false, List.all_cons, List.all_nil, Nat.zero_mul, Nat.mul_one, Nat.one_mul, runC_loop, o_wakes, o_call, hb3, ei1, hbK1, w0, rm, ea2, hbK2, ea3, hbK3, cells_old hbK3, ap1, hbG1, ea4, hbK4, ea5, hX5, cv5, cx5, hbX5, q5, hb1, hb2, hb3', wL1, wA, n00, ei6, hbK6, cx6, ea7, hbK7, cx7, ea8, hX8, cv8, cx8, cy8, hbX8, q9, wT1, nn]
    generalize (envL prog).loop (runC (envO prog (knows 12)) (l7x2 (envO prog (knows 12)))) = LL at l2 ⊢
    refine outs_ctx (fun r => seqR (blockR 2 r) _) (l2 _ _ _ _ _ _ _ _ _ _ _ _ _ _ _ _ _ _ _ _ _ _ _ _ _ _ _ _ _ _ _ _ _ _ _ _ _ _ _ _ _ _ _ _ _ _ _ _ _ _ _ _ _ _ _ _ _ _ _ _ _ _ _ _ _ _ _ _ _ _ _ _ _ _ _ _ _ _ _ _ _ _ _ _ _ _ _ _ _ _ _ _ _ _ _ _ _ _ _ _ _ _ _ _ _ _ _ _ _ _ _ _ _ _ _ _ _ _ _ _ _ _ _ _ _ _ _ _ _ _ _ _ _ _ _ _ _ _ _ _ _ _ _ _ _ _ _ _ _ _ _ _ _ _ _ _ _ _ _ _ _ _ _ _ _ _ _ _ _ _ _ _ _ _ _ _ _ _ _ _ _ _ _ _ _ _ _ _ _ _ _ _ _ _ _ _ _ _ _ _ _ _ _ _ _ _ _ _ _ _ _ _ _ _ _ _ _ _ _ _ _ _ _ _ _ _ _ _ _ _ _ _ _ _ _ _ _ _ _ _ _ _ _ _ _ _ _ _ _ _ _ (Adds.refl _) (Nat.zero_add _)) ?_
    rintro e t H6 ⟨rfl, fv, rfl⟩
    simp -implicitDefEqProofs (maxSteps := 5000000) only [go_sem, Nat.reduceShiftRight, Nat.reduceAnd, Nat.reduceBNe, Int.reduceEq, Nat.reduceAdd, Nat.reduceSub, Nat.reduceMul, Nat.reduceLeDiff, reduceIte, reduceCtorEq, Nat.reduceBEq, Nat.reduceEqDiff, wrap64, runC_loop, runC_range, callF_fn, callV_fn, callV_yld, yield_eq, yieldBody, yieldRaw, roundMid, roundEnd, rangeEnd, Bool.not_not, put_cons, put_nil, trim_same, at_zero, at_add, set_zero, set_add, store_one, write_zero, write_add, write_head, write_succ, splice_one, splice_more, List.drop_nil, List.take_nil, cell_int, cell_bool, fillS, splice_one, idxA, Ex.isNormal, List.set_nil, List.length_set, List.all_cons, List.all_nil, Bool.and_self, and_self, true_and, and_true, List.getElem?_nil, Int.reduceLT, Int.reduceLE, Int.reduceToNat, Int.toNat_zero, Int.toNat_one, Int.reduceAdd, Int.reduceSub, Int.reduceMul, Int.reduceNeg, Int.reduceBEq, Int.reduceBNe, Int.reduceGE, Int.reduceGT, Nat.reduceLT, trim_keep, under_fn, under_ptr, under_sl, Nat.lt_irrefl, not_lt_add, trim_tail, keepOk, ABlk.vals, Int.cast_ofNat_Int, decide_true, decide_false, List.all_cons, List.all_nil, Nat.zero_mul, Nat.mul_one, Nat.one_mul, o_wakes, o_call, outs_normal]
    subst hQ
    simp -implicitDefEqProofs (maxSteps := 5000000) only [go_sem, Nat.reduceShiftRight, Nat.reduceAnd, Nat.reduceBNe, Int.reduceEq, Nat.reduceAdd, Nat.reduceSub, Nat.reduceMul, Nat.reduceLeDiff, reduceIte, reduceCtorEq, Nat.reduceBEq, Nat.reduceEqDiff]
 ·simp -implicitDefEqProofs (maxSteps := 5000000) only [go_sem, Nat.reduceShiftRight, Nat.reduceAnd, Nat.reduceBNe, Int.reduceEq, Nat.reduceAdd, Nat.reduceSub, Nat.reduceMul, Nat.reduceLeDiff, reduceIte, reduceCtorEq, Nat.reduceBEq, Nat.reduceEqDiff, outs_normal]
  subst hQ
  simp -implicitDefEqProofs (maxSteps := 5000000) only [go_sem, Nat.reduceShiftRight, Nat.reduceAnd, Nat.reduceBNe, Int.reduceEq, Nat.reduceAdd, Nat.reduceSub, Nat.reduceMul, Nat.reduceLeDiff, reduceIte, reduceCtorEq, Nat.reduceBEq, Nat.reduceEqDiff, f6]
end Go.Proofs.Ytipedaadjfhdnaa.G06
end
