/- What the functions that RingStops reaches answer, for every argument. No condition but those in each statement. -/
import Derived.Test.YtipedaadjfhdnaaIB
import Derived.Test.YtipedaadjfhdnaaGA
import Derived.Test.YtipedaadjfhdnaaRA
import Derived.Test.YtipedaadjfhdnaaE6
set_option linter.unusedSimpArgs false
set_option linter.unusedVariables false
set_option linter.unusedSectionVars false
set_option maxRecDepth 10000
section
namespace Go.Proofs.Ytipedaadjfhdnaa.G06
open Go Go.Proofs.Ytipedaadjfhdnaa.Eng
structure TS (H : AHeap) (v : AV) (L : List (List PrS)) : Prop where
 len : lenSl v = some (.int .i64 L.length)
 row : ∀ (i : Nat) (l : List PrS), L[i]? = some l → ∃ a b cs, idxAddrS 1 v (.int .i64 (i : Int)) = some (.ptr b i) ∧ cellsOf H b = some cs ∧ cs[i]? = some a ∧ i + 1 ≤ cs.length ∧ PS H a l ∧ l.length ≤ 9223372036854775807
 sz : L.length ≤ 9223372036854775807
theorem TS.adds {H H' : AHeap} {v : AV} {L : List (List PrS)} (t : TS H v L) (a : Adds H H') : TS H' v L :=
 ⟨t.len, fun i l hl => by obtain ⟨x, b, cs, h1, h2, h3, h4, h5, h6⟩ := t.row i l hl; exact ⟨x, b, cs, h1, a.cells h2, h3, h4, h5.adds a, h6⟩, t.sz⟩
theorem txns_of {h : AHeap} : ∀ {rows : List (List AV)}, (∀ r ∈ rows, DatR h [.sl [.int .i64, .int .i64]] r) → ∃ (L : List (List PrS)), L.length = rows.length ∧ ∀ (i : Nat) (l : List PrS), L[i]? = some l → ∃ a, rows[i]? = some [a] ∧ PS h a l ∧ l.length ≤ 9223372036854775807
 | [], _ => ⟨[], rfl, fun i l hl => by simp at hl⟩
 | r :: rows, hr => by
  obtain ⟨L, e, hL⟩ := txns_of (rows := rows) fun r hm => hr r (by simp [hm])
  have hd := hr r (by simp)
  cases hd with
  | cons d1 t => cases t with
   | nil =>
    obtain ⟨l, ps, hl, _⟩ := pairs_dat d1
    refine ⟨l :: L, by simp [e], fun i x hx => ?_⟩
    cases i with
    | zero =>
     have : l = x := by simpa using hx
     subst this
     exact ⟨_, rfl, ps, hl⟩
    | succ i => exact hL i x (by simpa using hx)
theorem txns_dat {h : AHeap} {v : AV} (d : DatC h (.sl [.sl [.int .i64, .int .i64]]) v) : ∃ L, TS h v L := by
 obtain ⟨rows, rs, rd, hn⟩ := d.rows
 have rs : RS 1 h v rows := rs
 obtain ⟨L, e, hL⟩ := txns_of rd
 refine ⟨L, by rw [e]; exact rs.len, fun i l hl => ?_, by omega⟩
 obtain ⟨a, ha, ps, hl2⟩ := hL i l hl
 obtain ⟨b, cs, ix, hc, hg, _, hle, _⟩ := RS.idx (by omega) rs ha .i64
 rw [Nat.mul_one] at ix hg hle
 exact ⟨a, b, cs, ix, hc, by have := hg 0 (by omega); simpa using this, hle, ps, hl2⟩
def txI (L : List (List PrS)) : List (List ImS) := L.map fun l => l.map prI
theorem txI_len (L : List (List PrS)) : (txI L).length = L.length := by simp [txI]
theorem txI_get {L : List (List PrS)} {i : Nat} {l : List PrS} (h : L[i]? = some l) : (txI L)[i]? = some (l.map prI) := by unfold txI; rw [List.getElem?_map, h]; rfl
theorem right_good {l : List PrS} {c : Nat} (h : rightS l 5 = true) (hc : 6 ≤ c) : GoodT c (l.map prI) ∧ l.length ≤ 5 := by
 unfold rightS at h
 simp only [Bool.and_eq_true, decide_eq_true_eq] at h
 obtain ⟨h1, h2, h3⟩ := h
 have h3 : l.length ≤ 5 := by omega
 refine ⟨⟨by rw [List.length_map]; exact h2, ?_, prI_b48 l, by rw [List.length_map]; omega⟩, h3⟩
 rw [List.all_map]; exact h1
theorem tot_le : ∀ (T : List (List ImS)), (∀ t ∈ T, t.length ≤ 5) → tot T ≤ 6 * T.length
 | [], _ => Nat.le_refl _
 | t :: T, h => by
  have := h t (by simp)
  have := tot_le T fun x hx => h x (by simp [hx])
  rw [tot_cons, List.length_cons]; omega
section
variable {h0 H : AHeap} {p c : Nat} {r : RgS} {F : Nat → Prop} (li : LI h0 H p c r F)
include li
theorem LI.add {K : AHeap} (a : Adds H K) : LI h0 K p c r F := by obtain ⟨X, rfl⟩ := a; exact li.adds X
theorem LI.up {c' : Nat} (h : c ≤ c') (hb : c' ≤ 1000000000) : LI h0 H p c' r F := ⟨RigIn.up li.m h hb, li.old, li.out⟩
theorem LI.fr {H' : AHeap} {P : Nat → Prop} (a : Fr H H' P) (n : ∀ x, P x → h0.length ≤ x ∧ ¬ F x) : LI h0 H' p c r F :=
 ⟨li.m.fr a fun x hx hp => (n x hp).2 hx, a.old li.old fun x hx hp => (by have := (n x hp).1; omega), li.out⟩
theorem oneRepl (f cc a s : Int) : ∃ v vs K, Adds H K ∧ LI h0 K p c r F ∧ LogH K H.length v (replayS r f cc a s).1.t vs ∧
  (envL prog).call 8 [.ptr p 0, .int .i64 f, .int .i64 cc, .int .i64 a, .int .u32 s] H = some (.tup [.agg [v, .int .i64 (replayS r f cc a s).1.at_, .int .u32 (replayS r f cc a s).1.seq], .int .i64 (replayS r f cc a s).2], K) := by
 obtain ⟨x, rfl, m⟩ := li.m.at
 obtain ⟨v, vs, K1, a1, l1, e1⟩ := replayC m f cc a s
 exact ⟨v, vs, _, a1, li.add a1, l1, e1⟩
theorem oneAppd {f cc a s : Int} (hs : 0 ≤ s ∧ s < 4294967296) {v w : AV} {l : List ImS} {H1 : AHeap} (tw : Two H H1 v w l) (h48 : ∀ x ∈ l, B48 x.b) (hl : l.length ≤ 300) (hn : c + 400 ≤ 1000000000) :
  ∃ H2 F', LI h0 H2 p (c + 400) (appdS r f cc a s l).1 F' ∧ (∀ b, b < H1.length → ¬ F b → H2[b]? = H1[b]?) ∧ H1.length ≤ H2.length ∧ (∀ b, F' b → F b ∨ H1.length ≤ b) ∧
  (envL prog).call 9 [.ptr p 0, .int .i64 f, .int .i64 cc, .int .i64 a, .int .u32 s, v] H1 = some (.tup [.int .i64 (appdS r f cc a s l).2.1, .int .i64 (appdS r f cc a s l).2.2], H2) := by
 have lF := li.m.lt
 have l1 := li.add tw.old
 obtain ⟨x, rfl, m⟩ := l1.m.at
 obtain ⟨n2, H2, F2, hn2, m2, st2, e2⟩ := appdC m (f := f) (c := cc) (a := a) hs tw.ga (fun b hb hf => by have := (tw.ga.out b hb).1; have := lF b hf; omega) h48 (by omega) (by omega)
 have l2 := l1.step m2.rin st2
 exact ⟨H2, F2, LI.up l2 (by omega) hn, fun b hb hf => st2.1.2 b hb hf, st2.1.1, st2.2, e2⟩
end
end Go.Proofs.Ytipedaadjfhdnaa.G06
end
section
namespace Go.Proofs.Ytipedaadjfhdnaa.G06
open Go Go.Proofs.Ytipedaadjfhdnaa.Eng
def secP (p0 : Nat) (L : List (List PrS)) : Nat → Int
 | 0 => (p0 : Int)
 | _ + 1 => (((p0 + tot (txI (L.take 1))) % 50 : Nat) : Int)
theorem take_more {L : List (List PrS)} {i : Nat} {l : List PrS} (h : L[i]? = some l) : txI (L.take (i + 1)) = txI (L.take i) ++ [l.map prI] := by
 unfold txI; rw [List.take_add_one, h, List.map_append]; rfl
theorem take_len (L : List (List PrS)) {i : Nat} (h : i ≤ L.length) : (txI (L.take i)).length = i := by rw [txI_len, List.length_take]; omega
theorem five {L : List (List PrS)} {i : Nat} (h : ∀ l ∈ L.take i, l.length ≤ 5) : ∀ t ∈ txI (L.take i), t.length ≤ 5 := fun t ht => by
 obtain ⟨l, hl, rfl⟩ := List.mem_map.1 ht
 rw [List.length_map]; exact h l hl
theorem rem_place (a : Nat) (n : Nat) (c : Nat) : ((a : Int) + (n : Int) + 1).tmod (c : Int) = (((a + (n + 1)) % c : Nat) : Int) := by
 rw [show ((a : Int) + (n : Int) + 1) = ((a + (n + 1) : Nat) : Int) by push_cast; omega, tmod_nat]
set_option maxHeartbeats 16000000 in
theorem stopsL {h0 : AHeap} {v : AV} {L : List (List PrS)} (ts : TS h0 v L) (hL : L.length ≤ 7) {rp p0 : Nat} (hp : p0 < 50) (x1 x2 x3 x4 x5 x8 x11 x18 x19 x20 x21 x22 x23 x24 x25 x26 x27 x28 x29 x30 x31 x32 x33 x34 x35 x36 x37 x38 x39 x40 x41 x42 x43 x44 x45 x46 x47 x48 x99 x100 x101 x102 x103 x104 x105 x106 x107 x108 x109 x110 x111 x112 x113 x114 x115 x116 x117 x118 x119 x120 x121 x122 x123 x124 x125 x126 x127 x128 x129 x130 x131 x132 x133 x134 x135 x136 x137 x138 x139 x140 x141 x142 x143 x144 x145 x146 x147 x148 x149 x150 x151 x152 x153 x154 x155 x156 x157 x158 x159 x160 x161 x162 x163 x164 x165 x166 x167 x168 x169 x170 x171 x172 x173 x174 x175 x176 x177 x178 x179 x180 x181 x182 x183 x184 x185 x186 x187 x188 x189 x190 x191 x192 x193 x194 x195 x196 x197 x198 x199 x200 x201 x202 x203 : AV) : ∀ (k i : Nat) (H : AHeap) (r : RgS) (F : Nat → Prop) (j14 j15 j16 j17 j49 j50 j51 j52 j53 j54 j55 j56 j57 j58 j59 j60 j61 j62 j63 j64 j65 j66 j67 j68 j69 j70 j71 j72 j73 j74 j75 j76 j77 j78 j79 j80 j81 j82 j83 j84 j85 j86 j87 j88 j89 j90 j91 j92 j93 j94 j95 j96 j97 j98 : AV), LI h0 H rp (i * 400) r F → Frs r 3 50 p0 7 (txI (L.take i)) → (∀ l ∈ L.take i, l.length ≤ 5) → i + k = L.length →
  Outs (LP l4x0 [v, x1, x2, x3, x4, x5, .bool false, .ptr rp 0, x8, .int .i64 (((p0 + tot (txI (L.take i))) % 50 : Nat) : Int), .int .u32 (7 + (i : Int)), x11, .int .i64 (secP p0 L i), .int .i64 (i : Int), j14, j15, j16, j17, x18, x19, x20, x21, x22, x23, x24, x25, x26, x27, x28, x29, x30, x31, x32, x33, x34, x35, x36, x37, x38, x39, x40, x41, x42, x43, x44, x45, x46, x47, x48, j49, j50, j51, j52, j53, j54, j55, j56, j57, j58, j59, j60, j61, j62, j63, j64, j65, j66, j67, j68, j69, j70, j71, j72, j73, j74, j75, j76, j77, j78, j79, j80, j81, j82, j83, j84, j85, j86, j87, j88, j89, j90, j91, j92, j93, j94, j95, j96, j97, j98, x99, x100, x101, x102, x103, x104, x105, x106, x107, x108, x109, x110, x111, x112, x113, x114, x115, x116, x117, x118, x119, x120, x121, x122, x123, x124, x125, x126, x127, x128, x129, x130, x131, x132, x133, x134, x135, x136, x137, x138, x139, x140, x141, x142, x143, x144, x145, x146, x147, x148, x149, x150, x151, x152, x153, x154, x155, x156, x157, x158, x159, x160, x161, x162, x163, x164, x165, x166, x167, x168, x169, x170, x171, x172, x173, x174, x175, x176, x177, x178, x179, x180, x181, x182, x183, x184, x185, x186, x187, x188, x189, x190, x191, x192, x193, x194, x195, x196, x197, x198, x199, x200, x201, x202, x203] H) fun e t H' => (e = .exit 0 ∧ ∃ r' F', LI h0 H' rp (L.length * 400) r' F' ∧ Frs r' 3 50 p0 7 (txI L) ∧ (∀ l ∈ L, l.length ≤ 5) ∧ ∃ fv : Nat → AV, t = [v, x1, x2, x3, x4, x5, (fv 6), .ptr rp 0, x8, .int .i64 (((p0 + tot (txI L)) % 50 : Nat) : Int), .int .u32 (7 + (L.length : Int)), x11, .int .i64 (secP p0 L L.length), (fv 13), (fv 14), (fv 15), (fv 16), (fv 17), x18, x19, x20, x21, x22, x23, x24, x25, x26, x27, x28, x29, x30, x31, x32, x33, x34, x35, x36, x37, x38, x39, x40, x41, x42, x43, x44, x45, x46, x47, x48, (fv 49), (fv 50), (fv 51), (fv 52), (fv 53), (fv 54), (fv 55), (fv 56), (fv 57), (fv 58), (fv 59), (fv 60), (fv 61), (fv 62), (fv 63), (fv 64), (fv 65), (fv 66), (fv 67), (fv 68), (fv 69), (fv 70), (fv 71), (fv 72), (fv 73), (fv 74), (fv 75), (fv 76), (fv 77), (fv 78), (fv 79), (fv 80), (fv 81), (fv 82), (fv 83), (fv 84), (fv 85), (fv 86), (fv 87), (fv 88), (fv 89), (fv 90), (fv 91), (fv 92), (fv 93), (fv 94), (fv 95), (fv 96), (fv 97), (fv 98), x99, x100, x101, x102, x103, x104, x105, x106, x107, x108, x109, x110, x111, x112, x113, x114, x115, x116, x117, x118, x119, x120, x121, x122, x123, x124, x125, x126, x127, x128, x129, x130, x131, x132, x133, x134, x135, x136, x137, x138, x139, x140, x141, x142, x143, x144, x145, x146, x147, x148, x149, x150, x151, x152, x153, x154, x155, x156, x157, x158, x159, x160, x161, x162, x163, x164, x165, x166, x167, x168, x169, x170, x171, x172, x173, x174, x175, x176, x177, x178, x179, x180, x181, x182, x183, x184, x185, x186, x187, x188, x189, x190, x191, x192, x193, x194, x195, x196, x197, x198, x199, x200, x201, x202, x203]) ∨ (e = .ret ∧ ∃ fv : Nat → AV, t = [v, x1, x2, x3, x4, x5, (fv 6), .ptr rp 0, x8, (fv 9), (fv 10), x11, (fv 12), (fv 13), (fv 14), (fv 15), (fv 16), (fv 17), x18, x19, x20, x21, x22, x23, x24, x25, x26, x27, x28, x29, x30, x31, x32, x33, x34, x35, x36, x37, x38, x39, x40, x41, x42, x43, x44, x45, x46, x47, x48, (fv 49), (fv 50), (fv 51), (fv 52), (fv 53), (fv 54), (fv 55), (fv 56), (fv 57), (fv 58), (fv 59), (fv 60), (fv 61), (fv 62), (fv 63), (fv 64), (fv 65), (fv 66), (fv 67), (fv 68), (fv 69), (fv 70), (fv 71), (fv 72), (fv 73), (fv 74), (fv 75), (fv 76), (fv 77), (fv 78), (fv 79), (fv 80), (fv 81), (fv 82), (fv 83), (fv 84), (fv 85), (fv 86), (fv 87), (fv 88), (fv 89), (fv 90), (fv 91), (fv 92), (fv 93), (fv 94), (fv 95), (fv 96), (fv 97), (fv 98), x99, x100, x101, x102, x103, x104, x105, x106, x107, x108, x109, x110, x111, x112, x113, x114, x115, x116, x117, x118, x119, x120, x121, x122, x123, x124, x125, x126, x127, x128, x129, x130, x131, x132, x133, x134, x135, x136, x137, x138, x139, x140, x141, x142, x143, x144, x145, x146, x147, x148, x149, x150, x151, x152, x153, x154, x155, x156, x157, x158, x159, x160, x161, x162, x163, x164, x165, x166, x167, x168, x169, x170, x171, x172, x173, x174, x175, x176, x177, x178, x179, x180, x181, x182, x183, x184, x185, x186, x187, x188, x189, x190, x191, x192, x193, x194, x195, x196, x197, x198, x199, x200, x201, x202, x203] ∧ fv 6 = .bool true) := by
 intro k
 obtain ⟨L0, hL0⟩ : ∃ L, L = LP l4x0 := ⟨_, rfl⟩
 have lo := loop_open hL0
 have wl := ts.len
 rw [← hL0]
 induction k with
 | zero =>
  intro i H r F j14 j15 j16 j17 j49 j50 j51 j52 j53 j54 j55 j56 j57 j58 j59 j60 j61 j62 j63 j64 j65 j66 j67 j68 j69 j70 j71 j72 j73 j74 j75 j76 j77 j78 j79 j80 j81 j82 j83 j84 j85 j86 j87 j88 j89 j90 j91 j92 j93 j94 j95 j96 j97 j98 li fr h5 hi
  obtain rfl : i = L.length := by omega
  have hd : decide ((L.length : Int) < (L.length : Int)) = false := by simp
  rw [List.take_length] at fr h5
  rw [List.take_length, lo]
  unfold l4x0
  simp -implicitDefEqProofs (maxSteps := 5000000) only [go_sem, Nat.reduceShiftRight, Nat.reduceAnd, Nat.reduceBNe, Int.reduceEq, Nat.reduceAdd, Nat.reduceSub, Nat.reduceMul, Nat.reduceLeDiff, reduceIte, reduceCtorEq, Nat.reduceBEq, Nat.reduceEqDiff, wl, hd, seqR_exit', outs_normal]
  exact .inl ⟨r, F, li, fr, h5, exF rfl⟩
 | succ k ih =>
  intro i H r F j14 j15 j16 j17 j49 j50 j51 j52 j53 j54 j55 j56 j57 j58 j59 j60 j61 j62 j63 j64 j65 j66 j67 j68 j69 j70 j71 j72 j73 j74 j75 j76 j77 j78 j79 j80 j81 j82 j83 j84 j85 j86 j87 j88 j89 j90 j91 j92 j93 j94 j95 j96 j97 j98 li fr h5 hi
  have hlt : i < L.length := by omega
  have hd : decide ((i : Int) < (L.length : Int)) = true := decide_eq_true (by omega)
  have e2 : IntKind.i64.wrap ((i : Int) + 1) = ((i + 1 : Nat) : Int) := by rw [wrap64 (by omega) (by omega)]; omega
  have hx := List.getElem?_eq_getElem hlt
  generalize L[i] = l at hx
  obtain ⟨a, b, cs, ix, hc0, ha, hle, ps, pn⟩ := ts.row i l hx
  have hc := li.old.cells hc0
  have psH := ps.adds li.old
  have er := rightC psH pn 5
  have wl2 := psH.len
  by_cases hr : rightS l 5 = true
  ·rw [hr] at er
   obtain ⟨g, l5⟩ := right_good (c := 50) hr (by omega)
   obtain ⟨u, u', K, tw, ei⟩ := imagesC psH (by omega)
   have tl := tot_le _ (five h5)
   rw [take_len L (by omega)] at tl
   obtain ⟨H2, F2, l2, keep, len2, new2, ea⟩ := oneAppd li (f := ((3 : Nat) : Int)) (cc := ((50 : Nat) : Int)) (a := (((p0 + tot (txI (L.take i))) % 50 : Nat) : Int)) (s := 7 + (i : Int)) (by omega) tw (prI_b48 l) (by rw [List.length_map]; omega) (by omega)
   have ap := append_frs fr g (by rw [List.length_map]; omega)
   rw [take_len L (by omega)] at ap
   obtain ⟨ap1, ap2⟩ := ap
   rw [← take_more hx] at ap1 ap2
   generalize appdS r ((3 : Nat) : Int) ((50 : Nat) : Int) (((p0 + tot (txI (L.take i))) % 50 : Nat) : Int) (7 + (i : Int)) (l.map prI) = A at *
   obtain ⟨A1, A2, A3⟩ := A
   simp only [Prod.mk.injEq] at ap1 ap2 ea l2
   obtain ⟨rfl, rfl⟩ := ap1
   rw [show ((3 : Nat) : Int) = 3 from rfl, show ((50 : Nat) : Int) = 50 from rfl] at ea
   have hc2 := l2.old.cells hc0
   have hck := (tw.old.cells hc)
   have lt : (p0 + tot (txI (L.take i))) % 50 < 50 := Nat.mod_lt _ (by omega)
   have w1 : IntKind.i64.wrap ((((p0 + tot (txI (L.take i))) % 50 : Nat) : Int) + (l.length : Int)) = (((p0 + tot (txI (L.take i))) % 50 : Nat) : Int) + (l.length : Int) := wrap64 (by omega) (by omega)
   have w2 : IntKind.i64.wrap ((((p0 + tot (txI (L.take i))) % 50 : Nat) : Int) + (l.length : Int) + 1) = (((p0 + tot (txI (L.take i))) % 50 : Nat) : Int) + (l.length : Int) + 1 := wrap64 (by omega) (by omega)
   have rm := int_rem .none .i64 ((((p0 + tot (txI (L.take i))) % 50 : Nat) : Int) + (l.length : Int) + 1) 50 (by omega)
   have ee : ((((p0 + tot (txI (L.take i))) % 50 : Nat) : Int) + (l.length : Int) + 1).tmod 50 = (((p0 + tot (txI (L.take (i + 1)))) % 50 : Nat) : Int) := by
    have := rem_place ((p0 + tot (txI (L.take i))) % 50) l.length 50
    rw [show ((50 : Nat) : Int) = 50 from rfl] at this
    rw [this, Nat.mod_add_mod, take_more hx, tot_snoc, List.length_map, Nat.add_assoc]
   rw [ee] at rm
   have nn : ∀ x : Int, (x != x) = false := fun x => by simp
   have n00 : ((0 : Int) != 0) = false := rfl
   have w3 : IntKind.u32.wrap (7 + (i : Int) + 1) = 7 + ((i + 1 : Nat) : Int) := by show (7 + (i : Int) + 1) % 4294967296 = _; omega
   have h5' : ∀ x ∈ L.take (i + 1), x.length ≤ 5 := fun x hx2 => by
    rw [List.take_add_one, hx] at hx2
    rcases List.mem_append.1 hx2 with q | q
    ·exact h5 x q
    ·rw [show x = l by simpa using q]; exact l5
   have l2' : LI h0 H2 rp ((i + 1) * 400) A1 F2 := l2.up (by omega) (by omega)
   have key := fun j14 j15 j16 j17 j49 j50 j51 j52 j53 j54 j55 j56 j57 j58 j59 j60 j61 j62 j63 j64 j65 j66 j67 j68 j69 j70 j71 j72 j73 j74 j75 j76 j77 j78 j79 j80 j81 j82 j83 j84 j85 j86 j87 j88 j89 j90 j91 j92 j93 j94 j95 j96 j97 j98 => ih (i + 1) H2 A1 F2 j14 j15 j16 j17 j49 j50 j51 j52 j53 j54 j55 j56 j57 j58 j59 j60 j61 j62 j63 j64 j65 j66 j67 j68 j69 j70 j71 j72 j73 j74 j75 j76 j77 j78 j79 j80 j81 j82 j83 j84 j85 j86 j87 j88 j89 j90 j91 j92 j93 j94 j95 j96 j97 j98 l2' ap2 h5' (by omega)
   by_cases h0' : i = 0
   ·have z0 : (((i : Nat) : Int) == 0) = true := by subst h0'; rfl
    have es : secP p0 L (i + 1) = (((p0 + tot (txI (L.take (i + 1)))) % 50 : Nat) : Int) := by subst h0'; rfl
    rw [es] at key
    generalize (((p0 + tot (txI (L.take (i + 1)))) % 50 : Nat) : Int) = pe at *
    generalize (((p0 + tot (txI (L.take i))) % 50 : Nat) : Int) = pb at *
    generalize secP p0 L i = sp0 at *
    rw [lo]
    unfold l4x0
    simp -implicitDefEqProofs (maxSteps := 5000000) only [go_sem, Nat.reduceShiftRight, Nat.reduceAnd, Nat.reduceBNe, Int.reduceEq, Nat.reduceAdd, Nat.reduceSub, Nat.reduceMul, Nat.reduceLeDiff, reduceIte, reduceCtorEq, Nat.reduceBEq, Nat.reduceEqDiff, wrap64, runC_loop, runC_range, callF_fn, callV_fn, callV_yld, yield_eq, yieldBody, yieldRaw, roundMid, roundEnd, rangeEnd, Bool.not_not, put_cons, put_nil, trim_same, at_zero, at_add, set_zero, set_add, store_one, write_zero, write_add, write_head, write_succ, splice_one, splice_more, List.drop_nil, List.take_nil, cell_int, cell_bool, fillS, splice_one, idxA, Ex.isNormal, List.set_nil, List.length_set, List.all_cons, List.all_nil, Bool.and_self, and_self, true_and, and_true, List.getElem?_nil, Int.reduceLT, Int.reduceLE, Int.reduceToNat, Int.toNat_zero, Int.toNat_one, Int.reduceAdd, Int.reduceSub, Int.reduceMul, Int.reduceNeg, Int.reduceBEq, Int.reduceBNe, Int.reduceGE, Int.reduceGT, Nat.reduceLT, trim_keep, under_fn, under_ptr, under_sl, Nat.lt_irrefl, not_lt_add, trim_tail, keepOk, ABlk.vals, Int.cast_ofNat_Int, decide_true, decide_false, List.all_cons, List.all_nil, Nat.zero_mul, Nat.mul_one, Nat.one_mul, o_call, o_wakes, wl, hd, e2, ix, hc, ha, er, ei, hck, hc2, ea, wl2, w1, w2, rm, nn, n00, w3, z0]
    exact key ..
   ·have z0 : (((i : Nat) : Int) == 0) = false := by simp [h0']
    have es : secP p0 L (i + 1) = secP p0 L i := by cases i with
     | zero => exact absurd rfl h0'
     | succ i => rfl
    rw [es] at key
    generalize (((p0 + tot (txI (L.take (i + 1)))) % 50 : Nat) : Int) = pe at *
    generalize (((p0 + tot (txI (L.take i))) % 50 : Nat) : Int) = pb at *
    generalize secP p0 L i = sp0 at *
    rw [lo]
    unfold l4x0
    simp -implicitDefEqProofs (maxSteps := 5000000) only [go_sem, Nat.reduceShiftRight, Nat.reduceAnd, Nat.reduceBNe, Int.reduceEq, Nat.reduceAdd, Nat.reduceSub, Nat.reduceMul, Nat.reduceLeDiff, reduceIte, reduceCtorEq, Nat.reduceBEq, Nat.reduceEqDiff, wrap64, runC_loop, runC_range, callF_fn, callV_fn, callV_yld, yield_eq, yieldBody, yieldRaw, roundMid, roundEnd, rangeEnd, Bool.not_not, put_cons, put_nil, trim_same, at_zero, at_add, set_zero, set_add, store_one, write_zero, write_add, write_head, write_succ, splice_one, splice_more, List.drop_nil, List.take_nil, cell_int, cell_bool, fillS, splice_one, idxA, Ex.isNormal, List.set_nil, List.length_set, List.all_cons, List.all_nil, Bool.and_self, and_self, true_and, and_true, List.getElem?_nil, Int.reduceLT, Int.reduceLE, Int.reduceToNat, Int.toNat_zero, Int.toNat_one, Int.reduceAdd, Int.reduceSub, Int.reduceMul, Int.reduceNeg, Int.reduceBEq, Int.reduceBNe, Int.reduceGE, Int.reduceGT, Nat.reduceLT, trim_keep, under_fn, under_ptr, under_sl, Nat.lt_irrefl, not_lt_add, trim_tail, keepOk, ABlk.vals, Int.cast_ofNat_Int, decide_true, decide_false, List.all_cons, List.all_nil, Nat.zero_mul, Nat.mul_one, Nat.one_mul, o_call, o_wakes, wl, hd, e2, ix, hc, ha, er, ei, hck, hc2, ea, wl2, w1, w2, rm, nn, n00, w3, z0]
    exact key ..
  ·have hr := Bool.eq_false_iff.2 hr
   rw [hr] at er
   rw [lo]
   unfold l4x0
   simp -implicitDefEqProofs (maxSteps := 5000000) only [go_sem, Nat.reduceShiftRight, Nat.reduceAnd, Nat.reduceBNe, Int.reduceEq, Nat.reduceAdd, Nat.reduceSub, Nat.reduceMul, Nat.reduceLeDiff, reduceIte, reduceCtorEq, Nat.reduceBEq, Nat.reduceEqDiff, wrap64, runC_loop, runC_range, callF_fn, callV_fn, callV_yld, yield_eq, yieldBody, yieldRaw, roundMid, roundEnd, rangeEnd, Bool.not_not, put_cons, put_nil, trim_same, at_zero, at_add, set_zero, set_add, store_one, write_zero, write_add, write_head, write_succ, splice_one, splice_more, List.drop_nil, List.take_nil, cell_int, cell_bool, fillS, splice_one, idxA, Ex.isNormal, List.set_nil, List.length_set, List.all_cons, List.all_nil, Bool.and_self, and_self, true_and, and_true, List.getElem?_nil, Int.reduceLT, Int.reduceLE, Int.reduceToNat, Int.toNat_zero, Int.toNat_one, Int.reduceAdd, Int.reduceSub, Int.reduceMul, Int.reduceNeg, Int.reduceBEq, Int.reduceBNe, Int.reduceGE, Int.reduceGT, Nat.reduceLT, trim_keep, under_fn, under_ptr, under_sl, Nat.lt_irrefl, not_lt_add, trim_tail, keepOk, ABlk.vals, Int.cast_ofNat_Int, decide_true, decide_false, List.all_cons, List.all_nil, Nat.zero_mul, Nat.mul_one, Nat.one_mul, o_call, o_wakes, wl, hd, e2, ix, hc, ha, er, seqR_ret, outs_normal]
   exact .inr (exF2 rfl rfl)
end Go.Proofs.Ytipedaadjfhdnaa.G06
end
section
namespace Go.Proofs.Ytipedaadjfhdnaa.G06
open Go Go.Proofs.Ytipedaadjfhdnaa.Eng
set_option maxHeartbeats 8000000 in
theorem stopsL1 {H : AHeap} {v : AV} {l0 : List PrS} {L : List (List PrS)} (ts : TS H v (l0 :: L)) (hL : L.length ≤ 7) {B bx : Nat} {w : AV} {ws : List AV} (lg : LogH H B w (txI L) ws) {x y : AV} (cx : cellsOf H bx = some [w, x, y]) (x1 x2 x3 x4 x5 x7 x8 x9 x10 x11 x12 x13 x14 x15 x16 x17 x18 x19 x21 x22 x23 x25 x26 x27 x28 x29 x30 x31 x32 x33 x34 x35 x36 x37 x38 x39 x40 x41 x42 x43 x44 x45 x46 x47 x48 x49 x50 x51 x52 x53 x54 x55 x56 x57 x58 x59 x60 x61 x62 x63 x64 x65 x66 x67 x68 x69 x70 x71 x72 x73 x74 x75 x76 x77 x78 x79 x80 x81 x82 x83 x84 x85 x86 x87 x88 x89 x90 x91 x92 x93 x94 x95 x96 x97 x98 x99 x100 x101 x102 x103 x104 x105 x106 x107 x108 x109 x110 x111 x112 x113 x114 x115 x116 x117 x118 x119 x120 x121 x122 x123 x124 x125 x126 x127 x128 x129 x130 x131 x132 x133 x134 x135 x136 x137 x138 x139 x140 x141 x142 x143 x144 x145 x146 x147 x148 x149 x150 x151 x152 x153 x154 x155 x156 x157 x158 x159 x160 x161 x162 x163 x164 x165 x166 x167 x168 x169 x170 x171 x172 x173 x174 x175 x176 x177 x178 x179 x180 x181 x182 x203 : AV) : ∀ (k i : Nat) (j6 j183 j184 j185 j186 j187 j188 j189 j190 j191 j192 j193 j194 j195 j196 j197 j198 j199 j200 j201 j202 : AV), i + k = L.length →
  Outs (LP l4x1 [v, x1, x2, x3, x4, x5, j6, x7, x8, x9, x10, x11, x12, x13, x14, x15, x16, x17, x18, x19, .ptr bx 0, x21, x22, x23, .int .i64 (i : Int), x25, x26, x27, x28, x29, x30, x31, x32, x33, x34, x35, x36, x37, x38, x39, x40, x41, x42, x43, x44, x45, x46, x47, x48, x49, x50, x51, x52, x53, x54, x55, x56, x57, x58, x59, x60, x61, x62, x63, x64, x65, x66, x67, x68, x69, x70, x71, x72, x73, x74, x75, x76, x77, x78, x79, x80, x81, x82, x83, x84, x85, x86, x87, x88, x89, x90, x91, x92, x93, x94, x95, x96, x97, x98, x99, x100, x101, x102, x103, x104, x105, x106, x107, x108, x109, x110, x111, x112, x113, x114, x115, x116, x117, x118, x119, x120, x121, x122, x123, x124, x125, x126, x127, x128, x129, x130, x131, x132, x133, x134, x135, x136, x137, x138, x139, x140, x141, x142, x143, x144, x145, x146, x147, x148, x149, x150, x151, x152, x153, x154, x155, x156, x157, x158, x159, x160, x161, x162, x163, x164, x165, x166, x167, x168, x169, x170, x171, x172, x173, x174, x175, x176, x177, x178, x179, x180, x181, x182, j183, j184, j185, j186, j187, j188, j189, j190, j191, j192, j193, j194, j195, j196, j197, j198, j199, j200, j201, j202, x203] H) fun e t H' => e = .exit 2 ∧ ∃ k : Nat → AV, t = [v, x1, x2, x3, x4, x5, (k 6), x7, x8, x9, x10, x11, x12, x13, x14, x15, x16, x17, x18, x19, .ptr bx 0, x21, x22, x23, (k 24), x25, x26, x27, x28, x29, x30, x31, x32, x33, x34, x35, x36, x37, x38, x39, x40, x41, x42, x43, x44, x45, x46, x47, x48, x49, x50, x51, x52, x53, x54, x55, x56, x57, x58, x59, x60, x61, x62, x63, x64, x65, x66, x67, x68, x69, x70, x71, x72, x73, x74, x75, x76, x77, x78, x79, x80, x81, x82, x83, x84, x85, x86, x87, x88, x89, x90, x91, x92, x93, x94, x95, x96, x97, x98, x99, x100, x101, x102, x103, x104, x105, x106, x107, x108, x109, x110, x111, x112, x113, x114, x115, x116, x117, x118, x119, x120, x121, x122, x123, x124, x125, x126, x127, x128, x129, x130, x131, x132, x133, x134, x135, x136, x137, x138, x139, x140, x141, x142, x143, x144, x145, x146, x147, x148, x149, x150, x151, x152, x153, x154, x155, x156, x157, x158, x159, x160, x161, x162, x163, x164, x165, x166, x167, x168, x169, x170, x171, x172, x173, x174, x175, x176, x177, x178, x179, x180, x181, x182, (k 183), (k 184), (k 185), (k 186), (k 187), (k 188), (k 189), (k 190), (k 191), (k 192), (k 193), (k 194), (k 195), (k 196), (k 197), (k 198), (k 199), (k 200), (k 201), (k 202), x203] := by
 intro k
 obtain ⟨L0, hL0⟩ : ∃ L, L = LP l4x1 := ⟨_, rfl⟩
 have lo := loop_open hL0
 have wl := lg.lenSl
 rw [txI_len] at wl
 rw [← hL0]
 induction k with
 | zero =>
  intro i j6 j183 j184 j185 j186 j187 j188 j189 j190 j191 j192 j193 j194 j195 j196 j197 j198 j199 j200 j201 j202 hi
  obtain rfl : i = L.length := by omega
  have hd : decide ((L.length : Int) < (L.length : Int)) = false := by simp
  rw [lo]
  unfold l4x1
  simp -implicitDefEqProofs (maxSteps := 5000000) only [go_sem, Nat.reduceShiftRight, Nat.reduceAnd, Nat.reduceBNe, Int.reduceEq, Nat.reduceAdd, Nat.reduceSub, Nat.reduceMul, Nat.reduceLeDiff, reduceIte, reduceCtorEq, Nat.reduceBEq, Nat.reduceEqDiff, cx, wl, hd, seqR_exit', outs_normal]
  exact exF rfl
 | succ k ih =>
  intro i j6 j183 j184 j185 j186 j187 j188 j189 j190 j191 j192 j193 j194 j195 j196 j197 j198 j199 j200 j201 j202 hi
  have hlt : i < L.length := by omega
  have hd : decide ((i : Int) < (L.length : Int)) = true := decide_eq_true (by omega)
  have e2 : IntKind.i64.wrap ((i : Int) + 1) = ((i + 1 : Nat) : Int) := by rw [wrap64 (by omega) (by omega)]; omega
  have hx := List.getElem?_eq_getElem hlt
  generalize L[i] = l at hx
  obtain ⟨a, b, cs, ix, hc, ha, hle, ps, pn⟩ := ts.row (i + 1) l (by simpa using hx)
  obtain ⟨a2, b2, cs2, _, _, ix2, hc2, ha2, _, g2, _⟩ := lg.row (txI_get hx)
  have w1 := ps.len
  have w2 := im_len g2
  rw [List.length_map] at w2
  have nn : ∀ x : Int, (x != x) = false := fun x => by simp
  rw [lo]
  unfold l4x1
  simp -implicitDefEqProofs (maxSteps := 5000000) only [go_sem, Nat.reduceShiftRight, Nat.reduceAnd, Nat.reduceBNe, Int.reduceEq, Nat.reduceAdd, Nat.reduceSub, Nat.reduceMul, Nat.reduceLeDiff, reduceIte, reduceCtorEq, Nat.reduceBEq, Nat.reduceEqDiff, wrap64, runC_loop, runC_range, callF_fn, callV_fn, callV_yld, yield_eq, yieldBody, yieldRaw, roundMid, roundEnd, rangeEnd, Bool.not_not, put_cons, put_nil, trim_same, at_zero, at_add, set_zero, set_add, store_one, write_zero, write_add, write_head, write_succ, splice_one, splice_more, List.drop_nil, List.take_nil, cell_int, cell_bool, fillS, splice_one, idxA, Ex.isNormal, List.set_nil, List.length_set, List.all_cons, List.all_nil, Bool.and_self, and_self, true_and, and_true, List.getElem?_nil, Int.reduceLT, Int.reduceLE, Int.reduceToNat, Int.toNat_zero, Int.toNat_one, Int.reduceAdd, Int.reduceSub, Int.reduceMul, Int.reduceNeg, Int.reduceBEq, Int.reduceBNe, Int.reduceGE, Int.reduceGT, Nat.reduceLT, trim_keep, under_fn, under_ptr, under_sl, Nat.lt_irrefl, not_lt_add, trim_tail, keepOk, ABlk.vals, Int.cast_ofNat_Int, decide_true, decide_false, List.all_cons, List.all_nil, Nat.zero_mul, Nat.mul_one, Nat.one_mul, cx, wl, hd, e2, ix, hc, ha, ix2, hc2, ha2, w1, w2, nn]
  exact ih (i + 1) _ _ _ _ _ _ _ _ _ _ _ _ _ _ _ _ _ _ _ _ _ (by omega)
set_option maxHeartbeats 32000000 in
theorem ringStops (v : AV) (at_ off : Int) (ka : 0 ≤ at_ ∧ at_ ≤ 255) (ko : 0 ≤ off ∧ off ≤ 255) (h : AHeap) (d : DatC h (.sl [.sl [.int .i64, .int .i64]]) v) : ∃ h', callBody prog EO 4 [v, .int .u8 at_, .int .u8 off] h = some (.bool true, h') := by
 obtain ⟨L, ts⟩ := txns_dat d
 have wl := ts.len
 rw [d4]
 unfold b4 EO
 refine of_outs ?_
 generalize hQ : (fun (e : Ex) (t : T) (h1 : AHeap) => fin [.tmp 6] (some (e, t, h1)) = some (AV.bool true, h1)) = Q
 by_cases hn0 : L = []
 ·subst hn0
  rw [List.length_nil, show ((0 : Nat) : Int) = 0 from rfl] at wl
  simp -implicitDefEqProofs (maxSteps := 5000000) only [go_sem, Nat.reduceShiftRight, Nat.reduceAnd, Nat.reduceBNe, Int.reduceEq, Nat.reduceAdd, Nat.reduceSub, Nat.reduceMul, Nat.reduceLeDiff, reduceIte, reduceCtorEq, Nat.reduceBEq, Nat.reduceEqDiff, wrap64, runC_loop, runC_range, callF_fn, callV_fn, callV_yld, yield_eq, yieldBody, yieldRaw, roundMid, roundEnd, rangeEnd, Bool.not_not, put_cons, put_nil, trim_same, at_zero, at_add, set_zero, set_add, store_one, write_zero, write_add, write_head, write_succ, splice_one, splice_more, List.drop_nil, List.take_nil, cell_int, cell_bool, fillS, splice_one, idxA, Ex.isNormal, List.set_nil, List.length_set, List.all_cons, List.all_nil, Bool.and_self, and_self, true_and, and_true, List.getElem?_nil, Int.reduceLT, Int.reduceLE, Int.reduceToNat, Int.toNat_zero, Int.toNat_one, Int.reduceAdd, Int.reduceSub, Int.reduceMul, Int.reduceNeg, Int.reduceBEq, Int.reduceBNe, Int.reduceGE, Int.reduceGT, Nat.reduceLT, trim_keep, under_fn, under_ptr, under_sl, Nat.lt_irrefl, not_lt_add, trim_tail, keepOk, ABlk.vals, Int.cast_ofNat_Int, decide_true, decide_false, List.all_cons, List.all_nil, Nat.zero_mul, Nat.mul_one, Nat.one_mul, o_wakes, o_call, wl, outs_normal]
  subst hQ
  simp -implicitDefEqProofs (maxSteps := 5000000) only [go_sem, Nat.reduceShiftRight, Nat.reduceAnd, Nat.reduceBNe, Int.reduceEq, Nat.reduceAdd, Nat.reduceSub, Nat.reduceMul, Nat.reduceLeDiff, reduceIte, reduceCtorEq, Nat.reduceBEq, Nat.reduceEqDiff]
 have hp := List.length_pos_iff.2 hn0
 have z0 : ((L.length : Int) == 0) = false := by simp; exact hn0
 by_cases h7 : (L.length : Int) > 7
 ·have d7 := decide_eq_true h7
  simp -implicitDefEqProofs (maxSteps := 5000000) only [go_sem, Nat.reduceShiftRight, Nat.reduceAnd, Nat.reduceBNe, Int.reduceEq, Nat.reduceAdd, Nat.reduceSub, Nat.reduceMul, Nat.reduceLeDiff, reduceIte, reduceCtorEq, Nat.reduceBEq, Nat.reduceEqDiff, wrap64, runC_loop, runC_range, callF_fn, callV_fn, callV_yld, yield_eq, yieldBody, yieldRaw, roundMid, roundEnd, rangeEnd, Bool.not_not, put_cons, put_nil, trim_same, at_zero, at_add, set_zero, set_add, store_one, write_zero, write_add, write_head, write_succ, splice_one, splice_more, List.drop_nil, List.take_nil, cell_int, cell_bool, fillS, splice_one, idxA, Ex.isNormal, List.set_nil, List.length_set, List.all_cons, List.all_nil, Bool.and_self, and_self, true_and, and_true, List.getElem?_nil, Int.reduceLT, Int.reduceLE, Int.reduceToNat, Int.toNat_zero, Int.toNat_one, Int.reduceAdd, Int.reduceSub, Int.reduceMul, Int.reduceNeg, Int.reduceBEq, Int.reduceBNe, Int.reduceGE, Int.reduceGT, Nat.reduceLT, trim_keep, under_fn, under_ptr, under_sl, Nat.lt_irrefl, not_lt_add, trim_tail, keepOk, ABlk.vals, Int.cast_ofNat_Int, decide_true, decide_false, List.all_cons, List.all_nil, Nat.zero_mul, Nat.mul_one, Nat.one_mul, o_wakes, o_call, wl, z0, d7, outs_normal]
  subst hQ
  simp -implicitDefEqProofs (maxSteps := 5000000) only [go_sem, Nat.reduceShiftRight, Nat.reduceAnd, Nat.reduceBNe, Int.reduceEq, Nat.reduceAdd, Nat.reduceSub, Nat.reduceMul, Nat.reduceLeDiff, reduceIte, reduceCtorEq, Nat.reduceBEq, Nat.reduceEqDiff]
 have d7 := decide_eq_false h7
 obtain ⟨H1, F, lA, ea⟩ := rinNew (n0 := 60) (n1 := 1) (by omega) (by omega) (by omega) (by omega) h
 rw [show ((60 : Nat) : Int) = 60 from rfl, show ((1 : Nat) : Int) = 1 from rfl] at ea
 obtain ⟨p0, hp0⟩ : ∃ p0 : Nat, p0 = at_.toNat % 50 := ⟨_, rfl⟩
 have pl : p0 < 50 := by omega
 have wa : IntKind.i64.wrap at_ = at_ := wrap64 (by omega) (by omega)
 have rm := int_rem .none .i64 at_ 50 (by omega)
 have ra : at_.tmod 50 = (p0 : Int) := by
  obtain ⟨a, rfl⟩ : ∃ a : Nat, at_ = a := ⟨at_.toNat, by omega⟩
  rw [hp0, Int.toNat_natCast]; exact tmod_nat a 50
 rw [ra] at rm
 have fr0 : Frs (newRg 60 1) 3 50 p0 7 (txI (L.take 0)) := Frs.new (n := 60) rfl ⟨rfl, rfl⟩ (by omega) (by omega) (by omega)
 have pL := stopsL ts (by omega) pl (rp := h.length) (k := L.length) (i := 0) (H := H1) (r := newRg 60 1) (F := F)
 have e00 : (((p0 + tot (txI (L.take 0))) % 50 : Nat) : Int) = (p0 : Int) := by rw [List.take_zero]; show (((p0 + 0) % 50 : Nat) : Int) = _; rw [Nat.add_zero, Nat.mod_eq_of_lt pl]
 rw [e00, show ((0 : Nat) : Int) = 0 from rfl, show secP p0 L 0 = (p0 : Int) from rfl, show (7 : Int) + 0 = 7 from rfl] at pL
 have n00 : ((0 : Int) != 0) = false := rfl
 simp -implicitDefEqProofs (maxSteps := 5000000) only [go_sem, Nat.reduceShiftRight, Nat.reduceAnd, Nat.reduceBNe, Int.reduceEq, Nat.reduceAdd, Nat.reduceSub, Nat.reduceMul, Nat.reduceLeDiff, reduceIte, reduceCtorEq, Nat.reduceBEq, Nat.reduceEqDiff, wrap64, runC_loop, runC_range, callF_fn, callV_fn, callV_yld, yield_eq, yieldBody, yieldRaw, roundMid, roundEnd, rangeEnd, Bool.not_not, put_cons, put_nil, trim_same, at_zero, at_add, set_zero, set_add, store_one, write_zero, write_add, write_head, write_succ, splice_one, splice_more, List.drop_nil, List.take_nil, cell_int, cell_bool, fillS, splice_one, idxA, Ex.isNormal, List.set_nil, List.length_set, List.all_cons, List.all_nil, Bool.and_self, and_self, true_and, and_true, List.getElem?_nil, Int.reduceLT, Int.reduceLE, Int.reduceToNat, Int.toNat_zero, Int.toNat_one, Int.reduceAdd, Int.reduceSub, Int.reduceMul, Int.reduceNeg, Int.reduceBEq, Int.reduceBNe, Int.reduceGE, Int.reduceGT, Nat.reduceLT, trim_keep, under_fn, under_ptr, under_sl, Nat.lt_irrefl, not_lt_add, trim_tail, keepOk, ABlk.vals, Int.cast_ofNat_Int, decide_true, decide_false, List.all_cons, List.all_nil, Nat.zero_mul, Nat.mul_one, Nat.one_mul, runC_loop, o_wakes, o_call, wl, z0, d7, ea, n00, wa, rm]
 unfold LP at pL
 generalize (envL prog).loop (runC (envO prog (knows 12)) (l4x0 (envO prog (knows 12)))) = LL at pL ⊢
 refine outs_ctx (fun r => seqR (blockR 0 r) _) (pL _ _ _ _ _ _ _ _ _ _ _ _ _ _ _ _ _ _ _ _ _ _ _ _ _ _ _ _ _ _ _ _ _ _ _ _ _ _ _ _ _ _ _ _ _ _ _ _ _ _ _ _ _ _ _ _ _ _ _ _ _ _ _ _ _ _ _ _ _ _ _ _ _ _ _ _ _ _ _ _ _ _ _ _ _ _ _ _ _ _ _ _ _ _ _ _ _ _ _ _ _ _ _ _ _ _ _ _ _ _ _ _ _ _ _ _ _ _ _ _ _ _ _ _ _ _ _ _ _ _ _ _ _ _ _ _ _ _ _ _ _ _ _ _ _ _ _ _ _ _ _ _ _ _ _ _ _ _ _ _ _ _ _ _ _ _ _ _ _ _ _ _ _ _ _ _ _ _ _ _ _ _ _ _ _ _ _ _ _ _ _ _ _ _ _ _ _ (lA.up (by omega) (by omega)) fr0 (fun l hl => by simp at hl) (by omega)) ?_
 rintro e t H3 (⟨rfl, r', F', li, fr, h5, fv, rfl⟩ | ⟨rfl, fv, rfl, f6⟩)
 ·have td := (fr.wk (by omega) (by rw [txI_len]; omega)).toTold
  have tne : txI L ≠ [] := fun e => hn0 (by have := congrArg List.length e; rw [txI_len] at this; exact List.eq_nil_of_length_eq_zero this)
  obtain ⟨l0, L', rfl⟩ : ∃ l0 L', L = l0 :: L' := by
   cases L with
   | nil => exact absurd rfl hn0
   | cons a b => exact ⟨a, b, rfl⟩
  have r1 := replay_told td pl (by omega) (by rw [txI_len]; omega)
  have r2 := replay_tail (t := l0.map prI) (T := txI L') td (by omega) (by rw [List.length_cons, txI_len]; push_cast; simp only [List.length_cons] at h7; omega)
  have so : 8 + off ≠ 7 := by omega
  have r3 := replay_other td tne pl (by omega) so
  have e12 : secP p0 (l0 :: L') (l0 :: L').length = (((p0 + ((l0.map prI).length + 1)) % 50 : Nat) : Int) := by
   show (((p0 + tot (txI [l0])) % 50 : Nat) : Int) = _
   rw [show txI [l0] = [l0.map prI] from rfl, tot_cons, tot_nil, Nat.add_zero]
  rw [e12]
  have tl : ((txI (l0 :: L')).length : Int) = ((l0 :: L').length : Int) := by rw [txI_len]
  have hl0 : L'.length ≤ 7 := by simp only [List.length_cons] at h7; omega
  rw [show l0.map prI :: txI L' = txI (l0 :: L') from rfl, tl] at r2
  rw [tl] at r1
  obtain ⟨v1, vs1, K1, a1, li1, g1, ea1⟩ := oneRepl li 3 50 p0 7
  rw [show replayS r' 3 50 (p0 : Int) 7 = _ from r1] at g1 ea1
  obtain ⟨X1, hX1⟩ : ∃ X1, X1 = K1 ++ [ABlk.rw [v1, .int .i64 (((p0 + tot (txI (l0 :: L'))) % 50 : Nat) : Int), .int .u32 (7 + ((l0 :: L').length : Int))]] := ⟨_, rfl⟩
  have A1 : Adds K1 X1 := ⟨_, hX1⟩
  have cx1 : cellsOf X1 K1.length = some [v1, .int .i64 (((p0 + tot (txI (l0 :: L'))) % 50 : Nat) : Int), .int .u32 (7 + ((l0 :: L').length : Int))] := by rw [hX1]; unfold cellsOf; simp
  obtain ⟨v2, vs2, K2, a2, li2, g2, ea2⟩ := oneRepl (li1.add A1) 3 50 (((p0 + ((l0.map prI).length + 1)) % 50 : Nat) : Int) 8
  rw [show replayS r' 3 50 (((p0 + ((l0.map prI).length + 1)) % 50 : Nat) : Int) 8 = _ from r2] at g2 ea2
  obtain ⟨X2, hX2⟩ : ∃ X2, X2 = K2 ++ [ABlk.rw [v2, .int .i64 (((p0 + tot (txI (l0 :: L'))) % 50 : Nat) : Int), .int .u32 (7 + ((l0 :: L').length : Int))]] := ⟨_, rfl⟩
  have A2 : Adds K2 X2 := ⟨_, hX2⟩
  have cx2 : cellsOf X2 K2.length = some [v2, .int .i64 (((p0 + tot (txI (l0 :: L'))) % 50 : Nat) : Int), .int .u32 (7 + ((l0 :: L').length : Int))] := by rw [hX2]; unfold cellsOf; simp
  obtain ⟨v3, vs3, K3, a3, li3, g3, ea3⟩ := oneRepl (li2.add A2) 3 50 p0 (8 + off)
  rw [show replayS r' 3 50 (p0 : Int) (8 + off) = _ from r3] at g3 ea3
  obtain ⟨X3, hX3⟩ : ∃ X3, X3 = K3 ++ [ABlk.rw [v3, .int .i64 (p0 : Int), .int .u32 (8 + off)]] := ⟨_, rfl⟩
  have A3 : Adds K3 X3 := ⟨_, hX3⟩
  have cx3 : cellsOf X3 K3.length = some [v3, .int .i64 (p0 : Int), .int .u32 (8 + off)] := by rw [hX3]; unfold cellsOf; simp
  have cy1 := ((a2.trans A2).trans (a3.trans A3)).cells cx1
  have cy2 := (a3.trans A3).cells cx2
  have w1 := g1.lenSl
  have w2 := g2.lenSl
  have w3 := g3.lenSl
  rw [txI_len] at w1 w2
  simp only at w3 g2
  rw [List.length_nil, show ((0 : Nat) : Int) = 0 from rfl] at w3
  have lg := (g2.fr (Fr.adds (A2.trans (a3.trans A3)) (fun _ => False)) fun _ _ h => h)
  have wm : IntKind.i64.wrap (((l0 :: L').length : Int) - 1) = (L'.length : Int) := by rw [List.length_cons, wrap64 (by omega) (by omega)]; push_cast; omega
  have wo : IntKind.u32.wrap off = off := by show off % 4294967296 = _; omega
  have wo2 : IntKind.u32.wrap (8 + off) = 8 + off := by show (8 + off) % 4294967296 = _; omega
  have nn : ∀ x : Int, (x != x) = false := fun x => by simp
  have c1 := g1.g.cells.2
  have c2 := g2.g.cells.2
  have c3 := g3.g.cells.2
  have hX1 := hX1.symm
  have hX2 := hX2.symm
  have hX3 := hX3.symm
  have tsH := ts.adds (li3.old.trans A3)
  have wl0 := tsH.len
  have l1 := stopsL1 tsH hl0 lg cy2 (k := L'.length) (i := 0)
  rw [show ((0 : Nat) : Int) = 0 from rfl] at l1
  clear g1 g2 g3
  generalize (((p0 + tot (txI (l0 :: L'))) % 50 : Nat) : Int) = pe at *
  generalize (((p0 + ((l0.map prI).length + 1)) % 50 : Nat) : Int) = pb at *
  generalize ((l0 :: L').length : Int) = n1 at *
  simp -implicitDefEqProofs (maxSteps := 5000000) only [go_sem, Nat.reduceShiftRight, Nat.reduceAnd, Nat.reduceBNe, Int.reduceEq, Nat.reduceAdd, Nat.reduceSub, Nat.reduceMul, Nat.reduceLeDiff, reduceIte, reduceCtorEq, Nat.reduceBEq, Nat.reduceEqDiff, wrap64, runC_loop, runC_range, callF_fn, callV_fn, callV_yld, yield_eq, yieldBody, yieldRaw, roundMid, roundEnd, rangeEnd, Bool.not_not, put_cons, put_nil, trim_same, at_zero, at_add, set_zero, set_add, store_one, write_zero, write_add, write_head, write_succ, splice_one, splice_more, List.drop_nil, List.take_nil, cell_int, cell_bool, fillS, splice_one, idxA, Ex.isNormal, List.set_nil, List.length_set, List.all_cons, List.all_nil, Bool.and_self, and_self, true_and, and_true, List.getElem?_nil, Int.reduceLT, Int.reduceLE, Int.reduceToNat, Int.toNat_zero, Int.toNat_one, Int.reduceAdd, Int.reduceSub, Int.reduceMul, Int.reduceNeg, Int.reduceBEq, Int.reduceBNe, Int.reduceGE, Int.reduceGT, Nat.reduceLT, trim_keep, under_fn, under_ptr, under_sl, Nat.lt_irrefl, not_lt_add, trim_tail, keepOk, ABlk.vals, Int.cast_ofNat_Int, decide_true, decide_false, List.all_cons, List.all_nil, Nat.zero_mul, Nat.mul_one, Nat.one_mul, runC_loop, o_wakes, o_call, ea1, hX1, ea2, hX2, wo, wo2, ea3, hX3, c1, c2, c3, cy1, cy2, cx1, cx2, cx3, w1, w2, w3, wl0, wm, nn]
  unfold LP at l1
  generalize (envL prog).loop (runC (envO prog (knows 12)) (l4x1 (envO prog (knows 12)))) = LL at l1 ⊢
  refine outs_ctx (fun r => seqR (blockR 2 r) _) (l1 _ _ _ _ _ _ _ _ _ _ _ _ _ _ _ _ _ _ _ _ _ _ _ _ _ _ _ _ _ _ _ _ _ _ _ _ _ _ _ _ _ _ _ _ _ _ _ _ _ _ _ _ _ _ _ _ _ _ _ _ _ _ _ _ _ _ _ _ _ _ _ _ _ _ _ _ _ _ _ _ _ _ _ _ _ _ _ _ _ _ _ _ _ _ _ _ _ _ _ _ _ _ _ _ _ _ _ _ _ _ _ _ _ _ _ _ _ _ _ _ _ _ _ _ _ _ _ _ _ _ _ _ _ _ _ _ _ _ _ _ _ _ _ _ _ _ _ _ _ _ _ _ _ _ _ _ _ _ _ _ _ _ _ _ _ _ _ _ _ _ _ _ _ _ _ _ _ _ _ _ _ _ _ _ _ _ _ _ _ _ _ _ _ _ _ _ _ _ _ _ _ (by omega)) ?_
  rintro e t H6 ⟨rfl, fv, rfl⟩
  simp -implicitDefEqProofs (maxSteps := 5000000) only [go_sem, Nat.reduceShiftRight, Nat.reduceAnd, Nat.reduceBNe, Int.reduceEq, Nat.reduceAdd, Nat.reduceSub, Nat.reduceMul, Nat.reduceLeDiff, reduceIte, reduceCtorEq, Nat.reduceBEq, Nat.reduceEqDiff, wrap64, runC_loop, runC_range, callF_fn, callV_fn, callV_yld, yield_eq, yieldBody, yieldRaw, roundMid, roundEnd, rangeEnd, Bool.not_not, put_cons, put_nil, trim_same, at_zero, at_add, set_zero, set_add, store_one, write_zero, write_add, write_head, write_succ, splice_one, splice_more, List.drop_nil, List.take_nil, cell_int, cell_bool, fillS, splice_one, idxA, Ex.isNormal, List.set_nil, List.length_set, List.all_cons, List.all_nil, Bool.and_self, and_self, true_and, and_true, List.getElem?_nil, Int.reduceLT, Int.reduceLE, Int.reduceToNat, Int.toNat_zero, Int.toNat_one, Int.reduceAdd, Int.reduceSub, Int.reduceMul, Int.reduceNeg, Int.reduceBEq, Int.reduceBNe, Int.reduceGE, Int.reduceGT, Nat.reduceLT, trim_keep, under_fn, under_ptr, under_sl, Nat.lt_irrefl, not_lt_add, trim_tail, keepOk, ABlk.vals, Int.cast_ofNat_Int, decide_true, decide_false, List.all_cons, List.all_nil, Nat.zero_mul, Nat.mul_one, Nat.one_mul, o_wakes, o_call, outs_normal]
  subst hQ
  simp -implicitDefEqProofs (maxSteps := 5000000) only [go_sem, Nat.reduceShiftRight, Nat.reduceAnd, Nat.reduceBNe, Int.reduceEq, Nat.reduceAdd, Nat.reduceSub, Nat.reduceMul, Nat.reduceLeDiff, reduceIte, reduceCtorEq, Nat.reduceBEq, Nat.reduceEqDiff]
 ·simp -implicitDefEqProofs (maxSteps := 5000000) only [go_sem, Nat.reduceShiftRight, Nat.reduceAnd, Nat.reduceBNe, Int.reduceEq, Nat.reduceAdd, Nat.reduceSub, Nat.reduceMul, Nat.reduceLeDiff, reduceIte, reduceCtorEq, Nat.reduceBEq, Nat.reduceEqDiff, outs_normal]
  subst hQ
  simp -implicitDefEqProofs (maxSteps := 5000000) only [go_sem, Nat.reduceShiftRight, Nat.reduceAnd, Nat.reduceBNe, Int.reduceEq, Nat.reduceAdd, Nat.reduceSub, Nat.reduceMul, Nat.reduceLeDiff, reduceIte, reduceCtorEq, Nat.reduceBEq, Nat.reduceEqDiff, f6]
end Go.Proofs.Ytipedaadjfhdnaa.G06
end
